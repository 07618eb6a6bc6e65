/- Walks and plain laws of one claim, several texts in one. -/
import Derived.Test.YtkadeelplnkpgaaQ0
import Derived.Test.YtkadeelplnkpgaaQf104
import Derived.Test.YtkadeelplnkpgaaMFnExactCanPlacea
import Derived.Shelf.SortM.Plain
import Derived.Shelf.SortM.SortNone
import Derived.Sort.OwnSortedInts
import Derived.Test.YtkadeelplnkpgaaOwnWords
import Derived.Test.YtkadeelplnkpgaaQf107
import Derived.Test.YtkadeelplnkpgaaQf121
import Derived.Test.YtkadeelplnkpgaaQf54
import Derived.Test.YtkadeelplnkpgaaQf60
import Derived.Test.YtkadeelplnkpgaaOTreeC
import Derived.Test.YtkadeelplnkpgaaQf13
import Derived.Test.YtkadeelplnkpgaaQf15
import Derived.Test.YtkadeelplnkpgaaQf17
import Derived.Test.YtkadeelplnkpgaaQf19
import Derived.Test.YtkadeelplnkpgaaQf21
import Derived.Test.YtkadeelplnkpgaaQf40
import Derived.Test.YtkadeelplnkpgaaQf41
import Derived.Test.YtkadeelplnkpgaaWBMore
import Derived.Test.YtkadeelplnkpgaaOTypes
import Derived.Test.YtkadeelplnkpgaaQf62
import Derived.Test.YtkadeelplnkpgaaQf83
import Derived.Test.YtkadeelplnkpgaaQf58
import Derived.Test.YtkadeelplnkpgaaQf50
import Derived.Test.YtkadeelplnkpgaaQf72
import Derived.Test.YtkadeelplnkpgaaQf82
import Derived.Test.YtkadeelplnkpgaaQf125
import Derived.Test.YtkadeelplnkpgaaQf81
-- text Qf61
namespace Go.Proofs.Ytkadeelplnkpgaa.Q
open Go.RowKit Go.Proofs.YtkadeelplnkpgaaW.PrintWords Go.Proofs.YtkadeelplnkpgaaW.PrintLast Go.Proofs.YtkadeelplnkpgaaW.PrintMore
attribute [local go_sem] max2_int min2_int max_two min_two max_three min_three max_four min_four   -- for this text's walks alone
set_option linter.unusedVariables false
set_option linter.unusedSimpArgs false

/-! ### impl_Tree_domain: function 61 -/
def impl_Tree_domain.f (k : Nat) (l0_0 : List (S50)) (l0_1 : List (S108)) (a1 : Int) (a2 : Int) : Option (Int × Bool) := (impl_Tree_device.f l0_0 l0_1 a2).bind fun t328 => (if t328 < 0 then (some (0, false)) else (if a1 = 0 then (some (a2, true)) else ((impl_Tree_above.f k l0_0 l0_1 a2 a1).bind fun t329 => (some (t329, (t329 != 0))))))
set_option maxHeartbeats 8000000 in
set_option maxRecDepth 100000 in
theorem impl_Tree_domain.calls (k : Nat) (A0_0 : Option Addr) (c0_0 : Nat) (l0_0 : List (S50)) (A0_1 : Option Addr) (c0_1 : Nat) (l0_1 : List (S108)) (a1 : Int) (a2 : Int) (r1 : Int) (r2 : Bool) (w : World) (hr0_0 : Kd.C k50 w A0_0 l0_0.length l0_0) (hc0_0 : l0_0.length ≤ c0_0) (hr0_1 : Kd.C k108 w A0_1 l0_1.length l0_1) (hc0_1 : l0_1.length ≤ c0_1) (h : impl_Tree_domain.f k l0_0 l0_1 a1 a2 = some (r1, r2)) :
    Calls Try.prog 61 #[.agg #[.slice A0_0 l0_0.length c0_0, .slice A0_1 l0_1.length c0_1], .int .i64 a1, .int .i64 a2] w fun e w' => e = .returned (.tuple #[.int .i64 r1, .bool r2]) ∧ Below w.heap.size w w' := by
  have hu31 := Try.underlying31
  have HR0_0 := Aside0.mk hr0_0
  have HC0_0 := Aside0.mk hc0_0
  clear hr0_0 hc0_0
  have HR0_1 := Aside0.mk hr0_1
  have HC0_1 := Aside0.mk hc0_1
  clear hr0_1 hc0_1
  have HB := Aside0.mk (Below.refl w.heap.size w)
  have H : ((impl_Tree_device.f l0_0 l0_1 a2).bind fun t328 => (if t328 < 0 then (some (0, false)) else (if a1 = 0 then (some (a2, true)) else ((impl_Tree_above.f k l0_0 l0_1 a2 a1).bind fun t329 => (some (t329, (t329 != 0))))))) = some (r1, r2) := h
  clear h
  replace H := Option.bind_eq_some_iff.mp H
  obtain ⟨t328, A40, H⟩ := H
  replace H : (if t328 < 0 then (some (0, false)) else (if a1 = 0 then (some (a2, true)) else ((impl_Tree_above.f k l0_0 l0_1 a2 a1).bind fun t329 => (some (t329, (t329 != 0)))))) = some (r1, r2) := H
  have A4 := Aside0.mk A40
  clear A40
  by_cases c5 : t328 < 0
  · rw [if_pos c5] at H
    have c5b0 : decide (t328 < 0) = true := decide_eq_true c5
    clear c5
    simp only [Option.some.injEq, Prod.mk.injEq] at H
    obtain ⟨rfl, rfl⟩ := H
    go_enter Try.func61, Try.ntmps61
    go_wp2_with (first | ((with_reducible refine gate_dst (N := 3) rfl ?_); refine box_event ?hg (N := 3) ?hd (cs := #[.slice A0_0 l0_0.length c0_0, .slice A0_1 l0_1.length c0_1]) (t := 31) ?hr ?_; (case hd => rfl); (case hg => rfl); (case hr => first | (go_simp; done) | (go_simp; rfl)); intro gb327 hg w6 hbox hb; have n0_ := Aside0.mk (below_step (by repeat first | exact HB.out | apply below_alloc | apply pw_below_drewN | apply below_drew1) hb); have n1_ := Aside0.mk (hbox); have n2_ := Aside0.mk ((by rw [hg]; exact (below_size (by repeat first | exact HB.out | apply below_alloc | apply pw_below_drewN | apply below_drew1)) : w.heap.size ≤ gb327)); have n3_ := Aside0.mk ((by rw [hg]; exact (below_size (by repeat first | exact HB.out | apply below_alloc | apply pw_below_drewN | apply below_drew1)) : w.heap.size ≤ gb327)); clear HB; have HB := n0_; have BK327 := n1_; have GW327 := n2_; have GE327 := n3_; clear n0_ n1_ n2_ n3_; clear hb hbox hg; have hcz7_0 : w6.cell? ⟨gb327, 0, none⟩ = some (.slice A0_0 l0_0.length c0_0) := (blk_cell BK327.out 0).trans rfl; have hcz7_1 : w6.cell? ⟨gb327, 1, none⟩ = some (.slice A0_1 l0_1.length c0_1) := (blk_cell BK327.out 1).trans rfl; have hfz7_0 := blk_frozen BK327.out 0; have hfz7_1 := blk_frozen BK327.out 1) | ((with_reducible refine gate_callee (f := 104) rfl ?_); refine goesL_ (some 11) rfl rfl Try.func104 (by kernel_rfl) rfl #[.agg #[.slice A0_0 l0_0.length c0_0, .slice A0_1 l0_1.length c0_1], .int .i64 a2] rfl (by (try simp only [List.map_toArray, List.map_cons, List.map_nil]); first | done | rfl | (simp only [List.length_drop, List.length_take]; rfl)) ?_; (with_reducible refine (impl_Tree_device.calls _ _ l0_0 _ _ l0_1 a2 t328 _ ?side1 ?side2 ?side3 ?side4 A4.out).mono ?_); (case side1 => repeat (first | exact (Kd.C_below HR0_0.out HB.out) | (with_reducible refine Kd.C_alloc ?_ _) | (with_reducible refine Kd.C_drewN ?_ _) | (with_reducible refine Kd.C_drew ?_))); (case side2 => exact HC0_0.out); (case side3 => repeat (first | exact (Kd.C_below HR0_1.out HB.out) | (with_reducible refine Kd.C_alloc ?_ _) | (with_reducible refine Kd.C_drewN ?_ _) | (with_reducible refine Kd.C_drew ?_))); (case side4 => exact HC0_1.out); rintro e w8 ⟨rfl, hb⟩; refine ⟨_, rfl, ?_⟩; have n0_ := Aside0.mk (blk_below (g := gb327) (o := .cells #[.slice A0_0 l0_0.length c0_0, .slice A0_1 l0_1.length c0_1] 31 (0, 0)) (by (with_reducible repeat first | apply blk_drewN | apply blk_drew | apply blk_alloc); exact BK327.out) hb); have n1_ := Aside0.mk (below_step (by repeat (first | (with_reducible first | exact HB.out | apply below_alloc | apply pw_below_drewN | apply below_drew1 | refine below_set ?_ GE327.out) | exact HB.out)) hb); clear BK327; clear HB; have BK327 := n0_; have HB := n1_; clear n0_ n1_; (try clear hb); (try clear hb2); (try clear hk); (try clear hi)))
    go_ret2
    exact ⟨by first | rfl | (simp [*, errW_none, errW_some] <;> rfl), by repeat (first | (with_reducible first | exact HB.out | apply below_alloc | apply pw_below_drewN | apply below_drew1 | refine below_set ?_ GE327.out) | exact HB.out)⟩
  · rw [if_neg c5] at H
    have c5b0 : decide (t328 < 0) = false := decide_eq_false c5
    clear c5
    by_cases c9 : a1 = 0
    · rw [if_pos c9] at H
      have c9b0 : (a1 == 0) = true := beq_iff_eq.mpr c9
      have c9b1 : (a1 != 0) = false := bne_eq_false_iff_eq.mpr c9
      clear c9
      simp only [Option.some.injEq, Prod.mk.injEq] at H
      obtain ⟨rfl, rfl⟩ := H
      go_enter Try.func61, Try.ntmps61
      go_wp2_with (first | ((with_reducible refine gate_dst (N := 3) rfl ?_); refine box_event ?hg (N := 3) ?hd (cs := #[.slice A0_0 l0_0.length c0_0, .slice A0_1 l0_1.length c0_1]) (t := 31) ?hr ?_; (case hd => rfl); (case hg => rfl); (case hr => first | (go_simp; done) | (go_simp; rfl)); intro gb327 hg w10 hbox hb; have n0_ := Aside0.mk (below_step (by repeat first | exact HB.out | apply below_alloc | apply pw_below_drewN | apply below_drew1) hb); have n1_ := Aside0.mk (hbox); have n2_ := Aside0.mk ((by rw [hg]; exact (below_size (by repeat first | exact HB.out | apply below_alloc | apply pw_below_drewN | apply below_drew1)) : w.heap.size ≤ gb327)); have n3_ := Aside0.mk ((by rw [hg]; exact (below_size (by repeat first | exact HB.out | apply below_alloc | apply pw_below_drewN | apply below_drew1)) : w.heap.size ≤ gb327)); clear HB; have HB := n0_; have BK327 := n1_; have GW327 := n2_; have GE327 := n3_; clear n0_ n1_ n2_ n3_; clear hb hbox hg; have hcz11_0 : w10.cell? ⟨gb327, 0, none⟩ = some (.slice A0_0 l0_0.length c0_0) := (blk_cell BK327.out 0).trans rfl; have hcz11_1 : w10.cell? ⟨gb327, 1, none⟩ = some (.slice A0_1 l0_1.length c0_1) := (blk_cell BK327.out 1).trans rfl; have hfz11_0 := blk_frozen BK327.out 0; have hfz11_1 := blk_frozen BK327.out 1) | ((with_reducible refine gate_callee (f := 104) rfl ?_); refine goesL_ (some 11) rfl rfl Try.func104 (by kernel_rfl) rfl #[.agg #[.slice A0_0 l0_0.length c0_0, .slice A0_1 l0_1.length c0_1], .int .i64 a2] rfl (by (try simp only [List.map_toArray, List.map_cons, List.map_nil]); first | done | rfl | (simp only [List.length_drop, List.length_take]; rfl)) ?_; (with_reducible refine (impl_Tree_device.calls _ _ l0_0 _ _ l0_1 a2 t328 _ ?side1 ?side2 ?side3 ?side4 A4.out).mono ?_); (case side1 => repeat (first | exact (Kd.C_below HR0_0.out HB.out) | (with_reducible refine Kd.C_alloc ?_ _) | (with_reducible refine Kd.C_drewN ?_ _) | (with_reducible refine Kd.C_drew ?_))); (case side2 => exact HC0_0.out); (case side3 => repeat (first | exact (Kd.C_below HR0_1.out HB.out) | (with_reducible refine Kd.C_alloc ?_ _) | (with_reducible refine Kd.C_drewN ?_ _) | (with_reducible refine Kd.C_drew ?_))); (case side4 => exact HC0_1.out); rintro e w12 ⟨rfl, hb⟩; refine ⟨_, rfl, ?_⟩; have n0_ := Aside0.mk (blk_below (g := gb327) (o := .cells #[.slice A0_0 l0_0.length c0_0, .slice A0_1 l0_1.length c0_1] 31 (0, 0)) (by (with_reducible repeat first | apply blk_drewN | apply blk_drew | apply blk_alloc); exact BK327.out) hb); have n1_ := Aside0.mk (below_step (by repeat (first | (with_reducible first | exact HB.out | apply below_alloc | apply pw_below_drewN | apply below_drew1 | refine below_set ?_ GE327.out) | exact HB.out)) hb); clear BK327; clear HB; have BK327 := n0_; have HB := n1_; clear n0_ n1_; (try clear hb); (try clear hb2); (try clear hk); (try clear hi)))
      go_ret2
      exact ⟨by first | rfl | (simp [*, errW_none, errW_some] <;> rfl), by repeat (first | (with_reducible first | exact HB.out | apply below_alloc | apply pw_below_drewN | apply below_drew1 | refine below_set ?_ GE327.out) | exact HB.out)⟩
    · rw [if_neg c9] at H
      have c9b0 : (a1 == 0) = false := beq_eq_false_iff_ne.mpr c9
      have c9b1 : (a1 != 0) = true := bne_iff_ne.mpr c9
      replace H := Option.bind_eq_some_iff.mp H
      obtain ⟨t329, A130, H⟩ := H
      replace H : (some (t329, (t329 != 0))) = some (r1, r2) := H
      have A13 := Aside0.mk A130
      clear A130
      simp only [Option.some.injEq, Prod.mk.injEq] at H
      obtain ⟨rfl, rfl⟩ := H
      go_enter Try.func61, Try.ntmps61
      go_wp2_with (first | ((with_reducible refine gate_dst (N := 3) rfl ?_); refine box_event ?hg (N := 3) ?hd (cs := #[.slice A0_0 l0_0.length c0_0, .slice A0_1 l0_1.length c0_1]) (t := 31) ?hr ?_; (case hd => rfl); (case hg => rfl); (case hr => first | (go_simp; done) | (go_simp; rfl)); intro gb327 hg w14 hbox hb; have n0_ := Aside0.mk (below_step (by repeat first | exact HB.out | apply below_alloc | apply pw_below_drewN | apply below_drew1) hb); have n1_ := Aside0.mk (hbox); have n2_ := Aside0.mk ((by rw [hg]; exact (below_size (by repeat first | exact HB.out | apply below_alloc | apply pw_below_drewN | apply below_drew1)) : w.heap.size ≤ gb327)); have n3_ := Aside0.mk ((by rw [hg]; exact (below_size (by repeat first | exact HB.out | apply below_alloc | apply pw_below_drewN | apply below_drew1)) : w.heap.size ≤ gb327)); clear HB; have HB := n0_; have BK327 := n1_; have GW327 := n2_; have GE327 := n3_; clear n0_ n1_ n2_ n3_; clear hb hbox hg; have hcz15_0 : w14.cell? ⟨gb327, 0, none⟩ = some (.slice A0_0 l0_0.length c0_0) := (blk_cell BK327.out 0).trans rfl; have hcz15_1 : w14.cell? ⟨gb327, 1, none⟩ = some (.slice A0_1 l0_1.length c0_1) := (blk_cell BK327.out 1).trans rfl; have hfz15_0 := blk_frozen BK327.out 0; have hfz15_1 := blk_frozen BK327.out 1) | ((with_reducible refine gate_callee (f := 104) rfl ?_); refine goesL_ (some 11) rfl rfl Try.func104 (by kernel_rfl) rfl #[.agg #[.slice A0_0 l0_0.length c0_0, .slice A0_1 l0_1.length c0_1], .int .i64 a2] rfl (by (try simp only [List.map_toArray, List.map_cons, List.map_nil]); first | done | rfl | (simp only [List.length_drop, List.length_take]; rfl)) ?_; (with_reducible refine (impl_Tree_device.calls _ _ l0_0 _ _ l0_1 a2 t328 _ ?side1 ?side2 ?side3 ?side4 A4.out).mono ?_); (case side1 => repeat (first | exact (Kd.C_below HR0_0.out HB.out) | (with_reducible refine Kd.C_alloc ?_ _) | (with_reducible refine Kd.C_drewN ?_ _) | (with_reducible refine Kd.C_drew ?_))); (case side2 => exact HC0_0.out); (case side3 => repeat (first | exact (Kd.C_below HR0_1.out HB.out) | (with_reducible refine Kd.C_alloc ?_ _) | (with_reducible refine Kd.C_drewN ?_ _) | (with_reducible refine Kd.C_drew ?_))); (case side4 => exact HC0_1.out); rintro e w16 ⟨rfl, hb⟩; refine ⟨_, rfl, ?_⟩; have n0_ := Aside0.mk (blk_below (g := gb327) (o := .cells #[.slice A0_0 l0_0.length c0_0, .slice A0_1 l0_1.length c0_1] 31 (0, 0)) (by (with_reducible repeat first | apply blk_drewN | apply blk_drew | apply blk_alloc); exact BK327.out) hb); have n1_ := Aside0.mk (below_step (by repeat (first | (with_reducible first | exact HB.out | apply below_alloc | apply pw_below_drewN | apply below_drew1 | refine below_set ?_ GE327.out) | exact HB.out)) hb); clear BK327; clear HB; have BK327 := n0_; have HB := n1_; clear n0_ n1_; (try clear hb); (try clear hb2); (try clear hk); (try clear hi); have hcz17_0 : w16.cell? ⟨gb327, 0, none⟩ = some (.slice A0_0 l0_0.length c0_0) := (blk_cell BK327.out 0).trans rfl; have hcz17_1 : w16.cell? ⟨gb327, 1, none⟩ = some (.slice A0_1 l0_1.length c0_1) := (blk_cell BK327.out 1).trans rfl; have hfz17_0 := blk_frozen BK327.out 0; have hfz17_1 := blk_frozen BK327.out 1) | ((with_reducible refine gate_callee (f := 105) rfl ?_); refine goesL_ (some 19) rfl rfl Try.func105 (by kernel_rfl) rfl #[.agg #[.slice A0_0 l0_0.length c0_0, .slice A0_1 l0_1.length c0_1], .int .i64 a2, .int .i64 a1] rfl (by (try simp only [List.map_toArray, List.map_cons, List.map_nil]); first | done | rfl | (simp only [List.length_drop, List.length_take]; rfl)) ?_; (with_reducible refine (impl_Tree_above.calls k _ _ l0_0 _ _ l0_1 a2 a1 t329 _ ?side1 ?side2 ?side3 ?side4 A13.out).mono ?_); (case side1 => repeat (first | exact (Kd.C_below HR0_0.out HB.out) | (with_reducible refine Kd.C_alloc ?_ _) | (with_reducible refine Kd.C_drewN ?_ _) | (with_reducible refine Kd.C_drew ?_))); (case side2 => exact HC0_0.out); (case side3 => repeat (first | exact (Kd.C_below HR0_1.out HB.out) | (with_reducible refine Kd.C_alloc ?_ _) | (with_reducible refine Kd.C_drewN ?_ _) | (with_reducible refine Kd.C_drew ?_))); (case side4 => exact HC0_1.out); rintro e w18 ⟨rfl, hb⟩; refine ⟨_, rfl, ?_⟩; have n0_ := Aside0.mk (blk_below (g := gb327) (o := .cells #[.slice A0_0 l0_0.length c0_0, .slice A0_1 l0_1.length c0_1] 31 (0, 0)) (by (with_reducible repeat first | apply blk_drewN | apply blk_drew | apply blk_alloc); exact BK327.out) hb); have n1_ := Aside0.mk (below_step (by repeat (first | (with_reducible first | exact HB.out | apply below_alloc | apply pw_below_drewN | apply below_drew1 | refine below_set ?_ GE327.out) | exact HB.out)) hb); clear BK327; clear HB; have BK327 := n0_; have HB := n1_; clear n0_ n1_; (try clear hb); (try clear hb2); (try clear hk); (try clear hi)))
      go_ret2
      exact ⟨by first | rfl | (simp [*, errW_none, errW_some] <;> rfl), by repeat (first | (with_reducible first | exact HB.out | apply below_alloc | apply pw_below_drewN | apply below_drew1 | refine below_set ?_ GE327.out) | exact HB.out)⟩

end Go.Proofs.Ytkadeelplnkpgaa.Q

-- text OSort
namespace Go.Proofs.YtkadeelplnkpgaaW.PrintMore
open Go.Shelf
def Try.sortL_ren : Go.Shelf.Ren := ⟨fun | 5 => 122 | 8 => 140 | 7 => 139 | 19 => 153 | 20 => 154 | 10 => 144 | 11 => 145 | 12 => 146 | 13 => 147 | 14 => 148 | 15 => 149 | 16 => 150 | 17 => 151 | 18 => 152 | 30 => 160 | 31 => 161 | 32 => 162 | 33 => 163 | 34 => 164 | 35 => 165 | 40 => 168 | n => n, fun | 23 => 34 | 25 => 2 | 3 => 3 | 32 => 125 | 22 => 34 | 0 => 0 | 44 => 159 | 46 => 120 | 4 => 4 | 36 => 151 | 35 => 150 | 41 => 156 | 5 => 5 | 9 => 9 | 53 => 166 | 57 => 170 | 63 => 172 | 64 => 173 | n => n, fun | n => n⟩
theorem Try.sortL : Go.Proofs.SlLaysM.n5 Try.prog Try.sortL_ren := {
  mixed := by kernel_rfl
  f5 := ⟨Try.f122.name, by decide, Try.func122.trans (congrArg some (by kernel_rfl))⟩
  f7 := ⟨Try.f139.name, by decide, Try.func139.trans (congrArg some (by kernel_rfl))⟩
  f8 := Try.func140.trans (congrArg some (by kernel_rfl))
  f10 := ⟨Try.f144.name, by decide, Try.func144.trans (congrArg some (by kernel_rfl))⟩
  f11 := ⟨Try.f145.name, by decide, Try.func145.trans (congrArg some (by kernel_rfl))⟩
  f12 := ⟨Try.f146.name, by decide, Try.func146.trans (congrArg some (by kernel_rfl))⟩
  f13 := ⟨Try.f147.name, by decide, Try.func147.trans (congrArg some (by kernel_rfl))⟩
  f14 := ⟨Try.f148.name, by decide, Try.func148.trans (congrArg some (by kernel_rfl))⟩
  f15 := ⟨Try.f149.name, by decide, Try.func149.trans (congrArg some (by kernel_rfl))⟩
  f16 := ⟨Try.f150.name, by decide, Try.func150.trans (congrArg some (by kernel_rfl))⟩
  f17 := ⟨Try.f151.name, by decide, Try.func151.trans (congrArg some (by kernel_rfl))⟩
  f18 := ⟨Try.f152.name, by decide, Try.func152.trans (congrArg some (by kernel_rfl))⟩
  f19 := Try.func153.trans (congrArg some (by kernel_rfl))
  f20 := Try.func154.trans (congrArg some (by kernel_rfl))
  f30 := ⟨Try.f160.name, by decide, Try.func160.trans (congrArg some (by kernel_rfl))⟩
  f31 := Try.func161.trans (congrArg some (by kernel_rfl))
  f32 := Try.func162.trans (congrArg some (by kernel_rfl))
  f33 := ⟨Try.f163.name, by decide, Try.func163.trans (congrArg some (by kernel_rfl))⟩
  f34 := ⟨Try.f164.name, by decide, Try.func164.trans (congrArg some (by kernel_rfl))⟩
  f35 := ⟨Try.f165.name, by decide, Try.func165.trans (congrArg some (by kernel_rfl))⟩
  f40 := ⟨Try.f168.name, by decide, Try.func168.trans (congrArg some (by kernel_rfl))⟩
  t0 := Try.underlying0
  a0 := Try.isAgg0
  z0 := Try.sizeOf0
  v0 := Try.zeroValue0
  t3 := Try.underlying3
  a3 := Try.isAgg3
  z3 := Try.sizeOf3
  v3 := Try.zeroValue3
  t4 := Try.underlying4
  a4 := Try.isAgg4
  z4 := Try.sizeOf4
  v4 := Try.zeroValue4
  t5 := Try.underlying5
  a5 := Try.isAgg5
  z5 := Try.sizeOf5
  v5 := Try.zeroValue5
  t9 := Try.underlying9
  a9 := Try.isAgg9
  z9 := Try.sizeOf9
  v9 := Try.zeroValue9
  t22 := Try.underlying34
  a22 := Try.isAgg34
  z22 := Try.sizeOf34
  v22 := Try.zeroValue34
  t23 := Try.underlying34
  a23 := Try.isAgg34
  z23 := Try.sizeOf34
  v23 := Try.zeroValue34
  t25 := Try.underlying2
  a25 := Try.isAgg2
  z25 := Try.sizeOf2
  v25 := Try.zeroValue2
  t32 := Try.underlying125
  a32 := Try.isAgg125
  z32 := Try.sizeOf125
  v32 := Try.zeroValue125
  t35 := Try.underlying150
  a35 := Try.isAgg150
  z35 := Try.sizeOf150
  v35 := Try.zeroValue150
  t36 := Try.underlying151
  a36 := Try.isAgg151
  z36 := Try.sizeOf151
  v36 := Try.zeroValue151
  t41 := Try.underlying156
  a41 := Try.isAgg156
  z41 := Try.sizeOf156
  v41 := Try.zeroValue156
  t44 := Try.underlying159
  a44 := Try.isAgg159
  z44 := Try.sizeOf159
  v44 := Try.zeroValue159
  t46 := Try.underlying120
  a46 := Try.isAgg120
  z46 := Try.sizeOf120
  v46 := Try.zeroValue120
  t53 := Try.underlying166
  a53 := Try.isAgg166
  z53 := Try.sizeOf166
  v53 := Try.zeroValue166
  t57 := Try.underlying170
  a57 := Try.isAgg170
  z57 := Try.sizeOf170
  v57 := Try.zeroValue170
  t63 := Try.underlying172
  a63 := Try.isAgg172
  z63 := Try.sizeOf172
  v63 := Try.zeroValue172
  t64 := Try.underlying173
  a64 := Try.isAgg173
  z64 := Try.sizeOf173
  v64 := Try.zeroValue173 }
open Go.RowKit Go.Sort Go.Proofs.YtkadeelplnkpgaaW.PrintWords Go.Proofs.YtkadeelplnkpgaaW.PrintLast
/-- the numbers, rising -/
def sortI (l : List Int) : List Int := l.mergeSort fun x y => decide (x ≤ y)
theorem sortI_length (l : List Int) : (sortI l).length = l.length := List.length_mergeSort _
theorem reps_int {w : World} {base : Nat} {ok : Nat → Prop} {l : List Int} {inner : List Value} (h : Reps ((Kd.int .i64).M w base ok) 1 l inner) : inner = l.map (Value.int .i64) := by
  obtain ⟨h1, h2⟩ := h
  apply List.ext_getElem (by simpa using h1)
  intro i hi hi2
  have hl : i < l.length := by simpa using hi2
  have h3 : [inner[i]] = [Value.int .i64 l[i]] := by
    have := h2 i l[i] (List.getElem?_eq_getElem hl)
    rw [Nat.mul_one, List.drop_eq_getElem_cons (by omega)] at this
    exact this
  simpa using h3
theorem int_reps {w : World} {base : Nat} {ok : Nat → Prop} (l : List Int) : Reps ((Kd.int .i64).M w base ok) 1 l (l.map (Value.int .i64)) := by
  refine ⟨by simp, fun j p hj => ?_⟩
  obtain ⟨hl, rfl⟩ := List.getElem?_eq_some_iff.1 hj
  rw [Nat.mul_one, List.drop_eq_getElem_cons (by simpa using hl)]
  show [_] = [_]
  simp
/-- a slice of the call's own is sorted in place -/
theorem sortOwn.calls {base : Nat} {ok : Nat → Prop} {v : Value} {l : List Int} (w : World) (h : Kd.R (Kd.int .i64) 2 w base ok v l) (hn : l.length ≤ 1048576) :
    Calls Try.prog 122 #[v] w fun e w' => e = .returned (.tuple #[]) ∧ Kd.R (Kd.int .i64) 2 w' base ok v (sortI l) ∧ w.grownBy w' v.ownBlock := by
  obtain ⟨h0, inner, ho, hr⟩ := h
  have hi := reps_int hr
  subst hi
  obtain ⟨h1, h2⟩ := ho
  rcases h2 with ⟨rfl, h2⟩ | ⟨g, cap, cur, rfl, hg, hb, hl, hc, hs, ht⟩
  · have hl : l = [] := List.eq_nil_of_length_eq_zero h2
    subst hl
    refine (AnyM.slices_Sort_int_none Try.sortL none 0 w).mono ?_
    rintro e w' ⟨rfl, rfl⟩
    have e : sortI [] = [] := by simp [sortI]
    rw [e]
    exact ⟨rfl, ⟨h0, [], ⟨rfl, .inl ⟨rfl, rfl⟩⟩, int_reps (w := w') (base := base) []⟩, grown_of_below (Below.refl _ _) _⟩
  · have hmm := AnyM.slices_Sort_int Try.sortL g 0 cap l w (holds_of_blockI hb (by have ht : List.take (l.length * 1) cur.toList = _ := ht; rw [Nat.mul_one] at ht; exact ht)) (blk_lt hb) (by omega)
    refine hmm.mono ?_
    rintro e w' ⟨rfl, n, os, rfl⟩
    refine ⟨rfl, ⟨h0, (sortI l).map (Value.int .i64), ?_, int_reps _⟩, grownBy_sortedI _⟩
    have := ownsRow_sortedI (w := w) (base := base) (g := g) (cap := cap) (n := n) (e := 2) (os := os) (cur := cur) (ss := l) (ts := sortI l) (sortI_length l) hg hb hl hc hs
    rw [sortI_length]
    exact this
end Go.Proofs.YtkadeelplnkpgaaW.PrintMore

-- text Qf73
namespace Go.Proofs.Ytkadeelplnkpgaa.Q
open Go.RowKit Go.Proofs.YtkadeelplnkpgaaW.PrintWords Go.Proofs.YtkadeelplnkpgaaW.PrintLast Go.Proofs.YtkadeelplnkpgaaW.PrintMore
attribute [local go_sem] max2_int min2_int max_two min_two max_three min_three max_four min_four   -- for this text's walks alone
set_option linter.unusedVariables false
set_option linter.unusedSimpArgs false

/-! ### impl_Tree_nodesUnder: function 73 -/
/-- the lists of some things, one behind the other -/
def underL (g : Int → Option (List Int)) : List Int → List Int → Option (List Int)
  | out, [] => some out
  | out, x :: xs => (g x).bind fun l => if out.length + l.length ≤ 1048576 then underL g (out ++ l) xs else none
theorem underL_here (g : Int → Option (List Int)) (out l : List Int) (i : Int) (h0 : 0 ≤ i) (h1 : i < (l.length : Int)) : underL g out (l.drop i.toNat) = (g (rd l i)).bind fun t => if out.length + t.length ≤ 1048576 then underL g (out ++ t) (l.drop (i + 1).toNat) else none := by
  obtain ⟨n, rfl⟩ := Int.eq_ofNat_of_zero_le h0
  have hl : n < l.length := by omega
  have e : ((n : Int) + 1).toNat = n + 1 := by omega
  have er : rd l (n : Int) = l[n] := by unfold rd; rw [Int.toNat_natCast, List.getD_eq_getElem?_getD, List.getElem?_eq_getElem hl]; rfl
  rw [e, Int.toNat_natCast, List.drop_eq_getElem_cons hl, er]
  rfl
theorem underL_length (g : Int → Option (List Int)) : ∀ l out t, out.length ≤ 1048576 → underL g out l = some t → t.length ≤ 1048576
  | [], out, t, h0, h => by
    obtain rfl := Option.some.inj h
    exact h0
  | x :: xs, out, t, h0, h => by
    obtain ⟨y, hy, h2⟩ := Option.bind_eq_some_iff.1 h
    by_cases c : out.length + y.length ≤ 1048576
    · rw [if_pos c] at h2
      exact underL_length g xs (out ++ y) t (by rw [List.length_append]; exact c) h2
    · rw [if_neg c] at h2; cases h2
def impl_Tree_nodesUnder.f : Nat → List (S50) → List (S108) → Int → Option (List Int)
  | 0, _, _, _ => none
  | k + 1, l0_0, l0_1, a1 => if bucketAt l0_1 a1 < 0 then some [a1] else (underL (fun x => impl_Tree_nodesUnder.f k l0_0 l0_1 x) [] (rd_T108 l0_1 (bucketAt l0_1 a1)).f2).map sortI
set_option maxHeartbeats 4000000 in
set_option maxRecDepth 100000 in
theorem impl_Tree_nodesUnder.calls : ∀ (k : Nat) (A0_0 : Option Addr) (c0_0 : Nat) (l0_0 : List (S50)) (A0_1 : Option Addr) (c0_1 : Nat) (l0_1 : List (S108)) (a1 : Int) (r : List Int) (w : World) (hr0_0 : Kd.C k50 w A0_0 l0_0.length l0_0) (hc0_0 : l0_0.length ≤ c0_0) (hr0_1 : Kd.C k108 w A0_1 l0_1.length l0_1) (hc0_1 : l0_1.length ≤ c0_1) (h : impl_Tree_nodesUnder.f k l0_0 l0_1 a1 = some r),
    Calls Try.prog 73 #[.agg #[.slice A0_0 l0_0.length c0_0, .slice A0_1 l0_1.length c0_1], .int .i64 a1] w fun e w' => ∃ v_ : Value, e = .returned v_ ∧ Kd.R (Kd.int .i64) 2 w' w.heap.size (fun _ => True) v_ r ∧ Below w.heap.size w w'
  | 0, _, _, _, _, _, _, _, _, _, _, _, _, _, h => by cases h
  | k + 1, A0_0, c0_0, l0_0, A0_1, c0_1, l0_1, a1, r, w, hr0_0, hc0_0, hr0_1, hc0_1, h => by
    have HR0 := Aside0.mk hr0_0
    have HR1 := Aside0.mk hr0_1
    have HC0 := Aside0.mk hc0_0
    have HC1 := Aside0.mk hc0_1
    have HIH := Aside0.mk (impl_Tree_nodesUnder.calls k)
    clear hr0_0 hr0_1 hc0_0 hc0_1
    unfold impl_Tree_nodesUnder.f at h
    by_cases hb : bucketAt l0_1 a1 < 0
    · rw [if_pos hb] at h
      obtain rfl := Option.some.inj h
      clear h
      go_enter Try.func73, Try.ntmps73
      go_wp2_with fail
      have HB := Aside0.mk (below_alloc (Below.refl w.heap.size w) (.cells #[.slice A0_0 l0_0.length c0_0, .slice A0_1 l0_1.length c0_1] 31))
      refine (bucket_none.calls A0_0 c0_0 l0_0 A0_1 c0_1 l0_1 a1 _ (Kd.C_below HR1.out HB.out) hb).mono ?_
      rintro e w1 ⟨rfl, hb1⟩
      replace HB := Aside0.mk (below_step HB.out hb1)
      clear hb1 hb
      go_wp2_with (first | ((with_reducible refine gate_dst (N := 15) rfl ?_); refine Kd.R_lit (Kd.int .i64) _ 2 ?hg (N := 15) ?hd (xs := ([a1] : List Int)) (inner := [.int .i64 a1]) (ok := fun _ => True) (okp := fun _ => True) ?hr ?hp (fun _ hk => hk) trivial (Below.refl _ _) (Nat.le_refl _) (by simp) ?_; (case hd => rfl); (case hg => rfl); (case hr => first | (go_simp; done) | (go_simp; rfl)); (case hp => exact (Reps.one (show Kd.M (Kd.int .i64) _ _ _ a1 [.int .i64 a1] from rfl) (Reps.none _ _))); intro v2 w2 ho hb2 hg_ hnew_; have HO := Aside0.mk (Kd.R_lower ho (below_size HB.out)); have HB2 := Aside0.mk (below_step HB.out hb2); clear ho hb2 hg_ hnew_))
      go_ret
      exact ⟨_, rfl, HO.out, HB2.out⟩
    · rw [if_neg hb] at h
      obtain ⟨tot, htot, rfl⟩ := Option.map_eq_some_iff.1 h
      have hb0 : 0 ≤ bucketAt l0_1 a1 := by omega
      have hlt := bucketAt_lt l0_1 a1 hb0
      obtain ⟨ad, A2, c2, rfl, hx0, hx1, hx2, hl2, hg2⟩ := at_T108 HR1.out _ hb0 hlt
      have HTL := Aside0.mk (underL_length _ _ _ _ (by simp) htot)
      have HT := Aside0.mk (show underL (fun x => impl_Tree_nodesUnder.f k l0_0 l0_1 x) [] ((rd_T108 l0_1 (bucketAt l0_1 a1)).f2.drop (0 : Int).toNat) = some tot from htot)
      have HX2 := Aside0.mk hx2
      have HG2 := Aside0.mk hg2
      clear h htot hb hx0 hx1 hx2 hl2 hg2
      go_enter Try.func73, Try.ntmps73
      go_wp2_with fail
      have BK := Aside0.mk (blk_new w (.cells #[.slice A0_0 l0_0.length c0_0, .slice (some ad) l0_1.length c0_1] 31))
      have HB := Aside0.mk (below_alloc (Below.refl w.heap.size w) (.cells #[.slice A0_0 l0_0.length c0_0, .slice (some ad) l0_1.length c0_1] 31))
      refine (bucket_some.calls A0_0 c0_0 l0_0 (some ad) c0_1 l0_1 a1 _ (Kd.C_below HR1.out HB.out) ad rfl hb0).mono ?_
      rintro e w1 ⟨rfl, hb1⟩
      replace BK := Aside0.mk (blk_below BK.out hb1)
      replace HB := Aside0.mk (below_step HB.out hb1)
      clear hb1
      have hx2 := (HB.out.cell (World.block_lt_of_cell? w _ HX2.out)).trans HX2.out
      clear HX2 hb0 hlt
      generalize bucketAt l0_1 a1 = j at hx2 HT HG2 ⊢
      generalize (rd_T108 l0_1 j).f2 = items at hx2 HT HG2
      have hmi := Kd.C_max HG2.out
      go_wp2_with fail
      clear hx2
      obtain ⟨gt, hgt⟩ : ∃ g, g = w.heap.size := ⟨_, rfl⟩
      have HGT := Aside0.mk hgt
      rw [← hgt] at BK ⊢
      clear hgt
      go_loopg [6, 21] items.length (fun gg s6 s21 wr => ∃ (kk : Int) (out : List Int), 0 ≤ kk ∧ kk ≤ items.length ∧ (items.length : Int) - kk ≤ gg ∧ s21 = .int .i64 kk ∧ out.length ≤ 1048576 ∧ Aside0 (Below w.heap.size w wr) ∧ Aside0 (wr.heap[gt]? = some (.cells #[.slice A0_0 l0_0.length c0_0, .slice (some ad) l0_1.length c0_1] 31 (0, 0))) ∧ Aside0 (Kd.R (Kd.int .i64) 2 wr w.heap.size (fun _ => True) s6 out) ∧ Aside0 (underL (fun x => impl_Tree_nodesUnder.f k l0_0 l0_1 x) out (items.drop kk.toNat) = some tot))
      case atStart => exact ⟨0, [], by omega, by omega, by omega, rfl, by simp, HB, BK, ⟨Kd.R_nil _ _ _ _ _⟩, HT⟩
      case round =>
        clear HB BK HT
        obtain ⟨kk, out, h0, hk, hg, rfl, hol, HB, BK, HO, HT⟩ := hrel
        have ht0 := (blk_cell BK.out 0).trans rfl
        have ht1 := (blk_cell BK.out 1).trans rfl
        by_cases hlt : kk < (items.length : Int)
        · obtain ⟨ae, rfl, hy0⟩ := Kd.at_int HG2.out kk h0 hlt
          replace hy0 := (HB.out.cell (World.block_lt_of_cell? w _ hy0)).trans hy0
          have q0 := eq_true h0
          have q1 := eq_true hlt
          have HN := Aside0.mk (by have := underL_here (fun x => impl_Tree_nodesUnder.f k l0_0 l0_1 x) out items kk h0 hlt; rw [HT.out] at this; exact this.symm)
          clear HT
          generalize rd items kk = x at hy0 HN
          obtain ⟨tl, htl, hn⟩ := Option.bind_eq_some_iff.1 HN.out
          have HTL2 := Aside0.mk htl
          by_cases hsm : out.length + tl.length ≤ 1048576
          case neg => rw [if_neg hsm] at hn; cases hn
          rw [if_pos hsm] at hn
          have HSM := Aside0.mk hsm
          replace HN := Aside0.mk hn
          clear htl hn hsm
          go_wp2_with fail
          refine (HIH.out A0_0 c0_0 l0_0 (some ad) c0_1 l0_1 x tl _ (Kd.C_below HR0.out HB.out) HC0.out (Kd.C_below HR1.out HB.out) HC1.out HTL2.out).mono ?_
          rintro e w2 ⟨v2, rfl, ho2, hb2⟩
          have HB2 := Aside0.mk (below_step HB.out hb2)
          have BK2 := Aside0.mk (blk_below BK.out hb2)
          have HO2 := Aside0.mk (Kd.R_below HO.out hb2)
          obtain ⟨Av, cv, ev, hlv, hCv⟩ := Kd.R_reads ho2
          subst ev
          have HCV := Aside0.mk hCv
          clear ho2 hb2 hlv hCv HB BK HO ht0 ht1 hy0
          go_wp2_with (first | ((with_reducible refine gate_builtin (b := .append) (xs := #[.tmp 25, .tmp 28]) rfl ?_); at_builtin; refine Kd.R_append_rows (Kd.int .i64) (w0 := w) w.heap.size rfl (.tmp 25) (.tmp 28) 34 2 (.int .i64 0) 8 rfl Try.underlying34 info2 rfl (by decide) (by omega) _ out tl _ _ _ (fun _ => True) (fun _ => False) rfl rfl ?aO ?aR (fun _ _ h => h) (fun _ h => h.elim) ?aF ?aB ?aS ?aL ?_; (case aR => exact HCV.out); (case aB => exact HB2.out); (case aF => exact (fun _ _ => trivial)); (case aO => exact HO2.out); (case aS => exact below_size HB2.out); (case aL => have := HSM.out; omega); intro v3 w3 ho3 hb3 hg3 hat3; have HO3 := Aside0.mk ho3; have HB3 := Aside0.mk hb3; have BK3 := Aside0.mk (hg3.block _ (blk_lt BK2.out) (Kd.R_ne HO2.out BK2.out (by decide)) |>.trans BK2.out); clear ho3 hb3 hg3 hat3))
          go_roundg (gk - 1)
          case measure => omega
          case rel => exact ⟨kk + 1, out ++ tl, by omega, by omega, by omega, by go_num, by rw [List.length_append]; exact HSM.out, HB3, BK3, HO3, HN⟩
        · obtain rfl : kk = items.length := by omega
          have HE := Aside0.mk (show out = tot from by have := HT.out; rw [Int.toNat_natCast, List.drop_length] at this; exact Option.some.inj this)
          clear HT
          go_wp2_with fail
          refine (sortOwn.calls wr HO.out hol).mono ?_
          rintro e w2 ⟨rfl, ho, hg2⟩
          have HO2 := Aside0.mk ho
          have HB2 := Aside0.mk (pw_below_grown HB.out _ HB.out.size hg2 (fun k hk => Kd.R_base HO.out k hk))
          clear ho hg2
          go_wp2_with fail
          go_ret
          exact ⟨_, rfl, by rw [← HE.out]; exact HO2.out, HB2.out⟩

end Go.Proofs.Ytkadeelplnkpgaa.Q

-- text Qf65
namespace Go.Proofs.Ytkadeelplnkpgaa.Q
open Go.RowKit Go.Proofs.YtkadeelplnkpgaaW.PrintWords Go.Proofs.YtkadeelplnkpgaaW.PrintLast Go.Proofs.YtkadeelplnkpgaaW.PrintMore
attribute [local go_sem] max2_int min2_int max_two min_two max_three min_three max_four min_four   -- for this text's walks alone
set_option linter.unusedVariables false
set_option linter.unusedSimpArgs false

/-! ### impl_Tree_weight: function 65 -/
def impl_Tree_weight.l0 : Nat → Int → List Int → Int → Int → List (S50) → List (S108) → Option (Int)
  | 0, _, _, _, _, _, _ => none
  | k + 1, x5, x10, x11, x12, x420000, x420001 => if x12 < x11 then (if 0 ≤ x12 then (if x12 < (x10.length : Int) then ((impl_Tree_device.f x420000 x420001 (rd x10 x12)).bind fun t424 => (if 0 ≤ t424 then (if t424 < (x420000.length : Int) then (impl_Tree_weight.l0 k (wrap64 (x5 + ((rd_T50 x420000 t424).f1))) x10 x11 (wrap64 (x12 + 1)) x420000 x420001) else (none)) else (none))) else (none)) else (none)) else (some x5)
def impl_Tree_weight.f (k : Nat) (l0_0 : List (S50)) (l0_1 : List (S108)) (a1 : Int) : Option (Int) := (impl_Tree_nodesUnder.f k l0_0 l0_1 a1).bind fun t420 => (impl_Tree_weight.l0 k 0 t420 (t420.length : Int) 0 l0_0 l0_1)
def impl_Tree_weight.T5 : Bool × List (List Nat × List Nat) := (true, [([], []), ([], []), ([1], [1]), ([], []), ([], []), ([3, 4], [3, 4]), ([2, 5], [2, 5]), ([6], [6]), ([7], [7]), ([0, 8], [0, 8]), ([9, 5, 0, 1, 2, 3, 4, 5, 6, 7, 8, 9], [0, 9])])
def impl_Tree_weight.B5 : List Nat := [0, 0, 2, 0, 0, 24, 62, 126, 254, 511, 1023]
theorem impl_Tree_weight.tab5 : rtab .any (opsOf Try.f65 5) = impl_Tree_weight.T5 := by kernel_rfl
theorem impl_Tree_weight.bits5 : waitsOk impl_Tree_weight.T5.2 impl_Tree_weight.B5 = true := by kernel_rfl
set_option maxHeartbeats 8000000 in
set_option maxRecDepth 100000 in
theorem impl_Tree_weight.calls (k : Nat) (A0_0 : Option Addr) (c0_0 : Nat) (l0_0 : List (S50)) (A0_1 : Option Addr) (c0_1 : Nat) (l0_1 : List (S108)) (a1 : Int) (r : Int) (w : World) (hr0_0 : Kd.C k50 w A0_0 l0_0.length l0_0) (hc0_0 : l0_0.length ≤ c0_0) (hr0_1 : Kd.C k108 w A0_1 l0_1.length l0_1) (hc0_1 : l0_1.length ≤ c0_1) (h : impl_Tree_weight.f k l0_0 l0_1 a1 = some r) :
    Calls Try.prog 65 #[.agg #[.slice A0_0 l0_0.length c0_0, .slice A0_1 l0_1.length c0_1], .int .i64 a1] w fun e w' => e = .returned (.int .i64 r) ∧ Below w.heap.size w w' := by
  have hu31 := Try.underlying31
  have HR0_0 := Aside0.mk hr0_0
  have HC0_0 := Aside0.mk hc0_0
  clear hr0_0 hc0_0
  have HR0_1 := Aside0.mk hr0_1
  have HC0_1 := Aside0.mk hc0_1
  clear hr0_1 hc0_1
  have HB := Aside0.mk (Below.refl w.heap.size w)
  have H : ((impl_Tree_nodesUnder.f k l0_0 l0_1 a1).bind fun t420 => (impl_Tree_weight.l0 k 0 t420 (t420.length : Int) 0 l0_0 l0_1)) = some r := h
  clear h
  replace H := Option.bind_eq_some_iff.mp H
  obtain ⟨t420, A30, H⟩ := H
  replace H : (impl_Tree_weight.l0 k 0 t420 (t420.length : Int) 0 l0_0 l0_1) = some r := H
  have A3 := Aside0.mk A30
  clear A30
  have H' := Aside0.mk H
  clear H
  go_enter Try.func65, Try.ntmps65
  go_wp2_with (first | ((with_reducible refine gate_dst (N := 2) rfl ?_); refine box_event ?hg (N := 2) ?hd (cs := #[.slice A0_0 l0_0.length c0_0, .slice A0_1 l0_1.length c0_1]) (t := 31) ?hr ?_; (case hd => rfl); (case hg => rfl); (case hr => first | (go_simp; done) | (go_simp; rfl)); intro gb419 hg w4 hbox hb; have n0_ := Aside0.mk (below_step (by repeat first | exact HB.out | apply below_alloc | apply pw_below_drewN | apply below_drew1) hb); have n1_ := Aside0.mk (hbox); have n2_ := Aside0.mk ((by rw [hg]; exact (below_size (by repeat first | exact HB.out | apply below_alloc | apply pw_below_drewN | apply below_drew1)) : w.heap.size ≤ gb419)); have n3_ := Aside0.mk ((by rw [hg]; exact (below_size (by repeat first | exact HB.out | apply below_alloc | apply pw_below_drewN | apply below_drew1)) : w.heap.size ≤ gb419)); clear HB; have HB := n0_; have BK419 := n1_; have GW419 := n2_; have GE419 := n3_; clear n0_ n1_ n2_ n3_; clear hb hbox hg; have hcz5_0 : w4.cell? ⟨gb419, 0, none⟩ = some (.slice A0_0 l0_0.length c0_0) := (blk_cell BK419.out 0).trans rfl; have hcz5_1 : w4.cell? ⟨gb419, 1, none⟩ = some (.slice A0_1 l0_1.length c0_1) := (blk_cell BK419.out 1).trans rfl; have hfz5_0 := blk_frozen BK419.out 0; have hfz5_1 := blk_frozen BK419.out 1) | ((with_reducible refine gate_callee (f := 73) rfl ?_); refine goesL_ (some 10) rfl rfl Try.func73 (by kernel_rfl) rfl #[.agg #[.slice A0_0 l0_0.length c0_0, .slice A0_1 l0_1.length c0_1], .int .i64 a1] rfl (by (try simp only [List.map_toArray, List.map_cons, List.map_nil]); first | done | rfl | (simp only [List.length_drop, List.length_take]; rfl)) ?_; (with_reducible refine (impl_Tree_nodesUnder.calls k _ _ l0_0 _ _ l0_1 a1 t420 _ ?side1 ?side2 ?side3 ?side4 A3.out).mono ?_); (case side1 => repeat (first | exact (Kd.C_below HR0_0.out HB.out) | (with_reducible refine Kd.C_alloc ?_ _) | (with_reducible refine Kd.C_drewN ?_ _) | (with_reducible refine Kd.C_drew ?_))); (case side2 => exact HC0_0.out); (case side3 => repeat (first | exact (Kd.C_below HR0_1.out HB.out) | (with_reducible refine Kd.C_alloc ?_ _) | (with_reducible refine Kd.C_drewN ?_ _) | (with_reducible refine Kd.C_drew ?_))); (case side4 => exact HC0_1.out); rintro e w6 ⟨v421, rfl, ho0, hb⟩; refine ⟨_, rfl, ?_⟩; have n0_ := Aside0.mk (Kd.R_lower ho0 (below_size (by repeat (first | (with_reducible first | exact HB.out | apply below_alloc | apply pw_below_drewN | apply below_drew1 | refine below_set ?_ GE419.out) | exact HB.out)))); have n1_ := Aside0.mk (blk_below (g := gb419) (o := .cells #[.slice A0_0 l0_0.length c0_0, .slice A0_1 l0_1.length c0_1] 31 (0, 0)) (by (with_reducible repeat first | apply blk_drewN | apply blk_drew | apply blk_alloc); exact BK419.out) hb); have n2_ := Aside0.mk (below_step (by repeat (first | (with_reducible first | exact HB.out | apply below_alloc | apply pw_below_drewN | apply below_drew1 | refine below_set ?_ GE419.out) | exact HB.out)) hb); clear BK419; clear HB; have HO422 := n0_; have BK419 := n1_; have HB := n2_; clear n0_ n1_ n2_; (try clear hb); (try clear hb2); (try clear hk); (try clear hi); (try clear ho0); obtain ⟨Ao7, co7, eo7⟩ := Kd.R_slice HO422.out; subst eo7))
  go_loopg [5, 12] k (fun kq v5 v12 w' => ∃ (x5_1 : Int) (x12_1 : Int), v5 = .int .i64 x5_1 ∧ v12 = .int .i64 x12_1 ∧ Aside0 (impl_Tree_weight.l0 kq x5_1 t420 (t420.length : Int) x12_1 l0_0 l0_1 = some r) ∧ Aside0 (kq ≤ k) ∧ Aside0 (Kd.R (Kd.int .i64) 2 w' w.heap.size (fun _ => True) (.slice Ao7 t420.length co7) t420) ∧ Aside0 (w'.heap[gb419]? = some (.cells #[(.slice A0_0 l0_0.length c0_0), (.slice A0_1 l0_1.length c0_1)] 31 (0, 0))) ∧ Aside0 (Below w.heap.size w w'))
  case atStart => exact ⟨(0), (0), (by first | rfl | (simp; done) | (simp [*]; done)), (by first | rfl | (simp; done) | (simp [*]; done)), H', ⟨Nat.le_refl _⟩, ⟨by (with_reducible repeat (first | apply Kd.R_alloc | apply Kd.R_drewN | apply Kd.R_drew)); exact HO422.out⟩, ⟨by (with_reducible repeat first | apply blk_drewN | apply blk_drew | apply blk_alloc); exact BK419.out⟩, ⟨by repeat (first | (with_reducible first | exact HB.out | apply below_alloc | apply pw_below_drewN | apply below_drew1 | refine below_set ?_ GE419.out) | exact HB.out)⟩⟩
  case round =>
    clear H'
    try clear p2
    try clear c6
    try clear c7
    try clear hcz5_0
    try clear hcz5_1
    try clear hfz5_0
    try clear hfz5_1
    obtain ⟨x5_1, x12_1, rfl, rfl, HA, HK1, HO_10, BK419, HB⟩ := hrel
    cases gk with
    | zero => exact absurd HA.out (by simp [impl_Tree_weight.l0])
    | succ k1 =>
      have H := HA.out
      clear HA
      simp only [impl_Tree_weight.l0] at H
      by_cases c8 : x12_1 < (t420.length : Int)
      · rw [if_pos c8] at H
        have c8b0 : decide (x12_1 < (t420.length : Int)) = true := decide_eq_true c8
        clear c8
        by_cases c9 : 0 ≤ x12_1
        · rw [if_pos c9] at H
          have c9b0 : decide (0 ≤ x12_1) = true := decide_eq_true c9
          clear c9
          by_cases c10 : x12_1 < (t420.length : Int)
          · rw [if_pos c10] at H
            have c10b0 : decide (x12_1 < (t420.length : Int)) = true := decide_eq_true c10
            clear c10
            replace H := Option.bind_eq_some_iff.mp H
            obtain ⟨t424, A110, H⟩ := H
            replace H : (if 0 ≤ t424 then (if t424 < (l0_0.length : Int) then (impl_Tree_weight.l0 k1 (wrap64 (x5_1 + ((rd_T50 l0_0 t424).f1))) t420 (t420.length : Int) (wrap64 (x12_1 + 1)) l0_0 l0_1) else (none)) else (none)) = some r := H
            have A11 := Aside0.mk A110
            clear A110
            by_cases c12 : 0 ≤ t424
            · rw [if_pos c12] at H
              have c12b0 : decide (0 ≤ t424) = true := decide_eq_true c12
              clear c12
              by_cases c13 : t424 < (l0_0.length : Int)
              · rw [if_pos c13] at H
                have c13b0 : decide (t424 < (l0_0.length : Int)) = true := decide_eq_true c13
                clear c13
                have H' := Aside0.mk H
                clear H
                have p423 : 0 ≤ (x12_1 : Int) := of_decide_eq_true (by assumption)
                have q423 : x12_1 < (t420.length : Int) := of_decide_eq_true (by assumption)
                obtain ⟨ad423, e423, hx423_0⟩ := Kd.at_int (Kd.R_reads' HO_10.out).2.2 x12_1 p423 q423
                cases e423
                replace p423 := eq_true p423
                replace q423 := eq_true q423
                try go_wp2
                have n0_ := Aside0.mk (Kd.R_drew HO_10.out)
                have n1_ := Aside0.mk (blk_drew BK419.out)
                have n2_ := Aside0.mk (below_drew1 HB.out)
                clear HO_10
                clear BK419
                clear HB
                have HO_10 := n0_
                have BK419 := n1_
                have HB := n2_
                clear n0_ n1_ n2_
                have p425 : 0 ≤ (t424 : Int) := of_decide_eq_true (by assumption)
                have q425 : t424 < (l0_0.length : Int) := of_decide_eq_true (by assumption)
                obtain ⟨ad425, e425, hx425_0, hx425_1⟩ := at_T50 HR0_0.out t424 p425 q425
                have hw425_1 := hx425_1
                have hw425_0 := hx425_0
                cases e425
                replace hx425_0 := (HB.out.cell (World.block_lt_of_cell? w _ hx425_0)).trans hx425_0
                replace hx425_1 := (HB.out.cell (World.block_lt_of_cell? w _ hx425_1)).trans hx425_1
                replace p425 := eq_true p425
                replace q425 := eq_true q425
                refine start_ (n := 11) (S := fun w' => w'.cell? ⟨gb419, 0, none⟩ = some (.slice (some ad425) l0_0.length c0_0) ∧ w'.cell? ⟨gb419, 1, none⟩ = some (.slice A0_1 l0_1.length c0_1) ∧ w'.cell? (ad425.add ((t424).toNat * 2)) = some (.int .i64 ((rd_T50 l0_0 t424).f0)) ∧ w'.cell? ⟨(ad425.add ((t424).toNat * 2)).block, (ad425.add ((t424).toNat * 2)).off + 1, none⟩ = some (.int .i64 ((rd_T50 l0_0 t424).f1))) (ds := []) #[false, false, false, false, false, false, false, false, false, false, false] (by kernel_rfl) rfl rfl ⟨(blk_cell BK419.out 0).trans rfl, (blk_cell BK419.out 1).trans rfl, ((HB.out.cell (World.block_lt_of_cell? w _ hw425_0)).trans hw425_0), ((HB.out.cell (World.block_lt_of_cell? w _ hw425_1)).trans hw425_1)⟩ (fun hHeld => ?_); refine with_tabW impl_Tree_weight.tab5 impl_Tree_weight.bits5 (fun HT_ HW_ => ?_)
                generalize wr.drew = w14 at HO_10 BK419 HB hx425_0 hx425_1 hHeld ⊢
                refine pure_ (i := 0) (N := some 16) (v := ?_) (a' := ?_) #[true, false, false, false, false, false, false, false, false, false, false] rfl rfl (any_of HT_.out (by kernel_rfl)) (fun _ _ _ h => h) (Or.inl ⟨by rfl, ?_⟩) ?_ ?_
                rotate_left
                · intro w'
                  go_simp
                  with_reducible rfl
                rotate_left
                · simp only [Act.put, List.setIfInBounds_toArray, List.set_cons_zero, List.set_cons_succ, i64_w, i32_w]
                  rfl
                refine pure_ (i := 1) (N := some 17) (v := ?_) (a' := ?_) #[true, true, false, false, false, false, false, false, false, false, false] rfl rfl (any_of HT_.out (by kernel_rfl)) (fun _ _ _ h => h) (Or.inl ⟨by rfl, ?_⟩) ?_ ?_
                rotate_left
                · intro w'
                  go_simp
                  with_reducible rfl
                rotate_left
                · simp only [Act.put, List.setIfInBounds_toArray, List.set_cons_zero, List.set_cons_succ, i64_w, i32_w]
                  rfl
                refine pure_ (i := 4) (N := some 20) (v := ?_) (a' := ?_) #[true, true, false, false, true, false, false, false, false, false, false] rfl rfl (any_of HT_.out (by kernel_rfl)) (fun _ _ _ h => h) (Or.inl ⟨by rfl, ?_⟩) ?_ ?_
                rotate_left
                · intro w'
                  go_simp
                  with_reducible rfl
                rotate_left
                · simp only [Act.put, List.setIfInBounds_toArray, List.set_cons_zero, List.set_cons_succ, i64_w, i32_w]
                  rfl
                refine take_ (i := 2) (N := some 18) (v := ?_) (a' := ?_) #[true, true, true, false, true, false, false, false, false, false, false] rfl rfl (take_ofW HT_.out HW_.out (by kernel_rfl)) (fun _ _ _ h => h) (Or.inl ⟨by rfl, ?_⟩) hHeld ?_ ?_
                rotate_left
                · rintro w' ⟨s0, s1, s2, s3⟩
                  go_simp
                  with_reducible rfl
                rotate_left
                · simp only [Act.put, List.setIfInBounds_toArray, List.set_cons_zero, List.set_cons_succ, i64_w, i32_w]
                  rfl
                refine take_ (i := 3) (N := some 19) (v := ?_) (a' := ?_) #[true, true, true, true, true, false, false, false, false, false, false] rfl rfl (take_ofW HT_.out HW_.out (by kernel_rfl)) (fun _ _ _ h => h) (Or.inl ⟨by rfl, ?_⟩) hHeld ?_ ?_
                rotate_left
                · rintro w' ⟨s0, s1, s2, s3⟩
                  go_simp
                  with_reducible rfl
                rotate_left
                · simp only [Act.put, List.setIfInBounds_toArray, List.set_cons_zero, List.set_cons_succ, i64_w, i32_w]
                  rfl
                refine one_ (i := 5) (N := some 21) #[true, true, true, true, true, true, false, false, false, false, false] rfl rfl (one_of HT_.out (by kernel_rfl)) (by decide) (fun K hK => ?_)
                refine goes_ Try.func104 (by kernel_rfl) rfl #[.agg #[.slice (some ad425) l0_0.length c0_0, .slice A0_1 l0_1.length c0_1], .int .i64 (rd t420 x12_1)] (by rfl) rfl rfl (by (try simp only [List.map_toArray, List.map_cons, List.map_nil]); first | done | rfl | (simp only [List.length_drop, List.length_take]; rfl)) ?_
                with_reducible refine (impl_Tree_device.calls _ _ l0_0 _ _ l0_1 (rd t420 x12_1) t424 _ ?side1 ?side2 ?side3 ?side4 A11.out).mono ?_
                (case side1 => repeat (first | exact (Kd.C_below HR0_0.out HB.out) | (with_reducible refine Kd.C_alloc ?_ _) | (with_reducible refine Kd.C_drewN ?_ _) | (with_reducible refine Kd.C_drew ?_)))
                (case side2 => exact HC0_0.out)
                (case side3 => repeat (first | exact (Kd.C_below HR0_1.out HB.out) | (with_reducible refine Kd.C_alloc ?_ _) | (with_reducible refine Kd.C_drewN ?_ _) | (with_reducible refine Kd.C_drew ?_)))
                (case side4 => exact HC0_1.out)
                rintro e w15 ⟨rfl, hb⟩
                refine ⟨_, rfl, ?_⟩
                have n0_ := Aside0.mk (Kd.R_below (by (with_reducible repeat (first | apply Kd.R_alloc | apply Kd.R_drewN | apply Kd.R_drew)); exact HO_10.out) hb)
                have n1_ := Aside0.mk (blk_below (g := gb419) (o := .cells #[.slice (some ad425) l0_0.length c0_0, .slice A0_1 l0_1.length c0_1] 31 (0, 0)) (by (with_reducible repeat first | apply blk_drewN | apply blk_drew | apply blk_alloc); exact BK419.out) hb)
                have n2_ := Aside0.mk (below_step (by repeat (first | (with_reducible first | exact HB.out | apply below_alloc | apply pw_below_drewN | apply below_drew1 | refine below_set ?_ GE419.out) | exact HB.out)) hb)
                clear HO_10
                clear BK419
                clear HB
                have HO_10 := n0_
                have BK419 := n1_
                have HB := n2_
                clear n0_ n1_ n2_
                (try clear hb)
                (try clear hb2)
                (try clear hk)
                (try clear hi)
                refine hK.out _ _ ⟨(blk_cell BK419.out 0).trans rfl, (blk_cell BK419.out 1).trans rfl, ((HB.out.cell (World.block_lt_of_cell? w _ hw425_0)).trans hw425_0), ((HB.out.cell (World.block_lt_of_cell? w _ hw425_1)).trans hw425_1)⟩ (fun hHeld => ?_)
                clear hK K
                refine norm_ (a' := ?_) ?_ ?_
                rotate_left
                · show Act.put _ (some 21) _ = _
                  simp only [Act.put, List.setIfInBounds_toArray, List.set_cons_zero, List.set_cons_succ, i64_w, i32_w]
                  rfl
                refine pure_ (i := 6) (N := some 22) (v := ?_) (a' := ?_) #[true, true, true, true, true, true, true, false, false, false, false] rfl rfl (any_of HT_.out (by kernel_rfl)) (fun _ _ _ h => h) (Or.inl ⟨by rfl, ?_⟩) ?_ ?_
                rotate_left
                · intro w'
                  go_simp
                  with_reducible rfl
                rotate_left
                · simp only [Act.put, List.setIfInBounds_toArray, List.set_cons_zero, List.set_cons_succ, i64_w, i32_w]
                  rfl
                refine pure_ (i := 7) (N := some 23) (v := ?_) (a' := ?_) #[true, true, true, true, true, true, true, true, false, false, false] rfl rfl (any_of HT_.out (by kernel_rfl)) (fun _ _ _ h => h) (Or.inl ⟨by rfl, ?_⟩) ?_ ?_
                rotate_left
                · intro w'
                  go_simp
                  with_reducible rfl
                rotate_left
                · simp only [Act.put, List.setIfInBounds_toArray, List.set_cons_zero, List.set_cons_succ, i64_w, i32_w]
                  rfl
                refine take_ (i := 8) (N := some 24) (v := ?_) (a' := ?_) #[true, true, true, true, true, true, true, true, true, false, false] rfl rfl (take_ofW HT_.out HW_.out (by kernel_rfl)) (fun _ _ _ h => h) (Or.inl ⟨by rfl, ?_⟩) hHeld ?_ ?_
                rotate_left
                · rintro w' ⟨s0, s1, s2, s3⟩
                  go_simp
                  with_reducible rfl
                rotate_left
                · simp only [Act.put, List.setIfInBounds_toArray, List.set_cons_zero, List.set_cons_succ, i64_w, i32_w]
                  rfl
                refine pure_ (i := 9) (N := some 25) (v := ?_) (a' := ?_) #[true, true, true, true, true, true, true, true, true, true, false] rfl rfl (any_of HT_.out (by kernel_rfl)) (fun _ _ _ h => h) (Or.inl ⟨by rfl, ?_⟩) ?_ ?_
                rotate_left
                · intro w'
                  go_simp
                  with_reducible rfl
                rotate_left
                · simp only [Act.put, List.setIfInBounds_toArray, List.set_cons_zero, List.set_cons_succ, i64_w, i32_w]
                  rfl
                refine pure_ (i := 10) (N := some 5) (v := ?_) (a' := ?_) #[true, true, true, true, true, true, true, true, true, true, true] rfl rfl (any_of HT_.out (by kernel_rfl)) (fun _ _ _ h => h) (Or.inl ⟨by rfl, ?_⟩) ?_ ?_
                rotate_left
                · intro w'
                  go_simp
                  with_reducible rfl
                rotate_left
                · simp only [Act.put, List.setIfInBounds_toArray, List.set_cons_zero, List.set_cons_succ, i64_w, i32_w]
                  rfl
                refine done_ (done_of HT_.out (by kernel_rfl)) ?_
                try go_wp2
                go_roundg k1
                case measure => have := HK1.out; omega
                case rel => exact ⟨(wrap64 (x5_1 + ((rd_T50 l0_0 t424).f1))), (wrap64 (x12_1 + 1)), (by first | rfl | (simp; done) | (simp [*]; done)), (by first | rfl | (simp; done) | (simp [*]; done)), H', ⟨by have := HK1.out; omega⟩, ⟨by (with_reducible repeat (first | apply Kd.R_alloc | apply Kd.R_drewN | apply Kd.R_drew)); exact HO_10.out⟩, ⟨by (with_reducible repeat first | apply blk_drewN | apply blk_drew | apply blk_alloc); exact BK419.out⟩, ⟨by repeat (first | (with_reducible first | exact HB.out | apply below_alloc | apply pw_below_drewN | apply below_drew1 | refine below_set ?_ GE419.out) | exact HB.out)⟩⟩
              · rw [if_neg c13] at H
                exact absurd H (by simp)
            · rw [if_neg c12] at H
              exact absurd H (by simp)
          · rw [if_neg c10] at H
            exact absurd H (by simp)
        · rw [if_neg c9] at H
          exact absurd H (by simp)
      · rw [if_neg c8] at H
        have c8b0 : decide (x12_1 < (t420.length : Int)) = false := decide_eq_false c8
        clear c8
        obtain rfl := Option.some.inj H
        go_wp2
        go_ret
        exact ⟨by first | rfl | (simp [*, errW_none, errW_some] <;> rfl), by repeat (first | (with_reducible first | exact HB.out | apply below_alloc | apply pw_below_drewN | apply below_drew1 | refine below_set ?_ GE419.out) | exact HB.out)⟩

end Go.Proofs.Ytkadeelplnkpgaa.Q

-- text Qf114
namespace Go.Proofs.Ytkadeelplnkpgaa.Q
open Go.RowKit Go.Proofs.YtkadeelplnkpgaaW.PrintWords Go.Proofs.YtkadeelplnkpgaaW.PrintLast Go.Proofs.YtkadeelplnkpgaaW.PrintMore
attribute [local go_sem] max2_int min2_int max_two min_two max_three min_three max_four min_four   -- for this text's walks alone
set_option linter.unusedVariables false
set_option linter.unusedSimpArgs false

/-! ### impl_increasing: function 114 -/
def impl_increasing.l0 : Nat → List Int → Int → Option (Bool)
  | 0, _, _ => none
  | k + 1, x0, x3 => if x3 < (x0.length : Int) then (if 0 ≤ x3 then (if 0 ≤ (wrap64 (x3 - 1)) then (if (wrap64 (x3 - 1)) < (x0.length : Int) then (if (rd x0 x3) ≤ (rd x0 (wrap64 (x3 - 1))) then (some false) else (impl_increasing.l0 k x0 (wrap64 (x3 + 1)))) else (none)) else (none)) else (none)) else (some true)
def impl_increasing.f (k : Nat) (l0 : List Int) : Option (Bool) := impl_increasing.l0 k l0 1
set_option maxHeartbeats 8000000 in
set_option maxRecDepth 100000 in
theorem impl_increasing.calls (k : Nat) (A0 : Option Addr) (c0 : Nat) (l0 : List Int) (r : Bool) (w : World) (hr0 : Kd.C (Kd.int .i64) w A0 l0.length l0) (hc0 : l0.length ≤ c0) (h : impl_increasing.f k l0 = some r) :
    Calls Try.prog 114 #[.slice A0 l0.length c0] w fun e w' => e = .returned (.bool r) ∧ Drawn0 w w' := by
  have HR0 := Aside0.mk hr0
  have HC0 := Aside0.mk hc0
  clear hr0 hc0
  have H : (impl_increasing.l0 k l0 1) = some r := h
  clear h
  have H' := Aside0.mk H
  clear H
  go_enter Try.func114, Try.ntmps114
  go_wp2
  repeat (go_quiet (fail); try go_wp2)
  go_loopg [3] k (fun kq v3 w' => ∃ (x3_1 : Int), v3 = .int .i64 x3_1 ∧ Aside0 (impl_increasing.l0 kq l0 x3_1 = some r) ∧ Aside0 (kq ≤ k) ∧ Drawn0 w w')
  case atStart => exact ⟨(1), (by first | rfl | (simp; done) | (simp [*]; done)), H', ⟨Nat.le_refl _⟩, by repeat (first | exact Drawn0.refl _ | apply Drawn0.step)⟩
  case round =>
    clear H'
    try clear c1
    obtain ⟨x3_1, rfl, HA, HK1, ⟨m1, rfl⟩⟩ := hrel
    cases gk with
    | zero => exact absurd HA.out (by simp [impl_increasing.l0])
    | succ k1 =>
      have H := HA.out
      clear HA
      simp only [impl_increasing.l0] at H
      by_cases c2 : x3_1 < (l0.length : Int)
      · rw [if_pos c2] at H
        have c2b0 : decide (x3_1 < (l0.length : Int)) = true := decide_eq_true c2
        clear c2
        by_cases c3 : 0 ≤ x3_1
        · rw [if_pos c3] at H
          have c3b0 : decide (0 ≤ x3_1) = true := decide_eq_true c3
          clear c3
          obtain ⟨ji4, hji4⟩ : ∃ j_ : Int, (wrap64 (x3_1 - 1)) = j_ := ⟨_, rfl⟩
          replace H : (if 0 ≤ (ji4) then (if (ji4) < (l0.length : Int) then (if (rd l0 x3_1) ≤ (rd l0 (ji4)) then (some false) else (impl_increasing.l0 k1 l0 (wrap64 (x3_1 + 1)))) else (none)) else (none)) = some r := by first | (rw [hji4] at H; exact H) | (simp only [hji4] at H ⊢; exact H)
          have hji4w : (IntKind.i64.wrap (x3_1 - 1)) = ji4 := (i64_w _).trans hji4
          by_cases c5 : 0 ≤ (ji4)
          · rw [if_pos c5] at H
            have c5b0 : decide (0 ≤ (ji4)) = true := decide_eq_true c5
            clear c5
            by_cases c6 : (ji4) < (l0.length : Int)
            · rw [if_pos c6] at H
              have c6b0 : decide ((ji4) < (l0.length : Int)) = true := decide_eq_true c6
              clear c6
              by_cases c7 : (rd l0 x3_1) ≤ (rd l0 (ji4))
              · rw [if_pos c7] at H
                have c7b0 : decide ((rd l0 x3_1) ≤ (rd l0 (ji4))) = true := decide_eq_true c7
                clear c7
                obtain rfl := Option.some.inj H
                have p638 : 0 ≤ (x3_1 : Int) := of_decide_eq_true (by assumption)
                have q638 : x3_1 < (l0.length : Int) := of_decide_eq_true (by assumption)
                obtain ⟨ad638, e638, hx638_0⟩ := Kd.at_int HR0.out x3_1 p638 q638
                cases e638
                replace p638 := eq_true p638
                replace q638 := eq_true q638
                have p639 : 0 ≤ ((ji4) : Int) := of_decide_eq_true (by assumption)
                have q639 : (ji4) < (l0.length : Int) := of_decide_eq_true (by assumption)
                obtain ⟨ad639, e639, hx639_0⟩ := Kd.at_int HR0.out (ji4) p639 q639
                obtain rfl : ad638 = ad639 := (by injection e639)
                replace p639 := eq_true p639
                replace q639 := eq_true q639
                go_wp2
                repeat (go_quiet (fail); try go_wp2)
                go_ret
                exact ⟨by first | rfl | (simp; done) | (simp only [← hji4] <;> (first | rfl | simp)) | (simp [*]; done), by repeat (first | exact Drawn0.refl _ | apply Drawn0.step)⟩
              · rw [if_neg c7] at H
                have c7b0 : decide ((rd l0 x3_1) ≤ (rd l0 (ji4))) = false := decide_eq_false c7
                clear c7
                have H' := Aside0.mk H
                clear H
                have p638 : 0 ≤ (x3_1 : Int) := of_decide_eq_true (by assumption)
                have q638 : x3_1 < (l0.length : Int) := of_decide_eq_true (by assumption)
                obtain ⟨ad638, e638, hx638_0⟩ := Kd.at_int HR0.out x3_1 p638 q638
                cases e638
                replace p638 := eq_true p638
                replace q638 := eq_true q638
                have p639 : 0 ≤ ((ji4) : Int) := of_decide_eq_true (by assumption)
                have q639 : (ji4) < (l0.length : Int) := of_decide_eq_true (by assumption)
                obtain ⟨ad639, e639, hx639_0⟩ := Kd.at_int HR0.out (ji4) p639 q639
                obtain rfl : ad638 = ad639 := (by injection e639)
                replace p639 := eq_true p639
                replace q639 := eq_true q639
                go_wp2
                repeat (go_quiet (fail); try go_wp2)
                go_roundg k1
                case measure => have := HK1.out; omega
                case rel => exact ⟨(wrap64 (x3_1 + 1)), (by first | rfl | (simp; done) | (simp [*]; done)), H', ⟨by have := HK1.out; omega⟩, by repeat (first | exact Drawn0.refl _ | apply Drawn0.step)⟩
            · rw [if_neg c6] at H
              exact absurd H (by simp)
          · rw [if_neg c5] at H
            exact absurd H (by simp)
        · rw [if_neg c3] at H
          exact absurd H (by simp)
      · rw [if_neg c2] at H
        have c2b0 : decide (x3_1 < (l0.length : Int)) = false := decide_eq_false c2
        clear c2
        obtain rfl := Option.some.inj H
        go_wp2
        repeat (go_quiet (fail); try go_wp2)
        go_ret
        exact ⟨by first | rfl | (simp; done) | (simp [*]; done), by repeat (first | exact Drawn0.refl _ | apply Drawn0.step)⟩

end Go.Proofs.Ytkadeelplnkpgaa.Q

-- text Qf136
namespace Go.Proofs.Ytkadeelplnkpgaa.Q
open Go.RowKit Go.Proofs.YtkadeelplnkpgaaW.PrintWords Go.Proofs.YtkadeelplnkpgaaW.PrintLast Go.Proofs.YtkadeelplnkpgaaW.PrintMore
attribute [local go_sem] max2_int min2_int max_two min_two max_three min_three max_four min_four   -- for this text's walks alone
set_option linter.unusedVariables false
set_option linter.unusedSimpArgs false

/-! ### slices_IndexFunc_int64_int64: function 136 -/
set_option maxHeartbeats 2000000 in
set_option maxRecDepth 100000 in
theorem indexInt64.calls (A : Option Addr) (c : Nat) (l : List (Int)) (g : Nat) (lb : Array Value) (p : Int → Bool) (w : World) (eg : ∀ args w, (callFunc g args).run Try.prog w = .ok (.enter g args) w)
    (hr : Kd.C (Kd.int .i64) w A l.length l) (hp : PredV (Kd.int .i64) (fun cs => cs.headD undef) g lb p w) :
    Calls Try.prog 136 #[.slice A l.length c, .func (.func g) #[] lb] w fun e w' => e = .returned (.int .i64 (idxFrom p l 0)) ∧ Below w.heap.size w w' := by
  have hm := Kd.C_max hr
  go_enter Try.func136, Try.ntmps136
  go_wp2
  go_loopg [5, 8] l.length (fun gg _ s8 wr => ∃ kk : Int, 0 ≤ kk ∧ kk ≤ l.length ∧ (l.length : Int) - kk ≤ gg ∧ s8 = .int .i64 kk ∧ Aside0 (Below w.heap.size w wr) ∧ Aside0 (idxFrom p l 0 = idxFrom p (l.drop kk.toNat) kk))
  case atStart => exact ⟨0, by omega, by omega, by omega, rfl, ⟨Below.refl _ w⟩, ⟨by simp⟩⟩
  case round =>
    obtain ⟨kk, h0, hkk, hg, rfl, BW, HA⟩ := hrel
    by_cases hlt : kk < (l.length : Int)
    · obtain ⟨ad, rfl, hx0⟩ := Kd.at_int hr kk h0 hlt
      have hcall : Calls Try.prog g (#[.int .i64 (rd l kk)] ++ lb) wr (fun e w' => e = .returned (.bool (p (rd l kk))) ∧ Below w.heap.size w w') := hp wr (rd l kk) [.int .i64 (rd l kk)] BW.out rfl
      have hH := idx_here p l kk h0 hlt (0 : Int)
      replace hx0 := (BW.out.cell (World.block_lt_of_cell? w _ hx0)).trans hx0
      clear hr hp
      have HH := Aside0.mk (show (p (rd l kk) = true → idxFrom p (l.drop kk.toNat) kk = kk) ∧ (p (rd l kk) = false → idxFrom p (l.drop kk.toNat) kk = idxFrom p (l.drop (kk + 1).toNat) (kk + 1)) from hH)
      clear hH
      have q0 := eq_true h0
      have q1 := eq_true hlt
      cases hq : p (rd l kk) with
      | true =>
        rw [hq] at hcall
        have HQ := Aside0.mk hq
        clear hq
        go_wp2_with fail
        (with_reducible refine hcall.mono ?_)
        clear hcall
        rintro e w' ⟨rfl, hb'⟩
        have HB' := Aside0.mk hb'
        clear hb'
        go_wp2_with fail
        go_ret
        refine ⟨?_, HB'.out⟩
        rw [HA.out, HH.out.1 HQ.out]
        rfl
      | false =>
        rw [hq] at hcall
        have HQ := Aside0.mk hq
        clear hq
        go_wp2_with fail
        (with_reducible refine hcall.mono ?_)
        clear hcall
        rintro e w' ⟨rfl, hb'⟩
        have HB' := Aside0.mk hb'
        clear hb'
        go_wp2_with fail
        go_roundg (gk - 1)
        case measure => omega
        case rel => exact ⟨kk + 1, by omega, by omega, by omega, by go_num, HB', ⟨by rw [HA.out, HH.out.2 HQ.out]⟩⟩
    · have : kk = l.length := by omega
      subst this
      go_wp2
      go_ret
      exact ⟨by rw [HA.out, idx_end p l _ rfl]; rfl, BW.out⟩

end Go.Proofs.Ytkadeelplnkpgaa.Q

-- text Qf132
namespace Go.Proofs.Ytkadeelplnkpgaa.Q
open Go.RowKit Go.Proofs.YtkadeelplnkpgaaW.PrintWords Go.Proofs.YtkadeelplnkpgaaW.PrintLast Go.Proofs.YtkadeelplnkpgaaW.PrintMore
attribute [local go_sem] max2_int min2_int max_two min_two max_three min_three max_four min_four   -- for this text's walks alone
set_option linter.unusedVariables false
set_option linter.unusedSimpArgs false

/-! ### slices_ContainsFunc_int64_int64: function 132 -/
set_option maxHeartbeats 2000000 in
set_option maxRecDepth 100000 in
theorem containsInt64.calls (A : Option Addr) (c : Nat) (l : List (Int)) (g : Nat) (lb : Array Value) (p : Int → Bool) (w : World) (eg : ∀ args w, (callFunc g args).run Try.prog w = .ok (.enter g args) w)
    (hr : Kd.C (Kd.int .i64) w A l.length l) (hp : PredV (Kd.int .i64) (fun cs => cs.headD undef) g lb p w) :
    Calls Try.prog 132 #[.slice A l.length c, .func (.func g) #[] lb] w fun e w' => e = .returned (.bool (l.any p)) ∧ Below w.heap.size w w' := by
  have HH := Aside0.mk (idx_any p l 0 (by omega))
  go_enter Try.func132, Try.ntmps132
  go_wp2_with fail
  refine (indexInt64.calls A c l g lb p w eg hr hp).mono ?_
  rintro e w' ⟨rfl, hb'⟩
  have HB' := Aside0.mk hb'
  clear hb' hr hp
  generalize idxFrom p l 0 = i at HH ⊢
  go_wp2_with fail
  go_ret
  exact ⟨by rw [← HH.out]; rfl, HB'.out⟩

end Go.Proofs.Ytkadeelplnkpgaa.Q

-- text Qf115
namespace Go.Proofs.Ytkadeelplnkpgaa.Q
open Go.RowKit Go.Proofs.YtkadeelplnkpgaaW.PrintWords Go.Proofs.YtkadeelplnkpgaaW.PrintLast Go.Proofs.YtkadeelplnkpgaaW.PrintMore
attribute [local go_sem] max2_int min2_int max_two min_two max_three min_three max_four min_four   -- for this text's walks alone
set_option linter.unusedVariables false
set_option linter.unusedSimpArgs false

/-! ### impl_allBetween: function 115 -/
def impl_allBetween.f (l0 : List Int) (a1 : Int) (a2 : Int) : Option Bool := some (l0.all fun x => inB x a1 a2)
theorem allBetweenClosure.calls (x lo hi : Int) (bl bh : Nat) (W : World) (h1 : W.heap[bl]? = some (.cells #[.int .i64 lo] 2 (0, 0))) (h2 : W.heap[bh]? = some (.cells #[.int .i64 hi] 2 (0, 0))) :
    Calls Try.prog 133 #[.int .i64 x, .pointer (some ⟨bl, 0, none⟩), .pointer (some ⟨bh, 0, none⟩)] W fun e w' => e = .returned (.bool (!(inB x lo hi))) ∧ Below W.heap.size W w' := by
  have hl := (blk_cell h1 0).trans rfl
  have hh := (blk_cell h2 0).trans rfl
  clear h1 h2
  go_enter Try.func133, Try.ntmps133
  go_wp2_with fail
  refine (impl_between.calls _ _ _ _ _ (between_inB x lo hi)).mono ?_
  rintro e w' ⟨rfl, hd⟩
  obtain ⟨n, rfl⟩ := hd.out
  go_wp2_with fail
  go_ret
  exact ⟨rfl, pw_below_drewN (Below.refl _ _) n⟩
theorem all_any (l : List Int) (p : Int → Bool) : (!(l.any fun x => !(p x))) = l.all p := by
  induction l with
  | nil => rfl
  | cons x xs ih => simp only [List.any_cons, List.all_cons, Bool.not_or, ih, Bool.not_not]
set_option maxHeartbeats 4000000 in
set_option maxRecDepth 100000 in
theorem impl_allBetween.calls (A0 : Option Addr) (c0 : Nat) (l0 : List Int) (a1 : Int) (a2 : Int) (r : Bool) (w : World) (hr0 : Kd.C (Kd.int .i64) w A0 l0.length l0) (hc0 : l0.length ≤ c0) (h : impl_allBetween.f l0 a1 a2 = some r) :
    Calls Try.prog 115 #[.slice A0 l0.length c0, .int .i64 a1, .int .i64 a2] w fun e w' => e = .returned (.bool r) ∧ Below w.heap.size w w' := by
  have HR := Aside0.mk hr0
  clear hr0 hc0
  obtain rfl := Option.some.inj h
  clear h
  have HD := Aside0.mk (all_any l0 fun x => inB x a1 a2)
  go_enter Try.func115, Try.ntmps115
  go_wp2_with fail
  have HB := Aside0.mk (below_alloc (below_alloc (Below.refl w.heap.size w) (.cells #[.int .i64 a1] 2)) (.cells #[.int .i64 a2] 2))
  have H1 := Aside0.mk (blk_alloc (blk_new w (.cells #[.int .i64 a1] 2)) (.cells #[.int .i64 a2] 2))
  have H2 := Aside0.mk (blk_new (w.alloc (.cells #[.int .i64 a1] 2)) (.cells #[.int .i64 a2] 2))
  have hs : (w.alloc (.cells #[.int .i64 a1] 2)).heap.size = w.heap.size + 1 := by unfold World.alloc; exact Array.size_push _
  rw [hs] at H2
  clear hs
  generalize ((w.alloc (.cells #[.int .i64 a1] 2)).alloc (.cells #[.int .i64 a2] 2)) = W at HB H1 H2 ⊢
  generalize w.heap.size + 1 = b2 at H2 ⊢
  have HRW := Aside0.mk (Kd.C_below HR.out HB.out)
  refine (containsInt64.calls A0 c0 l0 133 #[.pointer (some ⟨w.heap.size, 0, none⟩), .pointer (some ⟨b2, 0, none⟩)] (fun x => !(inB x a1 a2)) W @Try.call133 HRW.out (by
    intro W2 y cs hB hK
    obtain rfl := hK
    exact (allBetweenClosure.calls y a1 a2 w.heap.size b2 W2 ((hB.block _ (blk_lt H1.out)).trans H1.out) ((hB.block _ (blk_lt H2.out)).trans H2.out)).mono fun r w' ⟨he, hb'⟩ => ⟨he, hB.trans (hb'.mono hB.size)⟩)).mono ?_
  rintro e w' ⟨rfl, hb⟩
  have HB2 := Aside0.mk (below_step HB.out hb)
  clear hb
  go_wp2_with fail
  go_ret
  exact ⟨by rw [← HD.out]; rfl, HB2.out⟩

end Go.Proofs.Ytkadeelplnkpgaa.Q

-- text Qf70
namespace Go.Proofs.Ytkadeelplnkpgaa.Q
open Go.RowKit Go.Proofs.YtkadeelplnkpgaaW.PrintWords Go.Proofs.YtkadeelplnkpgaaW.PrintLast Go.Proofs.YtkadeelplnkpgaaW.PrintMore
attribute [local go_sem] max2_int min2_int max_two min_two max_three min_three max_four min_four   -- for this text's walks alone
set_option linter.unusedVariables false
set_option linter.unusedSimpArgs false

/-! ### impl_outOk: function 70 -/
def impl_outOk.f (k : Nat) (l0 : List Int) : Option (Bool) := (impl_increasing.f k l0).bind fun t640 => (if t640 = true then ((impl_allBetween.f l0 0 15).bind fun t641 => (some t641)) else (some false))
set_option maxHeartbeats 8000000 in
set_option maxRecDepth 100000 in
theorem impl_outOk.calls (k : Nat) (A0 : Option Addr) (c0 : Nat) (l0 : List Int) (r : Bool) (w : World) (hr0 : Kd.C (Kd.int .i64) w A0 l0.length l0) (hc0 : l0.length ≤ c0) (h : impl_outOk.f k l0 = some r) :
    Calls Try.prog 70 #[.slice A0 l0.length c0] w fun e w' => e = .returned (.bool r) ∧ Below w.heap.size w w' := by
  have HR0 := Aside0.mk hr0
  have HC0 := Aside0.mk hc0
  clear hr0 hc0
  have HB := Aside0.mk (Below.refl w.heap.size w)
  have H : ((impl_increasing.f k l0).bind fun t640 => (if t640 = true then ((impl_allBetween.f l0 0 15).bind fun t641 => (some t641)) else (some false))) = some r := h
  clear h
  replace H := Option.bind_eq_some_iff.mp H
  obtain ⟨t640, A20, H⟩ := H
  replace H : (if t640 = true then ((impl_allBetween.f l0 0 15).bind fun t641 => (some t641)) else (some false)) = some r := H
  have A2 := Aside0.mk A20
  clear A20
  by_cases c3 : t640 = true
  · subst c3
    have H1 : ((impl_allBetween.f l0 0 15).bind fun t641 => (some t641)) = some r := by rw [if_pos rfl] at H; exact H
    clear H
    have H := H1
    clear H1
    replace H := Option.bind_eq_some_iff.mp H
    obtain ⟨t641, A40, H⟩ := H
    replace H : (some t641) = some r := H
    have A4 := Aside0.mk A40
    clear A40
    obtain rfl := Option.some.inj H
    go_enter Try.func70, Try.ntmps70
    go_wp2_with (first | ((with_reducible refine gate_callee (f := 114) rfl ?_); refine goesL_ (some 4) rfl rfl Try.func114 (by kernel_rfl) rfl #[.slice A0 l0.length c0] rfl (by (try simp only [List.map_toArray, List.map_cons, List.map_nil]); first | done | rfl | (simp only [List.length_drop, List.length_take]; rfl)) ?_; (with_reducible refine (impl_increasing.calls k _ _ l0 true _ ?side1 ?side2 A2.out).mono ?_); (case side1 => repeat (first | exact HR0.out | (with_reducible refine Kd.C_alloc ?_ _) | (with_reducible refine Kd.C_drewN ?_ _) | (with_reducible refine Kd.C_drew ?_))); (case side2 => exact HC0.out); rintro e w' ⟨rfl, ⟨nd, rfl⟩⟩; refine ⟨_, rfl, ?_⟩) | (go_at_call 115; (with_reducible refine (impl_allBetween.calls _ _ l0 0 15 t641 _ ?side1 ?side2 A4.out).mono ?_); (case side1 => repeat (first | exact HR0.out | (with_reducible refine Kd.C_alloc ?_ _) | (with_reducible refine Kd.C_drewN ?_ _) | (with_reducible refine Kd.C_drew ?_))); (case side2 => exact HC0.out); rintro e w5 ⟨rfl, hb⟩; have n0_ := Aside0.mk (below_step (by repeat first | exact HB.out | apply below_alloc | apply pw_below_drewN | apply below_drew1) hb); clear HB; have HB := n0_; clear n0_; (try clear hb); (try clear hb2); (try clear hk); (try clear hi)))
    go_ret
    exact ⟨by first | rfl | (simp [*, errW_none, errW_some] <;> rfl), by repeat first | exact HB.out | apply below_alloc | apply pw_below_drewN | apply below_drew1⟩
  · replace c3 := Bool.eq_false_iff.mpr c3
    subst c3
    have H1 : (some false) = some r := by rw [if_neg (show ¬ (false = true) by decide)] at H; exact H
    clear H
    have H := H1
    clear H1
    obtain rfl := Option.some.inj H
    go_enter Try.func70, Try.ntmps70
    go_wp2_with (first | ((with_reducible refine gate_callee (f := 114) rfl ?_); refine goesL_ (some 4) rfl rfl Try.func114 (by kernel_rfl) rfl #[.slice A0 l0.length c0] rfl (by (try simp only [List.map_toArray, List.map_cons, List.map_nil]); first | done | rfl | (simp only [List.length_drop, List.length_take]; rfl)) ?_; (with_reducible refine (impl_increasing.calls k _ _ l0 false _ ?side1 ?side2 A2.out).mono ?_); (case side1 => repeat (first | exact HR0.out | (with_reducible refine Kd.C_alloc ?_ _) | (with_reducible refine Kd.C_drewN ?_ _) | (with_reducible refine Kd.C_drew ?_))); (case side2 => exact HC0.out); rintro e w' ⟨rfl, ⟨nd, rfl⟩⟩; refine ⟨_, rfl, ?_⟩))
    go_ret
    exact ⟨by first | rfl | (simp [*, errW_none, errW_some] <;> rfl), by repeat first | exact HB.out | apply below_alloc | apply pw_below_drewN | apply below_drew1⟩

end Go.Proofs.Ytkadeelplnkpgaa.Q

-- text Qf42
namespace Go.Proofs.Ytkadeelplnkpgaa.Q
open Go.RowKit Go.Proofs.YtkadeelplnkpgaaW.PrintWords Go.Proofs.YtkadeelplnkpgaaW.PrintLast Go.Proofs.YtkadeelplnkpgaaW.PrintMore
attribute [local go_sem] max2_int min2_int max_two min_two max_three min_three max_four min_four   -- for this text's walks alone
set_option linter.unusedVariables false
set_option linter.unusedSimpArgs false

/-! ### impl_CanPlace: function 42 -/
/-- the domains that are free: of the things that have one, are not out and weigh something -/
def placeGo (gd : Int → Option (Int × Bool)) (gc : Int → Option Bool) (gw : Int → Option Int) : List Int → List Int → Option (List Int)
  | S, [] => some S
  | S, x :: xs => (gd x).bind fun d => if d.2 = true then ((gc x).bind fun c => if c = true then placeGo gd gc gw S xs else (gw x).bind fun t => if t > 0 then (if wfI d.1 = true then placeGo gd gc gw (S ++ [d.1]) xs else none) else placeGo gd gc gw S xs) else placeGo gd gc gw S xs
theorem placeGo_here (gd : Int → Option (Int × Bool)) (gc : Int → Option Bool) (gw : Int → Option Int) (S l : List Int) (i : Int) (h0 : 0 ≤ i) (h1 : i < (l.length : Int)) : placeGo gd gc gw S (l.drop i.toNat) = (gd (rd l i)).bind fun d => if d.2 = true then ((gc (rd l i)).bind fun c => if c = true then placeGo gd gc gw S (l.drop (i + 1).toNat) else (gw (rd l i)).bind fun t => if t > 0 then (if wfI d.1 = true then placeGo gd gc gw (S ++ [d.1]) (l.drop (i + 1).toNat) else none) else placeGo gd gc gw S (l.drop (i + 1).toNat)) else placeGo gd gc gw S (l.drop (i + 1).toNat) := by
  obtain ⟨n, rfl⟩ := Int.eq_ofNat_of_zero_le h0
  have hl : n < l.length := by omega
  have e : ((n : Int) + 1).toNat = n + 1 := by omega
  have er : rd l (n : Int) = l[n] := by unfold rd; rw [Int.toNat_natCast, List.getD_eq_getElem?_getD, List.getElem?_eq_getElem hl]; rfl
  rw [e, Int.toNat_natCast, List.drop_eq_getElem_cons hl, er]
  rfl
def impl_CanPlace.f (k : Nat) (l0_0 : List (S50)) (l0_1 : List (S108)) (a1_0 a1_1 a1_2 : Int) (a1_3 : Bool) (l2 : List Int) : Option (Int × Bool) :=
  (impl_RuleOk.f k l0_0 l0_1 a1_0 a1_1 a1_2 a1_3).bind fun t => if t = true then ((impl_outOk.f k l2).bind fun o => if o = true then ((impl_Tree_nodesUnder.f k l0_0 l0_1 a1_1).bind fun n => if n.length ≤ 1048576 then (placeGo (fun x => impl_Tree_domain.f k l0_0 l0_1 a1_2 x) (fun x => slices_Contains_int64_int64.f k l2 x) (fun x => impl_Tree_weight.f k l0_0 l0_1 x) [] n).map fun S => (((onceOf S).length : Int), true) else none) else some (0, false)) else some (0, false)
set_option maxHeartbeats 4000000 in
set_option maxRecDepth 100000 in
theorem impl_CanPlace.calls (k : Nat) (A0_0 : Option Addr) (c0_0 : Nat) (l0_0 : List (S50)) (A0_1 : Option Addr) (c0_1 : Nat) (l0_1 : List (S108)) (a1_0 a1_1 a1_2 : Int) (a1_3 : Bool) (A2 : Option Addr) (c2 : Nat) (l2 : List Int) (r1 : Int) (r2 : Bool) (w : World) (hr0_0 : Kd.C k50 w A0_0 l0_0.length l0_0) (hc0_0 : l0_0.length ≤ c0_0) (hr0_1 : Kd.C k108 w A0_1 l0_1.length l0_1) (hc0_1 : l0_1.length ≤ c0_1) (hr2 : Kd.C (Kd.int .i64) w A2 l2.length l2) (hc2 : l2.length ≤ c2) (h : impl_CanPlace.f k l0_0 l0_1 a1_0 a1_1 a1_2 a1_3 l2 = some (r1, r2)) :
    Calls Try.prog 42 #[.agg #[.slice A0_0 l0_0.length c0_0, .slice A0_1 l0_1.length c0_1], .agg #[.int .i64 a1_0, .int .i64 a1_1, .int .i64 a1_2, .bool a1_3], .slice A2 l2.length c2] w fun e w' => e = .returned (.tuple #[.int .i64 r1, .bool r2]) ∧ Below w.heap.size w w' := by
  have HR0 := Aside0.mk hr0_0
  have HR1 := Aside0.mk hr0_1
  have HR2 := Aside0.mk hr2
  have HC0 := Aside0.mk hc0_0
  have HC1 := Aside0.mk hc0_1
  have HC2 := Aside0.mk hc2
  clear hr0_0 hr0_1 hr2 hc0_0 hc0_1 hc2
  unfold impl_CanPlace.f at h
  obtain ⟨t, ht, h2⟩ := Option.bind_eq_some_iff.1 h
  have HT := Aside0.mk ht
  have H := Aside0.mk h2
  clear h ht h2
  have hmm := @run_makeMap Try.prog
  go_enter Try.func42, Try.ntmps42
  go_wp2_with fail
  have BK := Aside0.mk (blk_alloc (blk_new w (.cells #[.slice A0_0 l0_0.length c0_0, .slice A0_1 l0_1.length c0_1] 31)) (.cells #[.int .i64 a1_0, .int .i64 a1_1, .int .i64 a1_2, .bool a1_3] 45))
  have BR := Aside0.mk (blk_new (w.alloc (.cells #[.slice A0_0 l0_0.length c0_0, .slice A0_1 l0_1.length c0_1] 31)) (.cells #[.int .i64 a1_0, .int .i64 a1_1, .int .i64 a1_2, .bool a1_3] 45))
  have HB := Aside0.mk (below_alloc (below_alloc (Below.refl w.heap.size w) (.cells #[.slice A0_0 l0_0.length c0_0, .slice A0_1 l0_1.length c0_1] 31)) (.cells #[.int .i64 a1_0, .int .i64 a1_1, .int .i64 a1_2, .bool a1_3] 45))
  have hs : (w.alloc (.cells #[.slice A0_0 l0_0.length c0_0, .slice A0_1 l0_1.length c0_1] 31)).heap.size = w.heap.size + 1 := by unfold World.alloc; exact Array.size_push _
  rw [hs] at BR
  try rw [hs]
  clear hs
  generalize ((w.alloc (.cells #[.slice A0_0 l0_0.length c0_0, .slice A0_1 l0_1.length c0_1] 31)).alloc (.cells #[.int .i64 a1_0, .int .i64 a1_1, .int .i64 a1_2, .bool a1_3] 45)) = w1 at BK BR HB ⊢
  refine (impl_RuleOk.calls k A0_0 c0_0 l0_0 A0_1 c0_1 l0_1 a1_0 a1_1 a1_2 a1_3 t _ (Kd.C_below HR0.out HB.out) HC0.out (Kd.C_below HR1.out HB.out) HC1.out HT.out).mono ?_
  rintro e w2 ⟨rfl, hb⟩
  replace BK := Aside0.mk (blk_below BK.out hb)
  replace BR := Aside0.mk (blk_below BR.out hb)
  replace HB := Aside0.mk (below_step HB.out hb)
  clear hb
  have h0 := (blk_cell BK.out 0).trans rfl
  have h1 := (blk_cell BK.out 1).trans rfl
  have g1 := (blk_cell BR.out 1).trans rfl
  have g2 := (blk_cell BR.out 2).trans rfl
  cases t with
  | false =>
    have HF := Aside0.mk (show r1 = 0 ∧ r2 = false from by have := H.out; rw [if_neg (by decide)] at this; have := Option.some.inj this; exact ⟨(congrArg Prod.fst this).symm, (congrArg Prod.snd this).symm⟩)
    go_wp2_with fail
    go_ret2
    exact ⟨by rw [HF.out.1, HF.out.2]; rfl, HB.out⟩
  | true =>
  obtain ⟨o, ho, h2⟩ := Option.bind_eq_some_iff.1 (show (impl_outOk.f k l2).bind _ = some (r1, r2) from by have := H.out; rwa [if_pos rfl] at this)
  have HT2 := Aside0.mk ho
  replace H := Aside0.mk h2
  clear ho h2
  go_wp2_with fail
  refine (impl_outOk.calls k A2 c2 l2 o _ (Kd.C_below HR2.out HB.out) HC2.out HT2.out).mono ?_
  rintro e w3 ⟨rfl, hb⟩
  clear h0 h1 g1 g2
  replace BK := Aside0.mk (blk_below BK.out hb)
  replace BR := Aside0.mk (blk_below BR.out hb)
  replace HB := Aside0.mk (below_step HB.out hb)
  clear hb
  have h0 := (blk_cell BK.out 0).trans rfl
  have h1 := (blk_cell BK.out 1).trans rfl
  have g1 := (blk_cell BR.out 1).trans rfl
  have g2 := (blk_cell BR.out 2).trans rfl
  cases o with
  | false =>
    have HF := Aside0.mk (show r1 = 0 ∧ r2 = false from by have := H.out; rw [if_neg (by decide)] at this; have := Option.some.inj this; exact ⟨(congrArg Prod.fst this).symm, (congrArg Prod.snd this).symm⟩)
    go_wp2_with fail
    go_ret2
    exact ⟨by rw [HF.out.1, HF.out.2]; rfl, HB.out⟩
  | true =>
  obtain ⟨n, hn, h2⟩ := Option.bind_eq_some_iff.1 (show (impl_Tree_nodesUnder.f k l0_0 l0_1 a1_1).bind _ = some (r1, r2) from by have := H.out; rwa [if_pos rfl] at this)
  have HU := Aside0.mk hn
  by_cases hsm : n.length ≤ 1048576
  case neg => rw [if_neg hsm] at h2; cases h2
  rw [if_pos hsm] at h2
  obtain ⟨tot, htot, e2⟩ := Option.map_eq_some_iff.1 h2
  injection e2 with e2 e3
  subst e2 e3
  replace H := Aside0.mk (show placeGo (fun x => impl_Tree_domain.f k l0_0 l0_1 a1_2 x) (fun x => slices_Contains_int64_int64.f k l2 x) (fun x => impl_Tree_weight.f k l0_0 l0_1 x) [] (n.drop (0 : Int).toNat) = some tot from htot)
  clear hn h2 htot
  have HLT := Aside0.mk (blk_lt BR.out)
  have h0a := fun o => (blk_cell (blk_alloc BK.out o) 0).trans rfl
  have h1a := fun o => (blk_cell (blk_alloc BK.out o) 1).trans rfl
  have g1a := fun o => (blk_cell (blk_alloc BR.out o) 1).trans rfl
  have g2a := fun o => (blk_cell (blk_alloc BR.out o) 2).trans rfl
  go_wp2_with fail
  have HS := Aside0.mk (OwnSet.made w3)
  have HMB := Aside0.mk (show w.heap.size ≤ w3.heap.size from HB.out.size)
  have HNE := Aside0.mk (show ¬ w.heap.size = w3.heap.size ∧ ¬ w.heap.size + 1 = w3.heap.size from by have := HLT.out; omega)
  replace BK := Aside0.mk (blk_alloc BK.out (.map #[] 0))
  replace BR := Aside0.mk (blk_alloc BR.out (.map #[] 0))
  replace HB := Aside0.mk (below_alloc HB.out (.map #[] 0))
  generalize (w3.alloc (.map #[] 0)) = w4 at HS BK BR HB ⊢
  generalize w3.heap.size = mb at HS HMB HNE ⊢
  clear h0 h1 g1 g2 HLT h0a h1a g1a g2a
  have hMB := OwnSet.lt HS.out
  refine (impl_Tree_nodesUnder.calls k A0_0 c0_0 l0_0 A0_1 c0_1 l0_1 a1_1 n _ (Kd.C_below HR0.out HB.out) HC0.out (Kd.C_below HR1.out HB.out) HC1.out HU.out).mono ?_
  rintro e w5 ⟨vn, rfl, hn, hb⟩
  replace BK := Aside0.mk (blk_below BK.out hb)
  replace BR := Aside0.mk (blk_below BR.out hb)
  replace HB := Aside0.mk (below_step HB.out hb)
  replace HS := Aside0.mk (OwnSet.below HS.out hb)
  obtain ⟨An, cn, rfl⟩ := Kd.R_slice hn
  have HN := Aside0.mk (Kd.R_mono (Kd.R_bound hn) (ok' := fun k => mb < k) (fun k hk => Nat.lt_of_lt_of_le hMB hk.2.1))
  clear hb hn hMB HU
  obtain ⟨gt, hgt⟩ : ∃ g, g = w.heap.size := ⟨_, rfl⟩
  rw [← hgt] at BK BR HNE ⊢
  clear hgt
  go_wp2_with fail
  generalize w4.heap.size = b4 at HN
  go_loopg [28] n.length (fun gg s28 wr => ∃ (kk : Int) (S : List Int), 0 ≤ kk ∧ kk ≤ n.length ∧ (n.length : Int) - kk ≤ gg ∧ s28 = .int .i64 kk ∧ (S.length : Int) ≤ kk ∧ Aside0 (Below w.heap.size w wr) ∧ Aside0 (OwnSet wr mb S.length S) ∧ Aside0 (wr.heap[gt]? = some (.cells #[.slice A0_0 l0_0.length c0_0, .slice A0_1 l0_1.length c0_1] 31 (0, 0))) ∧ Aside0 (wr.heap[gt + 1]? = some (.cells #[.int .i64 a1_0, .int .i64 a1_1, .int .i64 a1_2, .bool a1_3] 45 (0, 0))) ∧ Aside0 ((Kd.int .i64).R 2 wr b4 (fun k => mb < k) (.slice An n.length cn) n) ∧ Aside0 (placeGo (fun x => impl_Tree_domain.f k l0_0 l0_1 a1_2 x) (fun x => slices_Contains_int64_int64.f k l2 x) (fun x => impl_Tree_weight.f k l0_0 l0_1 x) S (n.drop kk.toNat) = some tot))
  case atStart => exact ⟨0, [], by omega, by omega, by omega, rfl, by simp, HB, HS, BK, BR, HN, H⟩
  case round =>
    clear HB HS BK BR HN H
    obtain ⟨kk, S, h0, hk, hg, rfl, hS, HB, HS, BK, BR, HN, H⟩ := hrel
    have ht0 := (blk_cell BK.out 0).trans rfl
    have ht1 := (blk_cell BK.out 1).trans rfl
    have hr2 := (blk_cell BR.out 2).trans rfl
    by_cases hlt : kk < (n.length : Int)
    case neg =>
      obtain rfl : kk = n.length := by omega
      have HF := Aside0.mk (show S = tot from by have := H.out; rw [Int.toNat_natCast, List.drop_length] at this; exact Option.some.inj this)
      have hlen := fun ty => OwnSet.len HS.out ty
      clear H
      go_wp2_with fail
      go_ret2
      exact ⟨by rw [← HF.out]; rfl, HB.out⟩
    obtain ⟨ad, rfl, hx0⟩ := Kd.at_int (Kd.R_reads' HN.out).2.2 kk h0 hlt
    have q0 := eq_true h0
    have q1 := eq_true hlt
    have HP := Aside0.mk (by have := placeGo_here (fun x => impl_Tree_domain.f k l0_0 l0_1 a1_2 x) (fun x => slices_Contains_int64_int64.f k l2 x) (fun x => impl_Tree_weight.f k l0_0 l0_1 x) S n kk h0 hlt; rw [H.out] at this; exact this.symm)
    clear H
    generalize rd n kk = x at hx0 HP
    obtain ⟨⟨d1, d2⟩, hdm, hp⟩ := Option.bind_eq_some_iff.1 HP.out
    have HD := Aside0.mk hdm
    replace HP := Aside0.mk hp
    clear hdm hp
    go_wp2_with fail
    refine (impl_Tree_domain.calls k A0_0 c0_0 l0_0 A0_1 c0_1 l0_1 a1_2 x d1 d2 _ (Kd.C_below HR0.out HB.out) HC0.out (Kd.C_below HR1.out HB.out) HC1.out HD.out).mono ?_
    rintro e w6 ⟨rfl, hb⟩
    clear ht0 ht1 hr2 hx0
    replace BK := Aside0.mk (blk_below BK.out hb)
    replace BR := Aside0.mk (blk_below BR.out hb)
    replace HB := Aside0.mk (below_step HB.out hb)
    replace HS := Aside0.mk (OwnSet.below HS.out hb)
    replace HN := Aside0.mk (Kd.R_below HN.out hb)
    have ht0 := (blk_cell BK.out 0).trans rfl
    have ht1 := (blk_cell BK.out 1).trans rfl
    have hr2 := (blk_cell BR.out 2).trans rfl
    clear hb
    cases d2 with
    | false =>
      replace HP := Aside0.mk (show placeGo (fun x => impl_Tree_domain.f k l0_0 l0_1 a1_2 x) (fun x => slices_Contains_int64_int64.f k l2 x) (fun x => impl_Tree_weight.f k l0_0 l0_1 x) S (n.drop (kk + 1).toNat) = some tot from by have := HP.out; rwa [if_neg (by decide)] at this)
      go_wp2_with fail
      go_roundg (gk - 1)
      case measure => omega
      case rel => exact ⟨kk + 1, S, by omega, by omega, by omega, by go_num, by omega, HB, HS, BK, BR, HN, HP⟩
    | true =>
    obtain ⟨c, hc, hp⟩ := Option.bind_eq_some_iff.1 (show (slices_Contains_int64_int64.f k l2 x).bind _ = some tot from by have := HP.out; rwa [if_pos rfl] at this)
    have HCc := Aside0.mk hc
    replace HP := Aside0.mk hp
    clear hc hp
    go_wp2_with fail
    refine (slices_Contains_int64_int64.calls k A2 c2 l2 x c _ (Kd.C_below HR2.out HB.out) HC2.out HCc.out).mono ?_
    rintro e w7 ⟨rfl, hd⟩
    have hb := hd.below
    clear ht0 ht1 hr2 hd
    replace BK := Aside0.mk (blk_below BK.out hb)
    replace BR := Aside0.mk (blk_below BR.out hb)
    replace HB := Aside0.mk (below_step HB.out hb)
    replace HS := Aside0.mk (OwnSet.below HS.out hb)
    replace HN := Aside0.mk (Kd.R_below HN.out hb)
    have ht0 := (blk_cell BK.out 0).trans rfl
    have ht1 := (blk_cell BK.out 1).trans rfl
    have hr2 := (blk_cell BR.out 2).trans rfl
    clear hb
    cases c with
    | true =>
      replace HP := Aside0.mk (show placeGo (fun x => impl_Tree_domain.f k l0_0 l0_1 a1_2 x) (fun x => slices_Contains_int64_int64.f k l2 x) (fun x => impl_Tree_weight.f k l0_0 l0_1 x) S (n.drop (kk + 1).toNat) = some tot from by have := HP.out; rwa [if_pos rfl] at this)
      go_wp2_with fail
      go_roundg (gk - 1)
      case measure => omega
      case rel => exact ⟨kk + 1, S, by omega, by omega, by omega, by go_num, by omega, HB, HS, BK, BR, HN, HP⟩
    | false =>
    obtain ⟨tw, hw, hp⟩ := Option.bind_eq_some_iff.1 (show (impl_Tree_weight.f k l0_0 l0_1 x).bind _ = some tot from by have := HP.out; rwa [if_neg (by decide)] at this)
    have HW := Aside0.mk hw
    replace HP := Aside0.mk hp
    clear hw hp
    go_wp2_with fail
    refine (impl_Tree_weight.calls k A0_0 c0_0 l0_0 A0_1 c0_1 l0_1 x tw _ (Kd.C_below HR0.out HB.out) HC0.out (Kd.C_below HR1.out HB.out) HC1.out HW.out).mono ?_
    rintro e w8 ⟨rfl, hb⟩
    clear ht0 ht1 hr2
    replace BK := Aside0.mk (blk_below BK.out hb)
    replace BR := Aside0.mk (blk_below BR.out hb)
    replace HB := Aside0.mk (below_step HB.out hb)
    replace HS := Aside0.mk (OwnSet.below HS.out hb)
    replace HN := Aside0.mk (Kd.R_below HN.out hb)
    have ht0 := (blk_cell BK.out 0).trans rfl
    have ht1 := (blk_cell BK.out 1).trans rfl
    have hr2 := (blk_cell BR.out 2).trans rfl
    clear hb
    by_cases ct : tw > 0
    case neg =>
      have cb := decide_eq_false ct
      replace HP := Aside0.mk (show placeGo (fun x => impl_Tree_domain.f k l0_0 l0_1 a1_2 x) (fun x => slices_Contains_int64_int64.f k l2 x) (fun x => impl_Tree_weight.f k l0_0 l0_1 x) S (n.drop (kk + 1).toNat) = some tot from by have := HP.out; rwa [if_neg ct] at this)
      clear ct
      go_wp2_with fail
      go_roundg (gk - 1)
      case measure => omega
      case rel => exact ⟨kk + 1, S, by omega, by omega, by omega, by go_num, by omega, HB, HS, BK, BR, HN, HP⟩
    have cb := decide_eq_true ct
    replace HP := Aside0.mk (by have := HP.out; rwa [if_pos ct] at this)
    clear ct
    by_cases hw : wfI d1 = true
    case neg => exact absurd HP.out (by rw [if_neg hw]; simp)
    replace HP := Aside0.mk (show placeGo (fun x => impl_Tree_domain.f k l0_0 l0_1 a1_2 x) (fun x => slices_Contains_int64_int64.f k l2 x) (fun x => impl_Tree_weight.f k l0_0 l0_1 x) (S ++ [d1]) (n.drop (kk + 1).toNat) = some tot from by have := HP.out; rwa [if_pos hw] at this)
    have HW2 := Aside0.mk hw
    clear hw
    have HSM := Aside0.mk (show n.length ≤ 1048576 from hsm)
    have HSN := Aside0.mk (show S.length < 9223372036854775807 from by omega)
    go_wp2_with (at_mapUpdate; refine OwnSet.put rfl rfl _ _ _ rfl _ _ _ rfl HS.out HSN.out _ rfl rfl HW2.out ?_; intro w9 hs9 hg9; have HS9 := Aside0.mk hs9; have HG9 := Aside0.mk hg9; clear hs9 hg9)
    go_roundg (gk - 1)
    case measure => omega
    case rel =>
      exact ⟨kk + 1, S ++ [d1], by omega, by omega, by omega, by go_num, by rw [List.length_append]; simp; omega, ⟨pw_below_grown HB.out (some mb) HB.out.size HG9.out (by intro k hk; cases hk; exact HMB.out)⟩,
        ⟨by have := HS9.out; rw [List.length_append]; exact this⟩, ⟨(HG9.out.block _ (blk_lt BK.out) (by simp; exact HNE.out.1)).trans BK.out⟩, ⟨(HG9.out.block _ (blk_lt BR.out) (by simp; exact HNE.out.2)).trans BR.out⟩, ⟨Kd.R_step HN.out (fun k_ ho hlt => HG9.out.block k_ hlt (fun he => by injection he with he; omega))⟩, HP⟩

end Go.Proofs.Ytkadeelplnkpgaa.Q

-- text Qf10
namespace Go.Proofs.Ytkadeelplnkpgaa.Q
open Go.RowKit Go.Proofs.YtkadeelplnkpgaaW.PrintWords Go.Proofs.YtkadeelplnkpgaaW.PrintLast Go.Proofs.YtkadeelplnkpgaaW.PrintMore
attribute [local go_sem] max2_int min2_int max_two min_two max_three min_three max_four min_four   -- for this text's walks alone
set_option linter.unusedVariables false
set_option linter.unusedSimpArgs false

/-! ### laws_FnExactCanPlace: function 10 -/
def laws_FnExactCanPlace.f (k : Nat) (l0_0 : List S110) (l0_1 : List S106) (a1_0 a1_1 a1_2 : Int) (a1_3 : Bool) (l2 : List Int) : Option Bool :=
  if (l2.length : Int) > 1048576 then some true else (laws_szTree.f k l0_0 l0_1 1048576).bind fun t => if t < 0 then some true else (laws_toTree.f k l0_0 l0_1).bind fun b => (laws_toInt64S.f k l2).bind fun o => (spec_CanPlace.f k b.1 b.2 a1_0 a1_1 a1_2 a1_3 o).bind fun s => (impl_CanPlace.f k b.1 b.2 a1_0 a1_1 a1_2 a1_3 o).bind fun v => (laws_eqTree.f k b.1 b.2 b.1 b.2).bind fun qt => (laws_eqInt64S.f k o o).bind fun q => if v.1 = s.1 ∧ v.2 = s.2 ∧ qt = true ∧ q = true then some true else none
set_option maxHeartbeats 8000000 in
set_option maxRecDepth 100000 in
theorem laws_FnExactCanPlace.calls (k : Nat) (A0_0 : Option Addr) (c0_0 : Nat) (l0_0 : List S110) (A0_1 : Option Addr) (c0_1 : Nat) (l0_1 : List S106) (a1_0 a1_1 a1_2 : Int) (a1_3 : Bool) (A2 : Option Addr) (c2 : Nat) (l2 : List Int) (r : Bool) (w : World) (hr0_0 : Kd.C k110 w A0_0 l0_0.length l0_0) (hc0_0 : l0_0.length ≤ c0_0) (hr0_1 : Kd.C k106 w A0_1 l0_1.length l0_1) (hc0_1 : l0_1.length ≤ c0_1) (hr2 : Kd.C (Kd.int .i64) w A2 l2.length l2) (hc2 : l2.length ≤ c2) (h : laws_FnExactCanPlace.f k l0_0 l0_1 a1_0 a1_1 a1_2 a1_3 l2 = some r) :
    Calls Try.prog 10 #[.agg #[.slice A0_0 l0_0.length c0_0, .slice A0_1 l0_1.length c0_1], .agg #[.int .i64 a1_0, .int .i64 a1_1, .int .i64 a1_2, .bool a1_3], .slice A2 l2.length c2] w fun e w' => e = .returned (.bool r) ∧ Below w.heap.size w w' := by
  have HA0 := Aside0.mk hr0_0
  have HA1 := Aside0.mk hr0_1
  have HC0 := Aside0.mk hc0_0
  have HC1 := Aside0.mk hc0_1
  have HL := Aside0.mk hr2
  have HD := Aside0.mk hc2
  clear hr0_0 hr0_1 hc0_0 hc0_1 hr2 hc2
  unfold laws_FnExactCanPlace.f at h
  by_cases cl : (l2.length : Int) > 1048576
  case pos =>
    rw [if_pos cl] at h
    obtain rfl := Option.some.inj h
    have cb := decide_eq_true (show 1048576 < (l2.length : Int) by omega)
    have cn := decide_eq_true (show 1048576 < l2.length by omega)
    clear cl h
    go_enter Try.func10, Try.ntmps10
    go_wp2_with fail
    go_ret
    exact ⟨rfl, below_alloc (below_alloc (Below.refl _ _) _) _⟩
  rw [if_neg cl] at h
  have cb := decide_eq_false (show ¬ 1048576 < (l2.length : Int) by omega)
  have cn := decide_eq_false (show ¬ 1048576 < l2.length by omega)
  clear cl
  obtain ⟨t1, E1, h⟩ := Option.bind_eq_some_iff.1 h
  replace E1 := Aside0.mk E1
  have H := Aside0.mk h
  clear h
  go_enter Try.func10, Try.ntmps10
  go_wp2_with fail
  clear cb cn
  have BA := Aside0.mk (blk_alloc (blk_new w (.cells #[.slice A0_0 l0_0.length c0_0, .slice A0_1 l0_1.length c0_1] 25)) (.cells #[.int .i64 a1_0, .int .i64 a1_1, .int .i64 a1_2, .bool a1_3] 63))
  have BR := Aside0.mk (blk_new (w.alloc (.cells #[.slice A0_0 l0_0.length c0_0, .slice A0_1 l0_1.length c0_1] 25)) (.cells #[.int .i64 a1_0, .int .i64 a1_1, .int .i64 a1_2, .bool a1_3] 63))
  have HB := Aside0.mk (below_alloc (below_alloc (Below.refl w.heap.size w) (.cells #[.slice A0_0 l0_0.length c0_0, .slice A0_1 l0_1.length c0_1] 25)) (.cells #[.int .i64 a1_0, .int .i64 a1_1, .int .i64 a1_2, .bool a1_3] 63))
  have hs : (w.alloc (.cells #[.slice A0_0 l0_0.length c0_0, .slice A0_1 l0_1.length c0_1] 25)).heap.size = w.heap.size + 1 := by unfold World.alloc; exact Array.size_push _
  rw [hs] at BR
  try rw [hs]
  clear hs
  generalize ((w.alloc (.cells #[.slice A0_0 l0_0.length c0_0, .slice A0_1 l0_1.length c0_1] 25)).alloc (.cells #[.int .i64 a1_0, .int .i64 a1_1, .int .i64 a1_2, .bool a1_3] 63)) = w1 at BA BR HB ⊢
  generalize w.heap.size + 1 = gr at BR ⊢
  (with_reducible refine (laws_szTree.calls k A0_0 c0_0 l0_0 A0_1 c0_1 l0_1 1048576 t1 _ (Kd.C_below HA0.out HB.out) HC0.out (Kd.C_below HA1.out HB.out) HC1.out E1.out).mono ?_)
  rintro e w2 ⟨rfl, hb⟩
  replace BA := Aside0.mk (blk_below BA.out hb)
  replace BR := Aside0.mk (blk_below BR.out hb)
  replace HB := Aside0.mk (below_step HB.out hb)
  clear hb
  have hBA0 := (blk_cell BA.out 0).trans rfl
  have hBA1 := (blk_cell BA.out 1).trans rfl
  have hBR0 := (blk_cell BR.out 0).trans rfl
  have hBR1 := (blk_cell BR.out 1).trans rfl
  have hBR2 := (blk_cell BR.out 2).trans rfl
  have hBR3 := (blk_cell BR.out 3).trans rfl
  by_cases d1 : t1 < 0
  case pos =>
    have HF := Aside0.mk (show r = true from by have := H.out; rw [if_pos d1] at this; exact (Option.some.inj this).symm)
    have db := decide_eq_true d1
    clear d1
    go_wp2_with fail
    go_ret
    exact ⟨by rw [HF.out]; rfl, HB.out⟩
  have h := H.out
  rw [if_neg d1] at h
  clear H
  obtain ⟨⟨D, B⟩, E2, h⟩ := Option.bind_eq_some_iff.1 h
  obtain ⟨o, E3, h⟩ := Option.bind_eq_some_iff.1 h
  obtain ⟨⟨s, s2⟩, E4, h⟩ := Option.bind_eq_some_iff.1 h
  obtain ⟨⟨v, v2⟩, E5, h⟩ := Option.bind_eq_some_iff.1 h
  obtain ⟨qt, E6, h⟩ := Option.bind_eq_some_iff.1 h
  obtain ⟨q, E7, h⟩ := Option.bind_eq_some_iff.1 h
  by_cases hg : (v, v2).1 = (s, s2).1 ∧ (v, v2).2 = (s, s2).2 ∧ qt = true ∧ q = true
  case neg => rw [if_neg hg] at h; cases h
  rw [if_pos hg] at h
  obtain rfl := Option.some.inj h
  clear h
  simp only at hg
  obtain ⟨rfl, rfl, rfl, rfl⟩ := hg
  replace E2 := Aside0.mk E2
  replace E3 := Aside0.mk E3
  replace E4 := Aside0.mk E4
  replace E5 := Aside0.mk E5
  replace E6 := Aside0.mk E6
  replace E7 := Aside0.mk E7
  have db1 := decide_eq_false d1
  clear d1
  go_wp2_with fail
  clear db1
  have HT := Aside0.mk (fun W (hW : Below w.heap.size w W) => toTreeC.calls k A0_0 c0_0 l0_0 A0_1 c0_1 l0_1 D B W (Kd.C_below HA0.out hW) HC0.out (Kd.C_below HA1.out hW) HC1.out E2.out)
  have HI := Aside0.mk (fun W (hW : Below w.heap.size w W) => toIntsC.calls k A2 c2 l2 o W (Kd.C_below HL.out hW) HD.out E3.out)
  have HK := Aside0.mk (show ∀ w', Below w2.heap.size w2 w' → (fun w' => w'.cell? ⟨w.heap.size, 0, none⟩ = some (.slice A0_0 l0_0.length c0_0) ∧ w'.cell? ⟨w.heap.size, 1, none⟩ = some (.slice A0_1 l0_1.length c0_1) ∧ w'.cell? ⟨gr, 0, none⟩ = some (.int .i64 a1_0) ∧ w'.cell? ⟨gr, 1, none⟩ = some (.int .i64 a1_1) ∧ w'.cell? ⟨gr, 2, none⟩ = some (.int .i64 a1_2) ∧ w'.cell? ⟨gr, 3, none⟩ = some (.bool a1_3) ∧ Below w2.heap.size w2 w') w' from fun w' h => ⟨(h.cell (blk_lt BA.out)).trans hBA0, (h.cell (blk_lt BA.out)).trans hBA1, (h.cell (blk_lt BR.out)).trans hBR0, (h.cell (blk_lt BR.out)).trans hBR1, (h.cell (blk_lt BR.out)).trans hBR2, (h.cell (blk_lt BR.out)).trans hBR3, h⟩)
  go_region_held3 (fun w' => w'.cell? ⟨w.heap.size, 0, none⟩ = some (.slice A0_0 l0_0.length c0_0) ∧ w'.cell? ⟨w.heap.size, 1, none⟩ = some (.slice A0_1 l0_1.length c0_1) ∧ w'.cell? ⟨gr, 0, none⟩ = some (.int .i64 a1_0) ∧ w'.cell? ⟨gr, 1, none⟩ = some (.int .i64 a1_1) ∧ w'.cell? ⟨gr, 2, none⟩ = some (.int .i64 a1_2) ∧ w'.cell? ⟨gr, 3, none⟩ = some (.bool a1_3) ∧ Below w2.heap.size w2 w') (first | exact HK.out _ hbb | exact HK.out _ (below_drew1 (Below.refl _ _)) | exact HK.out _ (Below.refl _ _)) (first | (go_at_call 15; go_split_ands; (with_reducible refine (HT.out _ (below_step HB.out (show Below w2.heap.size w2 _ by assumption))).mono ?_); rintro e wp ⟨P0, p0, P1, p1, rfl, TP, hb⟩; have hbb : Below w2.heap.size w2 _ := below_step (by assumption) hb) | (go_at_call 41; go_split_ands; (with_reducible refine (laws_toRule.calls a1_0 a1_1 a1_2 a1_3 a1_0 a1_1 a1_2 a1_3 _ rfl).mono ?_); rintro e wr ⟨rfl, hb⟩; have hbb : Below w2.heap.size w2 _ := below_step (by assumption) hb; replace TP := TP.below hb) | (go_at_call 19; go_split_ands; (with_reducible refine (HI.out _ (below_step HB.out (show Below w2.heap.size w2 _ by assumption))).mono ?_); rintro e wi ⟨Q0, q0, rfl, TQ, hb⟩; have hbb : Below w2.heap.size w2 _ := below_step (by assumption) hb; replace TP := TP.below hb) | (go_at_call 40; go_split_ands; (with_reducible refine (spec_CanPlace.calls k P0 p0 D P1 p1 B a1_0 a1_1 a1_2 a1_3 Q0 q0 o v v2 _ TP.d TP.hd TP.b TP.hb TQ.r TQ.h E4.out).mono ?_); rintro e ws ⟨rfl, hb⟩; have hbb : Below w2.heap.size w2 _ := below_step (by assumption) hb))
  have hb := hbb
  clear hBA0 hBA1 hBR0 hBR1 hBR2 hBR3
  replace BA := Aside0.mk (blk_below BA.out hb)
  replace BR := Aside0.mk (blk_below BR.out hb)
  replace HB := Aside0.mk (below_step HB.out hb)
  clear hb HK
  clear TP TQ
  have hBA0 := (blk_cell BA.out 0).trans rfl
  have hBA1 := (blk_cell BA.out 1).trans rfl
  have hBR0 := (blk_cell BR.out 0).trans rfl
  have hBR1 := (blk_cell BR.out 1).trans rfl
  have hBR2 := (blk_cell BR.out 2).trans rfl
  have hBR3 := (blk_cell BR.out 3).trans rfl
  go_wp2_with fail
  (with_reducible refine (HT.out _ HB.out).mono ?_)
  rintro e w7 ⟨X0, x0, X1, x1, rfl, TX, hb⟩
  clear hBA0 hBA1 hBR0 hBR1 hBR2 hBR3
  replace BA := Aside0.mk (blk_below BA.out hb)
  replace BR := Aside0.mk (blk_below BR.out hb)
  replace HB := Aside0.mk (below_step HB.out hb)
  clear hb
  have hBA0a := fun o => (blk_cell (blk_alloc BA.out o) 0).trans rfl
  have hBA1a := fun o => (blk_cell (blk_alloc BA.out o) 1).trans rfl
  have hBR0a := fun o => (blk_cell (blk_alloc BR.out o) 0).trans rfl
  have hBR1a := fun o => (blk_cell (blk_alloc BR.out o) 1).trans rfl
  have hBR2a := fun o => (blk_cell (blk_alloc BR.out o) 2).trans rfl
  have hBR3a := fun o => (blk_cell (blk_alloc BR.out o) 3).trans rfl
  have hBA0 := (blk_cell BA.out 0).trans rfl
  have hBA1 := (blk_cell BA.out 1).trans rfl
  have hBR0 := (blk_cell BR.out 0).trans rfl
  have hBR1 := (blk_cell BR.out 1).trans rfl
  have hBR2 := (blk_cell BR.out 2).trans rfl
  have hBR3 := (blk_cell BR.out 3).trans rfl
  replace TX := Aside0.mk TX
  go_wp2_with fail
  have hb := below_alloc (Below.refl w7.heap.size w7) (.cells #[.slice X0 D.length x0, .slice X1 B.length x1] 31)
  have BX := Aside0.mk (blk_new w7 (.cells #[.slice X0 D.length x0, .slice X1 B.length x1] 31))
  clear hBA0 hBA1 hBR0 hBR1 hBR2 hBR3
  clear hBA0a hBA1a hBR0a hBR1a hBR2a hBR3a
  replace BA := Aside0.mk (blk_below BA.out hb)
  replace BR := Aside0.mk (blk_below BR.out hb)
  replace HB := Aside0.mk (below_step HB.out hb)
  replace TX := Aside0.mk (TX.out.below hb)
  clear hb
  generalize (w7.alloc (.cells #[.slice X0 D.length x0, .slice X1 B.length x1] 31)) = wx at BA BR HB TX BX ⊢
  generalize w7.heap.size = gx at BX ⊢
  have hBA0 := (blk_cell BA.out 0).trans rfl
  have hBA1 := (blk_cell BA.out 1).trans rfl
  have hBR0 := (blk_cell BR.out 0).trans rfl
  have hBR1 := (blk_cell BR.out 1).trans rfl
  have hBR2 := (blk_cell BR.out 2).trans rfl
  have hBR3 := (blk_cell BR.out 3).trans rfl
  have hBX0 := (blk_cell BX.out 0).trans rfl
  have hBX1 := (blk_cell BX.out 1).trans rfl
  (with_reducible refine (HI.out _ HB.out).mono ?_)
  rintro e w8 ⟨Y0, y0, rfl, TY, hb⟩
  clear hBA0 hBA1 hBR0 hBR1 hBR2 hBR3 hBX0 hBX1
  replace BA := Aside0.mk (blk_below BA.out hb)
  replace BR := Aside0.mk (blk_below BR.out hb)
  replace HB := Aside0.mk (below_step HB.out hb)
  replace TX := Aside0.mk (TX.out.below hb)
  replace BX := Aside0.mk (blk_below BX.out hb)
  clear hb
  have hBA0 := (blk_cell BA.out 0).trans rfl
  have hBA1 := (blk_cell BA.out 1).trans rfl
  have hBR0 := (blk_cell BR.out 0).trans rfl
  have hBR1 := (blk_cell BR.out 1).trans rfl
  have hBR2 := (blk_cell BR.out 2).trans rfl
  have hBR3 := (blk_cell BR.out 3).trans rfl
  have hBX0 := (blk_cell BX.out 0).trans rfl
  have hBX1 := (blk_cell BX.out 1).trans rfl
  replace TY := Aside0.mk TY
  go_wp2_with fail
  have HK := Aside0.mk (show ∀ w', Below w8.heap.size w8 w' → (fun w' => w'.cell? ⟨w.heap.size, 0, none⟩ = some (.slice A0_0 l0_0.length c0_0) ∧ w'.cell? ⟨w.heap.size, 1, none⟩ = some (.slice A0_1 l0_1.length c0_1) ∧ w'.cell? ⟨gr, 0, none⟩ = some (.int .i64 a1_0) ∧ w'.cell? ⟨gr, 1, none⟩ = some (.int .i64 a1_1) ∧ w'.cell? ⟨gr, 2, none⟩ = some (.int .i64 a1_2) ∧ w'.cell? ⟨gr, 3, none⟩ = some (.bool a1_3) ∧ w'.cell? ⟨gx, 0, none⟩ = some (.slice X0 D.length x0) ∧ w'.cell? ⟨gx, 1, none⟩ = some (.slice X1 B.length x1) ∧ Below w8.heap.size w8 w') w' from fun w' h => ⟨(h.cell (blk_lt BA.out)).trans hBA0, (h.cell (blk_lt BA.out)).trans hBA1, (h.cell (blk_lt BR.out)).trans hBR0, (h.cell (blk_lt BR.out)).trans hBR1, (h.cell (blk_lt BR.out)).trans hBR2, (h.cell (blk_lt BR.out)).trans hBR3, (h.cell (blk_lt BX.out)).trans hBX0, (h.cell (blk_lt BX.out)).trans hBX1, h⟩)
  go_region_held3 (fun w' => w'.cell? ⟨w.heap.size, 0, none⟩ = some (.slice A0_0 l0_0.length c0_0) ∧ w'.cell? ⟨w.heap.size, 1, none⟩ = some (.slice A0_1 l0_1.length c0_1) ∧ w'.cell? ⟨gr, 0, none⟩ = some (.int .i64 a1_0) ∧ w'.cell? ⟨gr, 1, none⟩ = some (.int .i64 a1_1) ∧ w'.cell? ⟨gr, 2, none⟩ = some (.int .i64 a1_2) ∧ w'.cell? ⟨gr, 3, none⟩ = some (.bool a1_3) ∧ w'.cell? ⟨gx, 0, none⟩ = some (.slice X0 D.length x0) ∧ w'.cell? ⟨gx, 1, none⟩ = some (.slice X1 B.length x1) ∧ Below w8.heap.size w8 w') (first | exact HK.out _ hbb | exact HK.out _ (below_drew1 (Below.refl _ _)) | exact HK.out _ (Below.refl _ _)) (first | (go_at_call 41; go_split_ands; (with_reducible refine (laws_toRule.calls a1_0 a1_1 a1_2 a1_3 a1_0 a1_1 a1_2 a1_3 _ rfl).mono ?_); rintro e wz ⟨rfl, hb⟩; have hbb : Below w8.heap.size w8 _ := below_step (by assumption) hb) | (go_at_call 42; go_split_ands; (with_reducible refine (impl_CanPlace.calls k X0 x0 D X1 x1 B a1_0 a1_1 a1_2 a1_3 Y0 y0 o v v2 _ (TX.out.below (show Below w8.heap.size w8 _ by assumption)).d TX.out.hd (TX.out.below (show Below w8.heap.size w8 _ by assumption)).b TX.out.hb (TY.out.below (show Below w8.heap.size w8 _ by assumption)).r TY.out.h E5.out).mono ?_); rintro e wy ⟨rfl, hb⟩; have hbb : Below w8.heap.size w8 _ := below_step (by assumption) hb))
  have hb := hbb
  clear hBA0 hBA1 hBR0 hBR1 hBR2 hBR3 hBX0 hBX1
  replace BA := Aside0.mk (blk_below BA.out hb)
  replace BR := Aside0.mk (blk_below BR.out hb)
  replace HB := Aside0.mk (below_step HB.out hb)
  replace TX := Aside0.mk (TX.out.below hb)
  replace BX := Aside0.mk (blk_below BX.out hb)
  replace TY := Aside0.mk (TY.out.below hb)
  clear hb HK
  have hBA0 := (blk_cell BA.out 0).trans rfl
  have hBA1 := (blk_cell BA.out 1).trans rfl
  have hBR0 := (blk_cell BR.out 0).trans rfl
  have hBR1 := (blk_cell BR.out 1).trans rfl
  have hBR2 := (blk_cell BR.out 2).trans rfl
  have hBR3 := (blk_cell BR.out 3).trans rfl
  have hBX0 := (blk_cell BX.out 0).trans rfl
  have hBX1 := (blk_cell BX.out 1).trans rfl
  go_wp2_with fail
  have HK := Aside0.mk (show ∀ w', Below wy.heap.size wy w' → (fun w' => w'.cell? ⟨w.heap.size, 0, none⟩ = some (.slice A0_0 l0_0.length c0_0) ∧ w'.cell? ⟨w.heap.size, 1, none⟩ = some (.slice A0_1 l0_1.length c0_1) ∧ w'.cell? ⟨gr, 0, none⟩ = some (.int .i64 a1_0) ∧ w'.cell? ⟨gr, 1, none⟩ = some (.int .i64 a1_1) ∧ w'.cell? ⟨gr, 2, none⟩ = some (.int .i64 a1_2) ∧ w'.cell? ⟨gr, 3, none⟩ = some (.bool a1_3) ∧ w'.cell? ⟨gx, 0, none⟩ = some (.slice X0 D.length x0) ∧ w'.cell? ⟨gx, 1, none⟩ = some (.slice X1 B.length x1) ∧ Below wy.heap.size wy w') w' from fun w' h => ⟨(h.cell (blk_lt BA.out)).trans hBA0, (h.cell (blk_lt BA.out)).trans hBA1, (h.cell (blk_lt BR.out)).trans hBR0, (h.cell (blk_lt BR.out)).trans hBR1, (h.cell (blk_lt BR.out)).trans hBR2, (h.cell (blk_lt BR.out)).trans hBR3, (h.cell (blk_lt BX.out)).trans hBX0, (h.cell (blk_lt BX.out)).trans hBX1, h⟩)
  go_region_held3 (fun w' => w'.cell? ⟨w.heap.size, 0, none⟩ = some (.slice A0_0 l0_0.length c0_0) ∧ w'.cell? ⟨w.heap.size, 1, none⟩ = some (.slice A0_1 l0_1.length c0_1) ∧ w'.cell? ⟨gr, 0, none⟩ = some (.int .i64 a1_0) ∧ w'.cell? ⟨gr, 1, none⟩ = some (.int .i64 a1_1) ∧ w'.cell? ⟨gr, 2, none⟩ = some (.int .i64 a1_2) ∧ w'.cell? ⟨gr, 3, none⟩ = some (.bool a1_3) ∧ w'.cell? ⟨gx, 0, none⟩ = some (.slice X0 D.length x0) ∧ w'.cell? ⟨gx, 1, none⟩ = some (.slice X1 B.length x1) ∧ Below wy.heap.size wy w') (first | exact HK.out _ hbb | exact HK.out _ (below_drew1 (Below.refl _ _)) | exact HK.out _ (Below.refl _ _)) (first | (go_at_call 15; go_split_ands; (with_reducible refine (HT.out _ (below_step HB.out (show Below wy.heap.size wy _ by assumption))).mono ?_); rintro e wz2 ⟨Z0, z0, Z1, z1, rfl, TZ, hb⟩; have hbb : Below wy.heap.size wy _ := below_step (by assumption) hb) | (go_at_call 17; go_split_ands; (with_reducible refine (laws_eqTree.calls k X0 x0 D X1 x1 B Z0 z0 D Z1 z1 B true _ (TX.out.below (show Below wy.heap.size wy _ by assumption)).d TX.out.hd (TX.out.below (show Below wy.heap.size wy _ by assumption)).b TX.out.hb TZ.d TZ.hd TZ.b TZ.hb E6.out).mono ?_); rintro e wy2 ⟨rfl, hb⟩; have hbb : Below wy.heap.size wy _ := below_step (by assumption) hb))
  have hb := hbb
  clear hBA0 hBA1 hBR0 hBR1 hBR2 hBR3 hBX0 hBX1
  replace BA := Aside0.mk (blk_below BA.out hb)
  replace BR := Aside0.mk (blk_below BR.out hb)
  replace HB := Aside0.mk (below_step HB.out hb)
  replace TX := Aside0.mk (TX.out.below hb)
  replace BX := Aside0.mk (blk_below BX.out hb)
  replace TY := Aside0.mk (TY.out.below hb)
  clear hb HK
  clear TZ
  have hBA0 := (blk_cell BA.out 0).trans rfl
  have hBA1 := (blk_cell BA.out 1).trans rfl
  have hBR0 := (blk_cell BR.out 0).trans rfl
  have hBR1 := (blk_cell BR.out 1).trans rfl
  have hBR2 := (blk_cell BR.out 2).trans rfl
  have hBR3 := (blk_cell BR.out 3).trans rfl
  have hBX0 := (blk_cell BX.out 0).trans rfl
  have hBX1 := (blk_cell BX.out 1).trans rfl
  go_wp2_with fail
  (with_reducible refine (HI.out _ HB.out).mono ?_)
  rintro e w11 ⟨U0, u0, rfl, TU, hb⟩
  clear hBA0 hBA1 hBR0 hBR1 hBR2 hBR3 hBX0 hBX1
  replace BA := Aside0.mk (blk_below BA.out hb)
  replace BR := Aside0.mk (blk_below BR.out hb)
  replace HB := Aside0.mk (below_step HB.out hb)
  replace TX := Aside0.mk (TX.out.below hb)
  replace BX := Aside0.mk (blk_below BX.out hb)
  replace TY := Aside0.mk (TY.out.below hb)
  clear hb
  have hBA0 := (blk_cell BA.out 0).trans rfl
  have hBA1 := (blk_cell BA.out 1).trans rfl
  have hBR0 := (blk_cell BR.out 0).trans rfl
  have hBR1 := (blk_cell BR.out 1).trans rfl
  have hBR2 := (blk_cell BR.out 2).trans rfl
  have hBR3 := (blk_cell BR.out 3).trans rfl
  have hBX0 := (blk_cell BX.out 0).trans rfl
  have hBX1 := (blk_cell BX.out 1).trans rfl
  replace TU := Aside0.mk TU
  go_wp2_with fail
  (with_reducible refine (laws_eqInt64S.calls k Y0 y0 o U0 u0 o true _ TY.out.r TY.out.h TU.out.r TU.out.h E7.out).mono ?_)
  rintro e w12 ⟨rfl, hd⟩
  have hb := hd.below
  clear hd
  clear hBA0 hBA1 hBR0 hBR1 hBR2 hBR3 hBX0 hBX1
  replace BA := Aside0.mk (blk_below BA.out hb)
  replace BR := Aside0.mk (blk_below BR.out hb)
  replace HB := Aside0.mk (below_step HB.out hb)
  replace TX := Aside0.mk (TX.out.below hb)
  replace BX := Aside0.mk (blk_below BX.out hb)
  replace TY := Aside0.mk (TY.out.below hb)
  replace TU := Aside0.mk (TU.out.below hb)
  clear hb
  have hBA0 := (blk_cell BA.out 0).trans rfl
  have hBA1 := (blk_cell BA.out 1).trans rfl
  have hBR0 := (blk_cell BR.out 0).trans rfl
  have hBR1 := (blk_cell BR.out 1).trans rfl
  have hBR2 := (blk_cell BR.out 2).trans rfl
  have hBR3 := (blk_cell BR.out 3).trans rfl
  have hBX0 := (blk_cell BX.out 0).trans rfl
  have hBX1 := (blk_cell BX.out 1).trans rfl
  go_wp2_with fail
  go_ret
  exact ⟨rfl, HB.out⟩

end Go.Proofs.Ytkadeelplnkpgaa.Q

-- text OLoop
namespace Go.Proofs.Ytkadeelplnkpgaa.Pure
open Go.RowKit Go.Proofs.YtkadeelplnkpgaaW.PrintWords Go.Proofs.YtkadeelplnkpgaaW.PrintLast Go.Proofs.YtkadeelplnkpgaaW.PrintMore
set_option linter.unusedVariables false
set_option linter.unusedSimpArgs false

theorem up64 (i n : Nat) (h : i < n) (hn : n ≤ 9223372036854775807) : wrap64 ((i : Int) + 1) = ((i + 1 : Nat) : Int) := by unfold wrap64; omega
/-- A loop over i from 0 to n: an invariant, and what is known of the answer. -/
theorem loop_from {σ ρ : Type} (n : Nat) (L : Nat → σ → Int → Option ρ) (I : Nat → σ → Prop) (Post : ρ → Prop)
    (hs : ∀ (i : Nat) s, i < n → I i s → (∃ r, Post r ∧ Ev (fun k => L k s (i : Int)) r) ∨ ∃ s', I (i + 1) s' ∧ ∀ r, Ev (fun k => L k s' ((i + 1 : Nat) : Int)) r → Ev (fun k => L k s (i : Int)) r)
    (he : ∀ s, I n s → ∃ r, Post r ∧ Ev (fun k => L k s (n : Int)) r) : ∀ (d i : Nat) s, i + d = n → I i s → ∃ r, Post r ∧ Ev (fun k => L k s (i : Int)) r
  | 0, i, s, hd, hI => by
    obtain rfl : i = n := by omega
    exact he s hI
  | d + 1, i, s, hd, hI => by
    rcases hs i s (by omega) hI with h | ⟨s', hI', h⟩
    · exact h
    · obtain ⟨r, hr, hE⟩ := loop_from n L I Post hs he d (i + 1) s' (by omega) hI'
      exact ⟨r, hr, h r hE⟩
theorem loop_up {σ ρ : Type} (n : Nat) (L : Nat → σ → Int → Option ρ) (I : Nat → σ → Prop) (Post : ρ → Prop)
    (hs : ∀ (i : Nat) s, i < n → I i s → (∃ r, Post r ∧ Ev (fun k => L k s (i : Int)) r) ∨ ∃ s', I (i + 1) s' ∧ ∀ r, Ev (fun k => L k s' ((i + 1 : Nat) : Int)) r → Ev (fun k => L k s (i : Int)) r)
    (he : ∀ s, I n s → ∃ r, Post r ∧ Ev (fun k => L k s (n : Int)) r) (s : σ) (h0 : I 0 s) : ∃ r, Post r ∧ Ev (fun k => L k s 0) r :=
  loop_from n L I Post hs he n 0 s (by omega) h0
/-- The same where one answer is told. -/
theorem loop_is {σ ρ : Type} (n : Nat) (L : Nat → σ → Int → Option ρ) (I : Nat → σ → Prop) (a : ρ)
    (hs : ∀ (i : Nat) s, i < n → I i s → Ev (fun k => L k s (i : Int)) a ∨ ∃ s', I (i + 1) s' ∧ ∀ r, Ev (fun k => L k s' ((i + 1 : Nat) : Int)) r → Ev (fun k => L k s (i : Int)) r)
    (he : ∀ s, I n s → Ev (fun k => L k s (n : Int)) a) (s : σ) (h0 : I 0 s) : Ev (fun k => L k s 0) a := by
  obtain ⟨r, hr, hE⟩ := loop_up n L I (· = a) (fun i s hi hI => (hs i s hi hI).imp (fun h => ⟨a, rfl, h⟩) id) (fun s hI => ⟨a, rfl, he s hI⟩) s h0
  exact hr ▸ hE
theorem ev_some {α : Type} {g : Nat → Option α} {r : α} (h : ∀ k, g k = some r) : Ev g r := ⟨0, fun k _ => h k⟩
theorem ev_next {α : Type} {g f : Nat → Option α} (h : ∀ k, g (k + 1) = f k) : ∀ r, Ev f r → Ev g r := fun _ k => Ev.step h k
theorem ev_end {α : Type} {g : Nat → Option α} {r : α} (h : ∀ k, g (k + 1) = some r) : Ev g r := Ev.step h (Ev.now r)
theorem ev_of {α : Type} {g : Nat → Option α} {r : α} {K : Nat} (h : ∀ k, K ≤ k → g k = some r) : Ev g r := ⟨K, h⟩
theorem ev_then1 {α : Type} {g : Nat → Option α} {r : α} (h : Ev g r) : Ev (fun k => (g k).bind fun t => some t) r := Ev.bind h (Ev.now r)
/-- what is bound comes to the same -/
theorem ev_bind_some {α β : Type} {a : α} {f : Nat → α → Option β} {r : β} (k : Ev (fun n => f n a) r) : Ev (fun n => (some a).bind (f n)) r := k

theorem take_set {α : Type} (l y : List α) (i : Nat) (v : α) (hl : y.length = l.length) (hi : i < l.length) (hv : v = l[i]) (h : y.take i = l.take i) : (y.set i v).take (i + 1) = l.take (i + 1) := by
  rw [List.take_succ_eq_append_getElem (by rw [List.length_set]; omega), List.take_succ_eq_append_getElem hi]
  congr 1
  · rw [List.take_set_of_le (by omega)]; exact h
  · simp [hv]
theorem take_all {α : Type} (l y : List α) (n : Nat) (hl : y.length = n) (hn : l.length = n) (h : y.take n = l.take n) : y = l := by
  rw [List.take_of_length_le (by omega), List.take_of_length_le (by omega)] at h
  exact h
theorem getD_get {α : Type} (l : List α) (i : Nat) (z : α) (h : i < l.length) : l.getD i z = l[i] := by
  rw [List.getD_eq_getElem?_getD, List.getElem?_eq_getElem h]; rfl
theorem map_loop {α β : Type} (L : Nat → List β → Int → Option (List β)) (l : List α) (c : α → β)
    (hs : ∀ (i : Nat) (h : i < l.length) y, y.length = l.length → ∀ r, Ev (fun k => L k (y.set i (c l[i])) ((i + 1 : Nat) : Int)) r → Ev (fun k => L k y (i : Int)) r)
    (he : ∀ k y, L (k + 1) y (l.length : Int) = some y) (y : List β) (hy : y.length = l.length) : Ev (fun k => L k y 0) (l.map c) := by
  refine loop_is l.length L (fun i y => y.length = l.length ∧ y.take i = (l.map c).take i) _ ?_ ?_ y ⟨hy, by simp⟩
  · intro i s hi ⟨h1, h2⟩
    exact .inr ⟨s.set i (c l[i]), ⟨by rw [List.length_set]; exact h1, take_set (l.map c) s i _ (by simpa using h1) (by simpa using hi) (by simp) h2⟩, hs i hi s h1⟩
  · intro s ⟨h1, h2⟩
    have e := take_all (l.map c) s l.length h1 (by simp) h2
    exact e ▸ ev_end (fun k => he k s)
theorem eq_loop (n : Nat) (L : Nat → Int → Option Bool) (hs : ∀ i : Nat, i < n → ∀ r, Ev (fun k => L k ((i + 1 : Nat) : Int)) r → Ev (fun k => L k (i : Int)) r) (he : ∀ k, L (k + 1) (n : Int) = some true) : Ev (fun k => L k 0) true :=
  loop_is n (fun k (_ : Unit) i => L k i) (fun _ _ => True) true (fun i _ hi _ => .inr ⟨(), trivial, hs i hi⟩) (fun _ _ => ev_end he) () trivial
theorem same_loop {α : Type} [DecidableEq α] (a b : List α) (hl : a.length = b.length) (L : Nat → Int → Option Bool)
    (hs : ∀ k (i : Nat) (h : i < a.length) (h' : i < b.length), L (k + 1) (i : Int) = if a[i] = b[i] then L k ((i + 1 : Nat) : Int) else some false) (he : ∀ k, L (k + 1) (a.length : Int) = some true) : Ev (fun k => L k 0) (decide (a = b)) := by
  refine loop_is a.length (fun k (_ : Unit) i => L k i) (fun i _ => a.take i = b.take i) _ ?_ ?_ () (by simp)
  · intro i _ hi hI
    have hi' : i < b.length := by omega
    by_cases c : a[i] = b[i]
    · refine .inr ⟨(), ?_, ev_next (fun k => ?_)⟩
      · rw [List.take_succ_eq_append_getElem hi, List.take_succ_eq_append_getElem hi', hI, c]
      · rw [hs k i hi hi', if_pos c]
    · left
      rw [decide_eq_false (fun e => c (by subst e; rfl))]
      exact ev_end (fun k => by rw [hs k i hi hi', if_neg c])
  · intro _ hI
    rw [List.take_length, hl, List.take_length] at hI
    rw [decide_eq_true hI]
    exact ev_end he
/-- numbers from c on -/
def cnt (c n : Nat) : List Int := (List.range n).map fun j => ((c + j : Nat) : Int)
theorem cnt_length (c n : Nat) : (cnt c n).length = n := by simp [cnt]
theorem cnt_get (c n i : Nat) (h : i < (cnt c n).length) : (cnt c n)[i] = ((c + i : Nat) : Int) := by simp [cnt]
theorem mark_loop (n c : Nat) (hc : c + n ≤ 4611686018427387904) (L : Nat → List Int × Int → Int → Option (Int × List Int))
    (hs : ∀ k (i : Nat) x (m : Nat), i < n → x.length = n → m ≤ 4611686018427387904 → L (k + 1) (x, (m : Int)) (i : Int) = L k (x.set i (m : Int), ((m + 1 : Nat) : Int)) ((i + 1 : Nat) : Int))
    (he : ∀ k x m, x.length = n → L (k + 1) (x, m) (n : Int) = some (m, x)) (x : List Int) (hx : x.length = n) : Ev (fun k => L k (x, (c : Int)) 0) (((c + n : Nat) : Int), cnt c n) := by
  refine loop_is n L (fun i s => s.1.length = n ∧ s.2 = ((c + i : Nat) : Int) ∧ s.1.take i = (cnt c n).take i) _ ?_ ?_ (x, (c : Int)) ⟨hx, by simp, by simp⟩
  · rintro i ⟨x, m⟩ hi ⟨h1, h2, h3⟩
    simp only at h1 h2 h3
    subst h2
    exact .inr ⟨(x.set i ((c + i : Nat) : Int), ((c + i + 1 : Nat) : Int)), ⟨by simpa using h1, rfl, take_set (cnt c n) x i _ (by rw [cnt_length]; exact h1) (by rw [cnt_length]; exact hi) (by rw [cnt_get]) h3⟩, ev_next (fun k => hs k i x (c + i) hi h1 (by omega))⟩
  · rintro ⟨x, m⟩ ⟨h1, h2, h3⟩
    simp only at h1 h2 h3
    have e := take_all (cnt c n) x n h1 (cnt_length c n) h3
    subst h2 e
    exact ev_end (fun k => he k _ _ h1)
theorem held_loop (n c : Nat) (hc : c + n ≤ 4611686018427387904) (L : Nat → Int → Int → Option Int)
    (hs : ∀ k (i : Nat), i < n → L (k + 1) ((c + i : Nat) : Int) (i : Int) = L k ((c + i + 1 : Nat) : Int) ((i + 1 : Nat) : Int))
    (he : ∀ k m, L (k + 1) m (n : Int) = some m) : Ev (fun k => L k (c : Int) 0) ((c + n : Nat) : Int) := by
  refine loop_is n L (fun i s => s = ((c + i : Nat) : Int)) _ ?_ ?_ (c : Int) (by simp)
  · rintro i _ hi rfl
    exact .inr ⟨((c + i + 1 : Nat) : Int), rfl, ev_next (fun k => hs k i hi)⟩
  · rintro _ rfl
    exact ev_end (fun k => he k _)
/-- marking rows of several numbers: how far it counts -/
theorem count_loop {α : Type} (n c w : Nat) (L : Nat → List α × Int → Int → Option (Int × List α))
    (hs : ∀ (i : Nat) x (m : Nat), i < n → x.length = n → m ≤ c + w * n → ∃ x' : List α, x'.length = n ∧ ∀ k, L (k + 1) (x, (m : Int)) (i : Int) = L k (x', ((m + w : Nat) : Int)) ((i + 1 : Nat) : Int))
    (he : ∀ k x m, x.length = n → L (k + 1) (x, m) (n : Int) = some (m, x)) (x : List α) (hx : x.length = n) : ∃ x', Ev (fun k => L k (x, (c : Int)) 0) (((c + w * n : Nat) : Int), x') := by
  obtain ⟨r, hr, hE⟩ := loop_up n L (fun i s => s.1.length = n ∧ s.2 = ((c + w * i : Nat) : Int)) (fun r : Int × List α => r.1 = ((c + w * n : Nat) : Int)) (by
    rintro i ⟨x, m⟩ hi ⟨h1, h2⟩
    simp only at h1 h2
    subst h2
    have hle : w * i ≤ w * n := Nat.mul_le_mul_left _ (by omega)
    obtain ⟨x', g1, g2⟩ := hs i x (c + w * i) hi h1 (by omega)
    exact .inr ⟨(x', ((c + w * i + w : Nat) : Int)), ⟨g1, by simp only [Nat.mul_add, Nat.mul_one, Nat.add_assoc]⟩, ev_next g2⟩) (by
    rintro ⟨x, m⟩ ⟨h1, h2⟩
    simp only at h1 h2
    subst h2
    exact ⟨_, rfl, ev_end (fun k => he k _ _ h1)⟩) (x, (c : Int)) ⟨hx, by simp⟩
  obtain ⟨a, b⟩ := r
  simp only at hr
  subst hr
  exact ⟨b, hE⟩

end Go.Proofs.Ytkadeelplnkpgaa.Pure

-- text OLInt
namespace Go.Proofs.Ytkadeelplnkpgaa.Pure
open Go.RowKit Go.Proofs.Ytkadeelplnkpgaa.Q Go.Proofs.YtkadeelplnkpgaaW.PrintWords Go.Proofs.YtkadeelplnkpgaaW.PrintLast Go.Proofs.YtkadeelplnkpgaaW.PrintMore
set_option linter.unusedVariables false
set_option linter.unusedSimpArgs false

theorem rd_get (l : List Int) (i : Nat) (h : i < l.length) : rd l (i : Int) = l[i] := by
  unfold rd
  rw [Int.toNat_natCast, getD_get l i 0 h]
theorem toInt64S_ev (l : List Int) (hl : l.length ≤ 1048576) : Ev (fun k => laws_toInt64S.f k l) l := by
  have h := map_loop (fun k y i => laws_toInt64S.l0 k l y i) l id (fun i hi y hy => ev_next (fun k => by
    simp only [laws_toInt64S.l0]
    rw [if_pos (by omega), if_pos (by omega), if_pos (by omega), up64 i l.length hi (by omega), Int.toNat_natCast, rd_get l i hi]
    rfl)) (fun k y => by simp only [laws_toInt64S.l0]; rw [if_neg (by omega)]) (List.replicate ((l.length : Int) : Int).toNat 0) (by simp)
  rw [List.map_id] at h
  refine Ev.congr (fun k => ?_) h
  unfold laws_toInt64S.f
  rw [if_pos (by omega), if_pos (by omega)]
theorem eqInt64S_ev (l : List Int) (hl : l.length ≤ 9223372036854775807) : Ev (fun k => laws_eqInt64S.f k l l) true := by
  refine Ev.congr (fun k => ?_) (eq_loop l.length (fun k i => laws_eqInt64S.l0 k l l i) (fun i hi => ev_next (fun k => by
    simp only [laws_eqInt64S.l0]
    rw [if_pos (by omega), if_pos (by omega), if_pos (by omega), if_pos trivial, up64 i l.length hi hl])) (fun k => by simp only [laws_eqInt64S.l0]; rw [if_neg (by omega)]))
  unfold laws_eqInt64S.f
  rw [if_pos rfl]

end Go.Proofs.Ytkadeelplnkpgaa.Pure

-- text OLTree
namespace Go.Proofs.Ytkadeelplnkpgaa.Pure
open Go.RowKit Go.Proofs.Ytkadeelplnkpgaa.Q Go.Proofs.Ytkadeelplnkpgaa.Opens Go.Proofs.YtkadeelplnkpgaaW.PrintWords Go.Proofs.YtkadeelplnkpgaaW.PrintLast Go.Proofs.YtkadeelplnkpgaaW.PrintMore
set_option linter.unusedVariables false
set_option linter.unusedSimpArgs false

def devOf (x : S110) : S50 := ⟨x.f0, x.f1⟩
def bktOf (x : S106) : S108 := ⟨x.f0, x.f1, x.f2⟩
theorem rd_devL (l : List S110) (i : Nat) (h : i < l.length) : rd_T110 l (i : Int) = l[i] := by
  unfold rd_T110
  rw [Int.toNat_natCast, getD_get l i _ h]
theorem rd_dev (l : List S50) (i : Nat) (h : i < l.length) : rd_T50 l (i : Int) = l[i] := by
  unfold rd_T50
  rw [Int.toNat_natCast, getD_get l i _ h]
theorem rd_bktL (l : List S106) (i : Nat) (h : i < l.length) : rd_T106 l (i : Int) = l[i] := by
  unfold rd_T106
  rw [Int.toNat_natCast, getD_get l i _ h]
theorem rd_bkt (l : List S108) (i : Nat) (h : i < l.length) : rd_T108 l (i : Int) = l[i] := by
  unfold rd_T108
  rw [Int.toNat_natCast, getD_get l i _ h]
theorem toDeviceS_ev (l : List S110) (hl : l.length ≤ 1048576) : Ev (fun k => laws_toDeviceS.f k l) (l.map devOf) := by
  have h := map_loop (fun k y i => laws_toDeviceS.l0 k l y i) l devOf (fun i hi y hy => ev_next (fun k => by
    simp only [laws_toDeviceS.l0, laws_toDevice.f, Option.bind_some]
    rw [if_pos (by omega), if_pos (by omega), if_pos (by omega), up64 i l.length hi (by omega), Int.toNat_natCast, rd_devL l i hi]
    all_goals exact rfl)) (fun k y => by simp only [laws_toDeviceS.l0]; rw [if_neg (by omega)]) (List.replicate ((l.length : Int) : Int).toNat z50) (by simp)
  refine Ev.congr (fun k => ?_) h
  unfold laws_toDeviceS.f
  rw [if_pos (by omega), if_pos (by omega)]
theorem toBucketS_ev (l : List S106) (hl : l.length ≤ 1048576) (hb : ∀ x ∈ l, x.f2.length ≤ 1048576) : Ev (fun k => laws_toBucketS.f k l) (l.map bktOf) := by
  have h := map_loop (fun k y i => laws_toBucketS.l0 k l y i) l bktOf (fun i hi y hy => fun r hr => by
    refine Ev.step (f := ?f) (fun k => ?_) ?_
    rotate_left
    · simp only [laws_toBucketS.l0]
      rw [if_pos (by omega), if_pos (by omega), rd_bktL l i hi, up64 i l.length hi (by omega), Int.toNat_natCast]
      all_goals exact rfl
    · refine Ev.bind (a := (l[i].f0, l[i].f1, l[i].f2)) ?_ ?_
      · unfold laws_toBucket.f
        exact Ev.bind (toInt64S_ev _ (hb _ (List.getElem_mem hi))) (Ev.now _)
      · refine Ev.congr (fun k => ?_) hr
        rw [if_pos (by omega)]
        rfl) (fun k y => by simp only [laws_toBucketS.l0]; rw [if_neg (by omega)]) (List.replicate ((l.length : Int) : Int).toNat z108) (by simp)
  refine Ev.congr (fun k => ?_) h
  unfold laws_toBucketS.f
  rw [if_pos (by omega), if_pos (by omega)]
theorem eqDeviceS_ev (l : List S50) (hl : l.length ≤ 9223372036854775807) : Ev (fun k => laws_eqDeviceS.f k l l) true := by
  refine Ev.congr (fun k => ?_) (eq_loop l.length (fun k i => laws_eqDeviceS.l0 k l l i) (fun i hi => ev_next (fun k => by
    simp only [laws_eqDeviceS.l0, laws_eqDevice.f, Option.bind_some, if_true]
    rw [if_pos (by omega), if_pos (by omega), if_pos (by omega), up64 i l.length hi hl])) (fun k => by simp only [laws_eqDeviceS.l0]; rw [if_neg (by omega)]))
  unfold laws_eqDeviceS.f
  rw [if_pos rfl]
theorem eqBucketS_ev (l : List S108) (hl : l.length ≤ 9223372036854775807) (hb : ∀ x ∈ l, x.f2.length ≤ 9223372036854775807) : Ev (fun k => laws_eqBucketS.f k l l) true := by
  refine Ev.congr (fun k => ?_) (eq_loop l.length (fun k i => laws_eqBucketS.l0 k l l i) (fun i hi => fun r hr => by
    refine Ev.step (f := ?f) (fun k => ?_) ?_
    rotate_left
    · simp only [laws_eqBucketS.l0]
      rw [if_pos (by omega), if_pos (by omega), if_pos (by omega), up64 i l.length hi hl, rd_bkt l i hi]
      all_goals exact rfl
    · refine Ev.bind (a := true) ?_ (Ev.congr (fun k => if_pos rfl) hr)
      unfold laws_eqBucket.f
      simp only [if_true]
      exact Ev.bind (eqInt64S_ev _ (hb _ (List.getElem_mem hi))) (ev_some fun k => if_pos rfl)) (fun k => by simp only [laws_eqBucketS.l0]; rw [if_neg (by omega)]))
  unfold laws_eqBucketS.f
  rw [if_pos rfl]
theorem szInt64S_left (l : List Int) (left : Int) (hl : l.length ≤ 9223372036854775807) (h0 : 0 ≤ left) (h1 : left ≤ 1048576) : laws_szInt64S.f l left = some (if (l.length : Int) ≤ left then left - (l.length : Int) else -1) := by
  have e : wrap64 (left - (l.length : Int)) = left - (l.length : Int) := by unfold wrap64; omega
  unfold laws_szInt64S.f
  rw [e]
  by_cases h : (l.length : Int) ≤ left
  · rw [if_neg (by omega), if_pos h]
  · rw [if_pos (by omega), if_neg h]
theorem szDeviceS_left (l : List S110) (left : Int) (hl : l.length ≤ 9223372036854775807) (h0 : 0 ≤ left) (h1 : left ≤ 1048576) : laws_szDeviceS.f l left = some (if (l.length : Int) ≤ left then left - (l.length : Int) else -1) := by
  have e : wrap64 (left - (l.length : Int)) = left - (l.length : Int) := by unfold wrap64; omega
  unfold laws_szDeviceS.f
  rw [e]
  by_cases h : (l.length : Int) ≤ left
  · rw [if_neg (by omega), if_pos h]
  · rw [if_pos (by omega), if_neg h]
/-- the sizes are small -/
def Small (d : List S110) (b : List S106) : Prop := d.length ≤ 1048576 ∧ b.length ≤ 1048576 ∧ ∀ x ∈ b, x.f2.length ≤ 1048576
theorem szBucketS_ev (l : List S106) (left : Int) (hl : l.length ≤ 9223372036854775807) (hb : ∀ x ∈ l, x.f2.length ≤ 9223372036854775807) (h0 : 0 ≤ left) (h1 : left ≤ 1048576) :
    ∃ t, (0 ≤ t → t ≤ 1048576 ∧ l.length ≤ 1048576 ∧ ∀ x ∈ l, x.f2.length ≤ 1048576) ∧ Ev (fun k => laws_szBucketS.f k l left) t := by
  have e : wrap64 (left - (l.length : Int)) = left - (l.length : Int) := by unfold wrap64; omega
  unfold laws_szBucketS.f
  simp only [e]
  by_cases h : (left - (l.length : Int)) < 0
  · simp only [if_pos h]
    exact ⟨-1, by omega, Ev.now _⟩
  · simp only [if_neg h]
    refine loop_up l.length (fun k s i => laws_szBucketS.l0 k l s i) (fun i s => 0 ≤ s ∧ s ≤ 1048576 ∧ ∀ x ∈ l.take i, x.f2.length ≤ 1048576) _ ?_ ?_ _ ⟨by omega, by omega, by simp⟩
    · intro i s hi ⟨g0, g1, g2⟩
      have hsz := hb l[i] (List.getElem_mem hi)
      have hz := szInt64S_left l[i].f2 s hsz g0 g1
      have hu : ∀ k, laws_szBucketS.l0 (k + 1) l s i = (laws_szBucket.f l[i].f0 l[i].f1 l[i].f2 s).bind fun t => if t < 0 then some (-1) else laws_szBucketS.l0 k l t ((i + 1 : Nat) : Int) := fun k => by
        simp only [laws_szBucketS.l0]
        rw [if_pos (by omega), if_pos (by omega), rd_bktL l i hi, up64 i l.length hi hl]
      unfold laws_szBucket.f at hu
      by_cases c : (l[i].f2.length : Int) ≤ s
      · refine .inr ⟨s - (l[i].f2.length : Int), ⟨by omega, by omega, fun x hx => ?_⟩, ev_next (fun k => ?_)⟩
        · rw [List.take_succ_eq_append_getElem hi] at hx
          rcases List.mem_append.1 hx with hx | hx
          · exact g2 x hx
          · simp only [List.mem_singleton] at hx
            subst hx
            omega
        · rw [hu k, hz, if_pos c]
          simp only [Option.bind_some]
          rw [if_neg (by omega), Option.bind_some, if_neg (by omega)]
      · refine .inl ⟨-1, by omega, ev_end (fun k => ?_)⟩
        rw [hu k, hz, if_neg c]
        simp
    · intro s ⟨g0, g1, g2⟩
      rw [List.take_length] at g2
      refine ⟨s, fun _ => ⟨by omega, by omega, g2⟩, ev_end (fun k => ?_)⟩
      simp only [laws_szBucketS.l0]
      rw [if_neg (by omega)]
theorem szTree_ev (d : List S110) (b : List S106) (left : Int) (hd : d.length ≤ 9223372036854775807) (hl : b.length ≤ 9223372036854775807) (hb : ∀ x ∈ b, x.f2.length ≤ 9223372036854775807) (h0 : 0 ≤ left) (h1 : left ≤ 1048576) :
    ∃ t, (0 ≤ t → t ≤ 1048576 ∧ Small d b) ∧ Ev (fun k => laws_szTree.f k d b left) t := by
  unfold laws_szTree.f
  simp only [szDeviceS_left d left hd h0 h1, Option.bind_some]
  by_cases c : (d.length : Int) ≤ left
  · simp only [if_pos c, show ¬ (left - (d.length : Int) < 0) by omega, if_false]
    obtain ⟨t, ht, hE⟩ := szBucketS_ev b (left - (d.length : Int)) hl hb (by omega) (by omega)
    by_cases c2 : t < 0
    · exact ⟨-1, by omega, Ev.bind hE (ev_some fun k => if_pos c2)⟩
    · have := ht (by omega)
      exact ⟨t, fun _ => ⟨this.1, by omega, this.2.1, this.2.2⟩, Ev.bind hE (ev_some fun k => if_neg c2)⟩
  · simp only [if_neg c]
    exact ⟨-1, by omega, ev_some fun k => by simp⟩
theorem toTree_ev (d : List S110) (b : List S106) (h : Small d b) : Ev (fun k => laws_toTree.f k d b) (d.map devOf, b.map bktOf) := by
  unfold laws_toTree.f
  exact Ev.bind (toDeviceS_ev d h.1) (Ev.bind (toBucketS_ev b h.2.1 h.2.2) (Ev.now _))
theorem eqTree_ev (d : List S110) (b : List S106) (h : Small d b) : Ev (fun k => laws_eqTree.f k (d.map devOf) (b.map bktOf) (d.map devOf) (b.map bktOf)) true := by
  obtain ⟨h1, h2, h3⟩ := h
  unfold laws_eqTree.f
  refine Ev.bind (eqDeviceS_ev _ (by rw [List.length_map]; omega)) ?_
  simp only [if_true]
  refine Ev.bind (eqBucketS_ev _ (by rw [List.length_map]; omega) (fun x hx => ?_)) (ev_some fun k => if_pos rfl)
  obtain ⟨y, hy, rfl⟩ := List.mem_map.1 hx
  have := h3 y hy
  show y.f2.length ≤ _
  omega
/-- the numbers of a law's topology are of their kind -/
theorem wf_of_good (d : List S110) (b : List S106) (hd : good_t22 d) (hb : good_t23 b) : wfTree (d.map devOf) (b.map bktOf) = true := by
  unfold wfTree
  rw [Bool.and_eq_true, List.all_eq_true, List.all_eq_true]
  constructor
  · intro x hx
    obtain ⟨y, hy, rfl⟩ := List.mem_map.1 hx
    have := hd.2 y hy
    rw [Bool.and_eq_true]
    exact ⟨wf_wfI this.1, wf_wfI this.2⟩
  · intro x hx
    obtain ⟨y, hy, rfl⟩ := List.mem_map.1 hx
    have := hb.2 y hy
    rw [Bool.and_eq_true, Bool.and_eq_true]
    refine ⟨⟨wf_wfI this.1, wf_wfI this.2.1⟩, ?_⟩
    rw [List.all_eq_true]
    intro z hz
    exact wf_wfI (this.2.2.2 z hz)
theorem small_of_good (d : List S110) (b : List S106) (hd : good_t22 d) (hb : good_t23 b) : d.length ≤ 9223372036854775807 ∧ b.length ≤ 9223372036854775807 ∧ ∀ x ∈ b, x.f2.length ≤ 9223372036854775807 :=
  ⟨hd.1, hb.1, fun x hx => (hb.2 x hx).2.2.1⟩

end Go.Proofs.Ytkadeelplnkpgaa.Pure

-- text OTree
namespace Go.Proofs.Ytkadeelplnkpgaa.Pure
open Go.RowKit Go.Proofs.Ytkadeelplnkpgaa.Q Go.Proofs.YtkadeelplnkpgaaW.PrintWords Go.Proofs.YtkadeelplnkpgaaW.PrintLast Go.Proofs.YtkadeelplnkpgaaW.PrintMore
set_option linter.unusedVariables false
set_option linter.unusedSimpArgs false

theorem in_inB (a b c : Int) : spec_l00In.f a b c = some (inB a b c) := between_inB a b c
/-- a loop that asks each place in turn -/
theorem all_loop (n : Nat) (L : Nat → Int → Option Bool) (c : Nat → Bool) (ht : ∀ i : Nat, i < n → c i = true → ∀ r, Ev (fun k => L k ((i + 1 : Nat) : Int)) r → Ev (fun k => L k (i : Int)) r)
    (hf : ∀ i : Nat, i < n → c i = false → Ev (fun k => L k (i : Int)) false) (he : ∀ k, L (k + 1) (n : Int) = some true) : Ev (fun k => L k 0) ((List.range n).all c) := by
  refine loop_is n (fun k (_ : Unit) i => L k i) (fun i _ => ∀ j, j < i → c j = true) _ ?_ ?_ () (fun j hj => absurd hj (Nat.not_lt_zero j))
  · intro i _ hi hI
    cases hc : c i with
    | true =>
      refine .inr ⟨(), fun j hj => ?_, ht i hi hc⟩
      rcases Nat.lt_succ_iff_lt_or_eq.1 hj with h | h
      · exact hI j h
      · rw [h]; exact hc
    | false =>
      left
      have e : (List.range n).all c = false := by
        rw [List.all_eq_false]
        exact ⟨i, by simpa using hi, by simp [hc]⟩
      rw [e]
      exact hf i hi hc
  · intro _ hI
    have e : (List.range n).all c = true := by
      rw [List.all_eq_true]
      intro j hj
      exact hI j (by simpa using hj)
    rw [e]
    exact ev_end he
theorem has_ev (l : List Int) (x : Int) (hl : l.length ≤ 9223372036854775807) : Ev (fun k => spec_l00Has.f k l x) (l.any fun y => y == x) := by
  refine loop_is l.length (fun k (_ : Unit) i => spec_l00Has.l0 k l x i) (fun i _ => (l.take i).any (fun y => y == x) = false) _ ?_ ?_ () (by simp)
  · intro i _ hi hI
    have hu : ∀ k, spec_l00Has.l0 (k + 1) l x i = if l[i] = x then some true else spec_l00Has.l0 k l x ((i + 1 : Nat) : Int) := fun k => by
      simp only [spec_l00Has.l0]
      rw [if_pos (by omega), if_pos (by omega), rd_get l i hi, up64 i l.length hi hl]
    by_cases c : l[i] = x
    · left
      have e : l.any (fun y => y == x) = true := by
        rw [List.any_eq_true]
        exact ⟨l[i], List.getElem_mem hi, by simpa using c⟩
      rw [e]
      exact ev_end (fun k => by rw [hu k, if_pos c])
    · refine .inr ⟨(), ?_, ev_next (fun k => by rw [hu k, if_neg c])⟩
      rw [List.take_succ_eq_append_getElem hi, List.any_append, hI]
      simpa using c
  · intro _ hI
    rw [List.take_length] at hI
    rw [hI]
    exact ev_end (fun k => by simp only [spec_l00Has.l0]; rw [if_neg (by omega)])
/-- the index of a device -/
def devAt (D : List S50) (id : Int) : Int := idxFrom (fun x : S50 => x.f0 == id) D 0
theorem idx_step {α : Type} (p : α → Bool) (l : List α) (i : Nat) (hi : i < l.length) : idxFrom p (l.drop i) i = if p l[i] = true then (i : Int) else idxFrom p (l.drop (i + 1)) ((i + 1 : Nat) : Int) := by
  rw [List.drop_eq_getElem_cons hi]
  rfl
theorem specDevice_ev (D : List S50) (B : List S108) (id : Int) (hD : D.length ≤ 9223372036854775807) : Ev (fun k => spec_l06Device.f k D B id) (devAt D id) := by
  refine loop_is D.length (fun k (_ : Unit) i => spec_l06Device.l0 k id i D B) (fun i _ => devAt D id = idxFrom (fun x : S50 => x.f0 == id) (D.drop i) i) _ ?_ ?_ () rfl
  · intro i _ hi hI
    have hu : ∀ k, spec_l06Device.l0 (k + 1) id i D B = if D[i].f0 = id then some (i : Int) else spec_l06Device.l0 k id ((i + 1 : Nat) : Int) D B := fun k => by
      simp only [spec_l06Device.l0]
      rw [if_pos (by omega), if_pos (by omega), rd_dev D i hi, up64 i D.length hi hD]
    rw [idx_step _ D i hi] at hI
    by_cases c : D[i].f0 = id
    · left
      rw [if_pos (by simpa using c)] at hI
      rw [hI]
      exact ev_end (fun k => by rw [hu k, if_pos c])
    · rw [if_neg (by simpa using c)] at hI
      exact .inr ⟨(), hI, ev_next (fun k => by rw [hu k, if_neg c])⟩
  · intro _ hI
    rw [List.drop_length] at hI
    rw [hI]
    exact ev_end (fun k => by simp only [spec_l06Device.l0]; rw [if_neg (by omega)]; rfl)
theorem specBucket_ev (D : List S50) (B : List S108) (id : Int) (hB : B.length ≤ 9223372036854775807) : Ev (fun k => spec_l06Bucket.f k D B id) (bucketAt B id) := by
  refine loop_is B.length (fun k (_ : Unit) i => spec_l06Bucket.l0 k id i D B) (fun i _ => bucketAt B id = idxFrom (fun x : S108 => x.f0 == id) (B.drop i) i) _ ?_ ?_ () rfl
  · intro i _ hi hI
    have hu : ∀ k, spec_l06Bucket.l0 (k + 1) id i D B = if B[i].f0 = id then some (i : Int) else spec_l06Bucket.l0 k id ((i + 1 : Nat) : Int) D B := fun k => by
      simp only [spec_l06Bucket.l0]
      rw [if_pos (by omega), if_pos (by omega), rd_bkt B i hi, up64 i B.length hi hB]
    rw [idx_step _ B i hi] at hI
    by_cases c : B[i].f0 = id
    · left
      rw [if_pos (by simpa using c)] at hI
      rw [hI]
      exact ev_end (fun k => by rw [hu k, if_pos c])
    · rw [if_neg (by simpa using c)] at hI
      exact .inr ⟨(), hI, ev_next (fun k => by rw [hu k, if_neg c])⟩
  · intro _ hI
    rw [List.drop_length] at hI
    rw [hI]
    exact ev_end (fun k => by simp only [spec_l06Bucket.l0]; rw [if_neg (by omega)]; rfl)
theorem specKind_ev (D : List S50) (B : List S108) (id : Int) (hD : D.length ≤ 9223372036854775807) (hB : B.length ≤ 9223372036854775807) : Ev (fun k => spec_l06Kind.f k D B id) (kindAt D B id) := by
  unfold spec_l06Kind.f
  have hk : kindAt D B id = if 0 ≤ devAt D id then 0 else if bucketAt B id < 0 then -1 else (rd_T108 B (bucketAt B id)).f1 := rfl
  refine Ev.bind (specDevice_ev D B id hD) ?_
  by_cases c : 0 ≤ devAt D id
  · rw [hk, if_pos c]
    simp only [show devAt D id ≥ 0 from c, if_true]
    exact Ev.now _
  · rw [hk, if_neg c]
    simp only [show ¬ (devAt D id ≥ 0) from c, if_false]
    refine Ev.bind (specBucket_ev D B id hB) ?_
    by_cases c2 : bucketAt B id < 0
    · rw [if_pos c2]
      simp only [show ¬ (bucketAt B id ≥ 0) by omega, if_false]
      exact Ev.now _
    · rw [if_neg c2]
      have := bucketAt_lt B id (by omega)
      simp only [show bucketAt B id ≥ 0 by omega, show 0 ≤ bucketAt B id by omega, this, if_true]
      exact Ev.now _
/-! numbers, each once -/
theorem mem_addOnce (acc : List Int) (x y : Int) : y ∈ addOnce acc x ↔ y ∈ acc ∨ y = x := by
  unfold addOnce
  split
  · rename_i h
    rw [List.any_eq_true] at h
    obtain ⟨z, hz, he⟩ := h
    have : z = x := by simpa using he
    subst this
    constructor
    · exact .inl
    · rintro (h | rfl)
      · exact h
      · exact hz
  · simp
theorem mem_fold_once : ∀ (S acc : List Int) (y : Int), y ∈ S.foldl addOnce acc ↔ y ∈ acc ∨ y ∈ S
  | [], acc, y => by simp
  | x :: S, acc, y => by
    rw [List.foldl_cons, mem_fold_once S, mem_addOnce]
    simp only [List.mem_cons]
    constructor
    · rintro ((h | h) | h)
      · exact .inl h
      · exact .inr (.inl h)
      · exact .inr (.inr h)
    · rintro (h | h | h)
      · exact .inl (.inl h)
      · exact .inl (.inr h)
      · exact .inr h
theorem nodup_addOnce (acc : List Int) (x : Int) (h : acc.Nodup) : (addOnce acc x).Nodup := by
  unfold addOnce
  split
  · exact h
  · rename_i hn
    rw [List.nodup_append]
    refine ⟨h, by simp, fun a ha b hb => ?_⟩
    simp only [List.mem_singleton] at hb
    subst hb
    intro e
    subst e
    exact hn (by rw [List.any_eq_true]; exact ⟨a, ha, by simp⟩)
theorem nodup_fold_once : ∀ (S acc : List Int), acc.Nodup → (S.foldl addOnce acc).Nodup
  | [], _, h => h
  | x :: S, acc, h => nodup_fold_once S _ (nodup_addOnce acc x h)
theorem mem_once (S : List Int) (y : Int) : y ∈ onceOf S ↔ y ∈ S := by
  unfold onceOf
  rw [mem_fold_once]
  simp
theorem nodup_once (S : List Int) : (onceOf S).Nodup := nodup_fold_once S [] List.nodup_nil
theorem once_one (S : List Int) : (onceOf S).length ≤ 1 ↔ ∀ x ∈ S, ∀ y ∈ S, x = y := by
  have hm := mem_once S
  have hn := nodup_once S
  generalize onceOf S = T at hm hn
  constructor
  · intro h x hx y hy
    match T, h with
    | [], _ => have := (hm x).2 hx; simp at this
    | [z], _ =>
      have h1 := (hm x).2 hx
      have h2 := (hm y).2 hy
      simp only [List.mem_singleton] at h1 h2
      rw [h1, h2]
  · intro h
    match T, hn with
    | [], _ => simp
    | [z], _ => simp
    | z :: z' :: T', hn =>
      have h1 := (hm z).1 (by simp)
      have h2 := (hm z').1 (by simp)
      have e := h z h1 z' h2
      subst e
      simp at hn

end Go.Proofs.Ytkadeelplnkpgaa.Pure

-- text OTreeOk
namespace Go.Proofs.Ytkadeelplnkpgaa.Pure
open Go.RowKit Go.Proofs.Ytkadeelplnkpgaa.Q Go.Proofs.YtkadeelplnkpgaaW.PrintWords Go.Proofs.YtkadeelplnkpgaaW.PrintLast Go.Proofs.YtkadeelplnkpgaaW.PrintMore
set_option linter.unusedVariables false
set_option linter.unusedSimpArgs false

/-! devices -/
def devStep (D : List S50) (i : Nat) : Bool := inB (rd_T50 D i).f0 0 15 && inB (rd_T50 D i).f1 0 8 && !(decide (0 < i) && decide ((rd_T50 D i).f0 ≤ (rd_T50 D ((i : Int) - 1)).f0))
def devsB (D : List S50) : Bool := (List.range D.length).all (devStep D) && decide (D.length ≤ 16)
theorem wrap_down (i : Nat) (h : 0 < i) (hn : i ≤ 9223372036854775807) : wrap64 ((i : Int) - 1) = (i : Int) - 1 := by unfold wrap64; omega
theorem spec_devs_ev (D : List S50) (B : List S108) : Ev (fun k => spec_l06Devices.f k D B) (devsB D) := by
  unfold spec_l06Devices.f devsB
  by_cases h : (D.length : Int) > 16
  · simp only [if_pos h, decide_eq_false (show ¬ (D.length ≤ 16) by omega), Bool.and_false]
    exact Ev.now _
  · simp only [if_neg h, decide_eq_true (show D.length ≤ 16 by omega), Bool.and_true]
    have hu : ∀ (i : Nat), i < D.length → ∀ k, spec_l06Devices.l0 (k + 1) i D B = if devStep D i = true then spec_l06Devices.l0 k ((i + 1 : Nat) : Int) D B else some false := fun i hi k => by
      simp only [spec_l06Devices.l0]
      rw [if_pos (by omega), if_pos (by omega), in_inB, in_inB, up64 i D.length hi (by omega)]
      simp only [Option.bind_some]
      unfold devStep
      cases inB (rd_T50 D i).f0 0 15 with
      | false => simp
      | true =>
        cases inB (rd_T50 D i).f1 0 8 with
        | false => simp
        | true =>
          by_cases c : 0 < i
          · rw [if_pos rfl, if_pos rfl, if_pos (by omega), wrap_down i c (by omega), if_pos (by omega), if_pos (by omega)]
            by_cases c2 : (rd_T50 D i).f0 ≤ (rd_T50 D ((i : Int) - 1)).f0 <;> simp [c, c2]
          · rw [if_pos rfl, if_pos rfl, if_neg (by omega)]
            simp [c]
    exact all_loop D.length (fun k i => spec_l06Devices.l0 k i D B) (devStep D) (fun i hi hc => ev_next (fun k => by rw [hu i hi k, if_pos hc])) (fun i hi hc => ev_end (fun k => by rw [hu i hi k, if_neg (by rw [hc]; decide)])) (fun k => by simp only [spec_l06Devices.l0]; rw [if_neg (by omega)])
theorem isNode_inB (a : Int) : impl_isNode.f a = some (inB a 0 15) := by
  unfold impl_isNode.f
  rw [between_inB]; rfl
theorem impl_devs_ev (D : List S50) (B : List S108) (hD : D.length ≤ 9223372036854775807) : Ev (fun k => impl_Tree_devicesOk.f k D B) (devsB D) := by
  have hu : ∀ (i : Nat), i < D.length → ∀ k, impl_Tree_devicesOk.l0 (k + 1) D D.length i D B = if devStep D i = true then impl_Tree_devicesOk.l0 k D D.length ((i + 1 : Nat) : Int) D B else some false := fun i hi k => by
    simp only [impl_Tree_devicesOk.l0]
    rw [if_pos (by omega), if_pos (by omega), if_pos (by omega), isNode_inB, up64 i D.length hi hD]
    simp only [Option.bind_some, between_inB]
    unfold devStep
    cases inB (rd_T50 D i).f0 0 15 with
    | false => simp
    | true =>
      by_cases c : 0 < i
      · rw [if_pos rfl, if_pos (by omega), wrap_down i c (by omega), if_pos (by omega), if_pos (by omega)]
        by_cases c2 : (rd_T50 D i).f0 ≤ (rd_T50 D ((i : Int) - 1)).f0
        · simp [c, c2]
        · cases inB (rd_T50 D i).f1 0 8 <;> simp [c, c2]
      · rw [if_pos rfl, if_neg (by omega)]
        cases inB (rd_T50 D i).f1 0 8 <;> simp [c]
  refine loop_is D.length (fun k (_ : Unit) i => impl_Tree_devicesOk.l0 k D D.length i D B) (fun i _ => ∀ j, j < i → devStep D j = true) _ ?_ ?_ () (fun j hj => absurd hj (Nat.not_lt_zero j))
  · intro i _ hi hI
    cases hc : devStep D i with
    | true =>
      refine .inr ⟨(), fun j hj => ?_, ev_next (fun k => by rw [hu i hi k, if_pos hc])⟩
      rcases Nat.lt_succ_iff_lt_or_eq.1 hj with h | h
      · exact hI j h
      · rw [h]; exact hc
    | false =>
      left
      have e : devsB D = false := by
        unfold devsB
        have : (List.range D.length).all (devStep D) = false := by
          rw [List.all_eq_false]
          exact ⟨i, by simpa using hi, by simp [hc]⟩
        rw [this, Bool.false_and]
      rw [e]
      exact ev_end (fun k => by rw [hu i hi k, if_neg (by rw [hc]; decide)])
  · intro _ hI
    have e : devsB D = decide ((D.length : Int) ≤ 16) := by
      unfold devsB
      have : (List.range D.length).all (devStep D) = true := by
        rw [List.all_eq_true]
        intro j hj
        exact hI j (by simpa using hj)
      rw [this, Bool.true_and]
      exact decide_eq_decide.2 (by omega)
    rw [e]
    exact ev_end (fun k => by simp only [impl_Tree_devicesOk.l0]; rw [if_neg (by omega)])
/-! buckets -/
def bktStep (B : List S108) (i : Nat) : Bool := inB (rd_T108 B i).f0 (-12) (-1) && inB (rd_T108 B i).f1 1 3 && decide ((rd_T108 B i).f2.length ≤ 8) && !(decide (0 < i) && decide ((rd_T108 B ((i : Int) - 1)).f0 ≤ (rd_T108 B i).f0))
def bktsB (B : List S108) : Bool := (List.range B.length).all (bktStep B) && decide (B.length ≤ 12)
theorem spec_bkts_ev (D : List S50) (B : List S108) : Ev (fun k => spec_l06Buckets.f k D B) (bktsB B) := by
  unfold spec_l06Buckets.f bktsB
  by_cases h : (B.length : Int) > 12
  · simp only [if_pos h, decide_eq_false (show ¬ (B.length ≤ 12) by omega), Bool.and_false]
    exact Ev.now _
  · simp only [if_neg h, decide_eq_true (show B.length ≤ 12 by omega), Bool.and_true]
    have hu : ∀ (i : Nat), i < B.length → ∀ k, spec_l06Buckets.l0 (k + 1) i D B = if bktStep B i = true then spec_l06Buckets.l0 k ((i + 1 : Nat) : Int) D B else some false := fun i hi k => by
      simp only [spec_l06Buckets.l0]
      rw [if_pos (by omega), if_pos (by omega), in_inB, in_inB, up64 i B.length hi (by omega)]
      simp only [Option.bind_some]
      unfold bktStep
      cases inB (rd_T108 B i).f0 (-12) (-1) with
      | false => simp
      | true =>
        cases inB (rd_T108 B i).f1 1 3 with
        | false => simp
        | true =>
          rw [if_pos rfl, if_pos rfl]
          by_cases c8 : (rd_T108 B i).f2.length ≤ 8
          · rw [if_neg (by omega)]
            by_cases c : 0 < i
            · rw [if_pos (by omega), wrap_down i c (by omega), if_pos (by omega), if_pos (by omega)]
              by_cases c2 : (rd_T108 B ((i : Int) - 1)).f0 ≤ (rd_T108 B i).f0 <;> simp [c, c2, c8]
            · rw [if_neg (by omega)]
              simp [c, c8]
          · rw [if_pos (by omega)]
            simp [c8]
    exact all_loop B.length (fun k i => spec_l06Buckets.l0 k i D B) (bktStep B) (fun i hi hc => ev_next (fun k => by rw [hu i hi k, if_pos hc])) (fun i hi hc => ev_end (fun k => by rw [hu i hi k, if_neg (by rw [hc]; decide)])) (fun k => by simp only [spec_l06Buckets.l0]; rw [if_neg (by omega)])
/-! nothing twice -/
def onceGo (B : List S108) : Nat → Int → List Int → Bool
  | 0, _, _ => true
  | d + 1, i, u => match useGo u (rd_T108 B i).f2 with | some u' => onceGo B d (i + 1) u' | none => false
def onceTail (B : List S108) (d : Nat) (i : Int) (u items : List Int) : Bool := match useGo u items with | some u' => onceGo B d (i + 1) u' | none => false
def onceB (B : List S108) : Bool := onceGo B B.length 0 []
theorem useGo_cons (u : List Int) (x : Int) (xs : List Int) : useGo u (x :: xs) = if (u.any fun y => y == x) = true then none else useGo (u ++ [x]) xs := rfl
theorem useGo_length : ∀ (items u u' : List Int), useGo u items = some u' → u' = u ++ items
  | [], u, u', h => by simp only [useGo, Option.some.injEq] at h; simp [h]
  | x :: xs, u, u', h => by
    unfold useGo at h
    split at h
    · cases h
    · rw [useGo_length xs _ _ h]; simp
theorem spec_once_ev (D : List S50) (B : List S108) (hB : B.length ≤ 12) (hI : ∀ x ∈ B, x.f2.length ≤ 8) : Ev (fun k => spec_l06Once.f k D B) (onceB B) := by
  refine loop_is B.length (fun k (u : List Int) i => spec_l06Once.l0 k u i D B) (fun i u => u.length ≤ 8 * i ∧ onceB B = onceGo B (B.length - i) i u) _ ?_ ?_ [] ⟨by simp, rfl⟩
  · rintro i u hi ⟨hu, hT⟩
    have hx := hI B[i] (List.getElem_mem hi)
    have hT1 : onceB B = onceTail B (B.length - (i + 1)) i u B[i].f2 := by
      rw [hT, show B.length - i = (B.length - (i + 1)) + 1 from by omega]
      unfold onceTail
      rw [← rd_bkt B i hi]
      rfl
    -- the inner loop
    have hinner : ∀ (r : Bool), (∀ u', useGo u B[i].f2 = some u' → Ev (fun k => spec_l06Once.l0 k u' ((i + 1 : Nat) : Int) D B) r) → (useGo u B[i].f2 = none → r = false) → Ev (fun k => spec_l06Once.l1 k u i 0 D B) r := by
      intro r hgood hbad
      refine loop_is B[i].f2.length (fun k (v : List Int) j => spec_l06Once.l1 k v i j D B) (fun j v => v.length = u.length + j ∧ useGo u B[i].f2 = useGo v (B[i].f2.drop j)) _ ?_ ?_ u ⟨by simp, by simp⟩
      · rintro j v hj ⟨hv, hG⟩
        have hd : B[i].f2.drop j = B[i].f2[j] :: B[i].f2.drop (j + 1) := List.drop_eq_getElem_cons hj
        have hstep : ∀ q, Ev (fun k => if (v.any fun y => y == B[i].f2[j]) = true then some false else (if v.length < 17592186044416 then spec_l06Once.l1 k (v ++ [B[i].f2[j]]) i ((j + 1 : Nat) : Int) D B else none)) q → Ev (fun k => spec_l06Once.l1 k v i j D B) q := fun q hq => by
          refine Ev.step (f := ?f) (fun k => ?_) ?_
          rotate_left
          · simp only [spec_l06Once.l1]
            rw [if_pos (by omega), if_pos (by omega), rd_bkt B i hi, if_pos (by omega), if_pos (by omega), rd_get _ j hj, up64 j B[i].f2.length hj (by omega)]
            all_goals exact rfl
          · exact Ev.bind (has_ev v _ (by omega)) hq
        rw [hd] at hG
        rw [useGo_cons] at hG
        by_cases c : (v.any fun y => y == B[i].f2[j]) = true
        · left
          rw [if_pos c] at hG
          rw [hbad hG]
          exact hstep _ (ev_some fun k => if_pos c)
        · rw [if_neg c] at hG
          exact .inr ⟨v ++ [B[i].f2[j]], ⟨by simp; omega, hG⟩, fun q hq => hstep q (Ev.congr (fun k => by rw [if_neg c, if_pos (by omega)]) hq)⟩
      · rintro v ⟨hv, hG⟩
        rw [List.drop_length] at hG
        refine Ev.step (fun k => ?_) (hgood v hG)
        simp only [spec_l06Once.l1]
        rw [if_pos (by omega), if_pos (by omega), rd_bkt B i hi, if_neg (by omega), up64 i B.length hi (by omega)]
    have hout : ∀ q, Ev (fun k => spec_l06Once.l1 k u i 0 D B) q → Ev (fun k => spec_l06Once.l0 k u i D B) q := fun q hq => Ev.step (fun k => by
      simp only [spec_l06Once.l0]
      rw [if_pos (by omega)]) hq
    cases hc : useGo u B[i].f2 with
    | none =>
      left
      have e : onceB B = false := by rw [hT1]; unfold onceTail; rw [hc]
      rw [e]
      refine hout _ (hinner false (fun u' h => ?_) (fun _ => rfl))
      rw [hc] at h; cases h
    | some u' =>
      have hl := useGo_length _ _ _ hc
      refine .inr ⟨u', ⟨by rw [hl, List.length_append]; omega, ?_⟩, fun q hq => hout q (hinner q (fun v h => ?_) (fun h => ?_))⟩
      · rw [hT1]; unfold onceTail; rw [hc]; rfl
      · rw [hc] at h
        obtain rfl := Option.some.inj h
        exact hq
      · rw [hc] at h; cases h
  · rintro u ⟨hu, hT⟩
    rw [hT, Nat.sub_self]
    exact ev_end (fun k => by simp only [spec_l06Once.l0]; rw [if_neg (by omega)]; rfl)

/-! what lies in a bucket -/
def fitOne (D : List S50) (B : List S108) (kd : Int) (items : List Int) (x : Int) : Bool := if kd < 3 then kindAt D B x == kd - 1 else kindAt D B x == kindAt D B (rd items 0) && (kindAt D B x == 1 || kindAt D B x == 2)
def fitsB (D : List S50) (B : List S108) (kd : Int) (items : List Int) : Bool := (List.range items.length).all fun j => fitOne D B kd items (rd items j)
theorem spec_fits_ev (D : List S50) (B : List S108) (hD : D.length ≤ 9223372036854775807) (hB : B.length ≤ 9223372036854775807) (id kd : Int) (items : List Int) (h1 : 1 ≤ kd) (h3 : kd ≤ 3) (hl : items.length ≤ 9223372036854775807) : Ev (fun k => spec_l06Fits.f k D B id kd items) (fitsB D B kd items) := by
  have hmain : ∀ (j : Nat), j < items.length → ∀ r, (fitOne D B kd items (rd items j) = true → Ev (fun k => spec_l06Fits.l0 k ((j + 1 : Nat) : Int) D B id kd items) r) → (fitOne D B kd items (rd items j) = false → r = false) → Ev (fun k => spec_l06Fits.l0 k j D B id kd items) r := by
    intro j hj r hgood hbad
    have hw : wrap64 (kd - 1) = kd - 1 := by unfold wrap64; omega
    refine Ev.step (f := ?f) (fun k => ?_) ?_
    rotate_left
    · simp only [spec_l06Fits.l0]
      rw [if_pos (by omega), if_pos (by omega)]
      all_goals exact rfl
    · refine Ev.bind (specKind_ev D B _ hD hB) ?_
      by_cases ck : kd < 3
      · simp only [if_pos ck, hw]
        refine Ev.step (f := ?g) (fun k => ?_) ?_
        rotate_left
        · simp only [spec_l06Fits.j1]
          exact rfl
        · unfold fitOne at hgood hbad
          rw [if_pos ck] at hgood hbad
          by_cases c : kindAt D B (rd items j) = kd - 1
          · refine Ev.congr (fun k => ?_) (hgood (by simpa using c))
            rw [if_neg (by simp [c]), if_neg (by omega), up64 j items.length hj hl]
          · have e := hbad (by simpa using c)
            subst e
            refine ev_some (fun k => ?_)
            rw [if_pos (by simpa using c)]
      · simp only [if_neg ck]
        refine Ev.step (f := ?g2) (fun k => ?_) ?_
        rotate_left
        · simp only [spec_l06Fits.j1]
          exact rfl
        · simp only [Bool.false_eq_true, if_false, show kd = 3 by omega, if_true, show (0 : Int) < (items.length : Int) by omega]
          unfold fitOne at hgood hbad
          rw [if_neg ck] at hgood hbad
          refine Ev.bind (specKind_ev D B _ hD hB) ?_
          by_cases c0 : kindAt D B (rd items j) = kindAt D B (rd items 0)
          · by_cases c1 : kindAt D B (rd items j) = 1
            · refine Ev.congr (fun k => ?_) (hgood (by simp [← c0, c1]))
              rw [if_pos c0, if_pos c1, up64 j items.length hj hl, show kd = 3 by omega]
            · by_cases c2 : kindAt D B (rd items j) = 2
              · refine Ev.congr (fun k => ?_) (hgood (by simp [← c0, c2]))
                rw [if_pos c0, if_neg c1, if_pos c2, up64 j items.length hj hl, show kd = 3 by omega]
              · have e := hbad (by simp [c1, c2])
                subst e
                exact ev_some fun k => by rw [if_pos c0, if_neg c1, if_neg c2]
          · have e := hbad (by simp [c0])
            subst e
            exact ev_some fun k => by rw [if_neg c0]
  exact all_loop items.length (fun k j => spec_l06Fits.l0 k j D B id kd items) (fun j => fitOne D B kd items (rd items j)) (fun j hj hc r hr => hmain j hj r (fun _ => hr) (fun h => by rw [hc] at h; cases h)) (fun j hj hc => hmain j hj false (fun h => by rw [hc] at h; cases h) (fun _ => rfl)) (fun k => by simp only [spec_l06Fits.l0]; rw [if_neg (by omega)])
theorem range_all (items : List Int) (p : Int → Bool) : ((List.range items.length).all fun j => p (rd items j)) = items.all p := by
  rw [Bool.eq_iff_iff, List.all_eq_true, List.all_eq_true]
  constructor
  · intro h x hx
    obtain ⟨j, hj, rfl⟩ := List.mem_iff_getElem.1 hx
    have := h j (by simpa using hj)
    rwa [rd_get items j hj] at this
  · intro h j hj
    have hj' : j < items.length := by simpa using hj
    rw [rd_get items j hj']
    exact h _ (List.getElem_mem hj')
theorem fits_items (D : List S50) (B : List S108) (kd : Int) (items : List Int) (h1 : 1 ≤ kd) (h3 : kd ≤ 3) : fitsB D B kd items = itemsOkB D B kd items := by
  unfold fitsB itemsOkB
  rw [range_all items (fitOne D B kd items)]
  have hw : wrap64 (kd - 1) = kd - 1 := by unfold wrap64; omega
  rw [hw]
  match items with
  | [] => simp
  | x :: xs =>
    rw [if_neg (by simp)]
    have ho := once_one ((x :: xs).map (kindAt D B))
    have hhead : rd (x :: xs) 0 = x := rfl
    unfold fitOne
    rw [hhead]
    have hm : ∀ y, y ∈ (x :: xs).map (kindAt D B) ↔ ∃ z ∈ x :: xs, kindAt D B z = y := fun y => List.mem_map
    generalize hS : (x :: xs).map (kindAt D B) = S at ho hm
    by_cases c1 : 1 < (onceOf S).length
    · rw [if_pos c1]
      rw [Bool.eq_false_iff]
      intro hall
      rw [List.all_eq_true] at hall
      refine absurd (ho.2 ?_) (by omega)
      intro a ha b hb
      obtain ⟨p, hp, rfl⟩ := (hm a).1 ha
      obtain ⟨q, hq, rfl⟩ := (hm b).1 hb
      have h1 := hall p hp
      have h2 := hall q hq
      by_cases ck : kd < 3
      · rw [if_pos ck] at h1 h2
        rw [eq_of_beq h1, eq_of_beq h2]
      · rw [if_neg ck, Bool.and_eq_true] at h1 h2
        rw [eq_of_beq h1.1, eq_of_beq h2.1]
    · rw [if_neg c1]
      have hsame := ho.1 (by omega)
      have hx : kindAt D B x ∈ S := (hm _).2 ⟨x, by simp, rfl⟩
      have hall : ∀ z ∈ x :: xs, kindAt D B z = kindAt D B x := fun z hz => hsame _ ((hm _).2 ⟨z, hz, rfl⟩) _ hx
      have hany : ∀ v : Int, (S.any fun y => y == v) = (kindAt D B x == v) := fun v => by
        rw [Bool.eq_iff_iff, List.any_eq_true]
        constructor
        · rintro ⟨y, hy, e⟩
          rw [hsame _ hx y hy]; exact e
        · intro e
          exact ⟨_, hx, e⟩
      rw [hany, hany, hany]
      by_cases ck : kd < 3
      · rw [if_neg (show ¬ kd = 3 by omega), Bool.eq_iff_iff, List.all_eq_true]
        constructor
        · intro h
          have := h x (by simp)
          rwa [if_pos ck] at this
        · intro h z hz
          rw [if_pos ck, hall z hz]; exact h
      · rw [if_pos (show kd = 3 by omega), Bool.eq_iff_iff, List.all_eq_true]
        constructor
        · intro h
          have := h x (by simp)
          rw [if_neg ck, Bool.and_eq_true] at this
          exact this.2
        · intro h z hz
          rw [if_neg ck, hall z hz, Bool.and_eq_true]
          exact ⟨by simp, h⟩
/-! the whole -/
def allB (D : List S50) (B : List S108) : Nat → Int → Bool
  | 0, _ => true
  | d + 1, i => bktB D B i && allB D B d (i + 1)
theorem treeGo_parts (D : List S50) (B : List S108) : ∀ (d : Nat) (i : Int) (u : List Int), treeGo D B d i u = (allB D B d i && onceGo B d i u)
  | 0, _, _ => rfl
  | d + 1, i, u => by
    have ht : treeGo D B (d + 1) i u = if bktB D B i = true then (match useGo u (rd_T108 B i).f2 with | some u' => treeGo D B d (i + 1) u' | none => false) else false := rfl
    have ho : onceGo B (d + 1) i u = match useGo u (rd_T108 B i).f2 with | some u' => onceGo B d (i + 1) u' | none => false := rfl
    have ha : allB D B (d + 1) i = (bktB D B i && allB D B d (i + 1)) := rfl
    rw [ht, ho, ha]
    cases bktB D B i with
    | false => rfl
    | true =>
      cases useGo u (rd_T108 B i).f2 with
      | none => simp
      | some u' => simp [treeGo_parts D B d (i + 1) u']
theorem allB_all (D : List S50) (B : List S108) : ∀ (d i : Nat), allB D B d i = true ↔ ∀ j, i ≤ j → j < i + d → bktB D B j = true
  | 0, i => by simp [allB]; intro j h1 h2; omega
  | d + 1, i => by
    have ha : allB D B (d + 1) i = (bktB D B i && allB D B d ((i + 1 : Nat) : Int)) := rfl
    rw [ha, Bool.and_eq_true, allB_all D B d (i + 1)]
    constructor
    · rintro ⟨h1, h2⟩ j hj1 hj2
      by_cases e : j = i
      · subst e; exact h1
      · exact h2 j (by omega) (by omega)
    · intro h
      exact ⟨h i (by omega) (by omega), fun j h1 h2 => h j (by omega) (by omega)⟩
theorem bktB_parts (D : List S50) (B : List S108) (i : Nat) : bktB D B i = (bktStep B i && itemsOkB D B (rd_T108 B i).f1 (rd_T108 B i).f2) := by
  unfold bktB bktStep
  have e : decide ((0 : Int) < (i : Int)) = decide (0 < i) := decide_eq_decide.2 (by omega)
  rw [e]
  cases inB (rd_T108 B i).f0 (-12) (-1) <;> cases inB (rd_T108 B i).f1 1 3 <;> cases decide (0 < i) <;> cases decide ((rd_T108 B ((i : Int) - 1)).f0 ≤ (rd_T108 B i).f0) <;> cases decide ((rd_T108 B i).f2.length ≤ 8) <;> rfl
/-- is a topology valid? -/
def treeOkB (D : List S50) (B : List S108) : Bool := devsB D && (decide (B.length ≤ 12) && treeB D B)
theorem fits_all_ev (D : List S50) (B : List S108) (hD : D.length ≤ 16) (hB : B.length ≤ 12) (hS : ∀ j, j < B.length → bktStep B j = true) : Ev (fun k => spec_l06OK.l0 k 0 D B) ((List.range B.length).all fun i => fitsB D B (rd_T108 B i).f1 (rd_T108 B i).f2) := by
  have hst : ∀ (i : Nat), i < B.length → (1 ≤ (rd_T108 B i).f1 ∧ (rd_T108 B i).f1 ≤ 3) ∧ (rd_T108 B i).f2.length ≤ 8 := fun i hi => by
    have := hS i hi
    unfold bktStep inB at this
    simp only [Bool.and_eq_true, decide_eq_true_eq] at this
    exact ⟨this.1.1.2, this.1.2⟩
  have hu : ∀ (i : Nat), i < B.length → ∀ r, Ev (fun k => if fitsB D B (rd_T108 B i).f1 (rd_T108 B i).f2 = true then spec_l06OK.l0 k ((i + 1 : Nat) : Int) D B else some false) r → Ev (fun k => spec_l06OK.l0 k i D B) r := fun i hi r hr => by
    obtain ⟨⟨h1, h3⟩, h8⟩ := hst i hi
    refine Ev.step (f := ?f) (fun k => ?_) ?_
    rotate_left
    · simp only [spec_l06OK.l0]
      rw [if_pos (by omega), if_pos (by omega), up64 i B.length hi (by omega)]
      all_goals exact rfl
    · exact Ev.bind (spec_fits_ev D B (by omega) (by omega) _ _ _ h1 h3 (by omega)) hr
  exact all_loop B.length (fun k i => spec_l06OK.l0 k i D B) _ (fun i hi hc r hr => hu i hi r (Ev.congr (fun k => by rw [if_pos hc]) hr)) (fun i hi hc => hu i hi false (ev_some fun k => by rw [if_neg (by rw [hc]; decide)])) (fun k => by simp only [spec_l06OK.l0]; rw [if_neg (by omega)])
theorem spec_ok_ev (D : List S50) (B : List S108) : Ev (fun k => spec_l06OK.f k D B) (treeOkB D B) := by
  unfold spec_l06OK.f
  refine Ev.bind (spec_devs_ev D B) ?_
  have hj : ∀ r, r = false → Ev (fun k => spec_l06OK.j0 k true D B) r := fun r hr => by
    subst hr
    exact ev_end fun k => by simp only [spec_l06OK.j0]; rw [if_pos trivial]
  unfold treeOkB
  cases hd : devsB D with
  | false =>
    simp only [Bool.false_eq_true, if_false, Bool.false_and]
    exact hj _ rfl
  | true =>
    simp only [if_true, Bool.true_and]
    refine Ev.bind (spec_bkts_ev D B) ?_
    have hparts : treeB D B = (allB D B B.length 0 && onceB B) := treeGo_parts D B B.length 0 []
    have hall := allB_all D B B.length 0
    rw [show ((0 : Nat) : Int) = 0 from rfl] at hall
    have hD : D.length ≤ 16 := by
      unfold devsB at hd
      rw [Bool.and_eq_true] at hd
      exact of_decide_eq_true hd.2
    cases hb : bktsB B with
    | false =>
      simp only [Bool.false_eq_true, if_false]
      refine hj _ ?_
      by_cases c : B.length ≤ 12
      · have : allB D B B.length 0 = false := by
          rw [Bool.eq_false_iff]
          intro h
          have h2 := hall.1 h
          have : bktsB B = true := by
            unfold bktsB
            rw [decide_eq_true c, Bool.and_true, List.all_eq_true]
            intro j hj
            have := h2 j (by omega) (by simpa using hj)
            rw [bktB_parts, Bool.and_eq_true] at this
            exact this.1
          rw [this] at hb; cases hb
        rw [hparts, this]; simp
      · rw [decide_eq_false c, Bool.false_and]
    | true =>
      unfold bktsB at hb
      rw [Bool.and_eq_true, List.all_eq_true] at hb
      have h12 := of_decide_eq_true hb.2
      have hS : ∀ j, j < B.length → bktStep B j = true := fun j hj => hb.1 j (by simpa using hj)
      have h8 : ∀ x ∈ B, x.f2.length ≤ 8 := fun x hx => by
        obtain ⟨j, hj, rfl⟩ := List.mem_iff_getElem.1 hx
        have := hS j hj
        unfold bktStep at this
        simp only [Bool.and_eq_true, decide_eq_true_eq] at this
        rw [rd_bkt B j hj] at this
        exact this.1.2
      simp only [if_true]
      refine Ev.bind (spec_once_ev D B h12 h8) ?_
      rw [decide_eq_true h12, Bool.true_and, hparts]
      cases onceB B with
      | false =>
        rw [Bool.and_false]
        exact hj _ rfl
      | true =>
        rw [Bool.and_true]
        refine Ev.step (f := ?f) (fun k => ?_) ?_
        rotate_left
        · simp only [spec_l06OK.j0]
          exact rfl
        · simp only [Bool.not_true, Bool.false_eq_true, if_false]
          have hf := fits_all_ev D B hD h12 hS
          have e : ((List.range B.length).all fun i => fitsB D B (rd_T108 B i).f1 (rd_T108 B i).f2) = allB D B B.length 0 := by
            rw [Bool.eq_iff_iff, hall, List.all_eq_true]
            have hk : ∀ j, j < B.length → (fitsB D B (rd_T108 B j).f1 (rd_T108 B j).f2 = true ↔ bktB D B j = true) := fun j hj => by
              have hs := hS j hj
              rw [bktB_parts, hs, Bool.true_and]
              unfold bktStep inB at hs
              simp only [Bool.and_eq_true, decide_eq_true_eq] at hs
              rw [fits_items D B _ _ hs.1.1.2.1 hs.1.1.2.2]
            constructor
            · intro h j _ hj
              exact (hk j (by omega)).1 (h j (by simp; omega))
            · intro h j hj
              have hj' : j < B.length := by simpa using hj
              exact (hk j hj').2 (h j (by omega) (by omega))
          rw [e] at hf
          exact hf
theorem impl_ok_ev (D : List S50) (B : List S108) (hD : D.length ≤ 9223372036854775807) (hw : wfTree D B = true) : Ev (fun k => impl_TreeOk.f k D B) (treeOkB D B) := by
  unfold impl_TreeOk.f treeOkB
  simp only [if_pos hw]
  refine Ev.bind (impl_devs_ev D B hD) ?_
  cases devsB D <;> simp <;> first | exact Ev.now _ | exact ev_some fun k => rfl

end Go.Proofs.Ytkadeelplnkpgaa.Pure

-- text OValid
namespace Go.Proofs.Ytkadeelplnkpgaa.Pure
open Go.RowKit Go.Proofs.Ytkadeelplnkpgaa.Q Go.Proofs.YtkadeelplnkpgaaW.PrintWords Go.Proofs.YtkadeelplnkpgaaW.PrintLast Go.Proofs.YtkadeelplnkpgaaW.PrintMore
set_option linter.unusedVariables false
set_option linter.unusedSimpArgs false

/-- what a valid topology holds -/
structure Valid (D : List S50) (B : List S108) : Prop where
  dev : D.length ≤ 16
  bkt : B.length ≤ 12
  devs : ∀ i (h : i < D.length), 0 ≤ D[i].f0 ∧ D[i].f0 ≤ 15 ∧ 0 ≤ D[i].f1 ∧ D[i].f1 ≤ 8
  bkts : ∀ i (h : i < B.length), (-12 ≤ B[i].f0 ∧ B[i].f0 ≤ -1) ∧ (1 ≤ B[i].f1 ∧ B[i].f1 ≤ 3) ∧ B[i].f2.length ≤ 8
  down : ∀ i (h : i + 1 < B.length), B[i + 1].f0 < B[i].f0
  up : ∀ i (h : i + 1 < D.length), D[i].f0 < D[i + 1].f0
  fits : ∀ i (h : i < B.length), ∀ x ∈ B[i].f2, fitOne D B B[i].f1 B[i].f2 x = true
  once : onceB B = true
theorem valid_of (D : List S50) (B : List S108) (h : treeOkB D B = true) : Valid D B := by
  unfold treeOkB at h
  rw [Bool.and_eq_true, Bool.and_eq_true] at h
  obtain ⟨hd, h12, ht⟩ := h
  have h12 := of_decide_eq_true h12
  unfold devsB at hd
  rw [Bool.and_eq_true, List.all_eq_true] at hd
  have h16 := of_decide_eq_true hd.2
  have hparts : treeB D B = (allB D B B.length 0 && onceB B) := treeGo_parts D B B.length 0 []
  rw [hparts, Bool.and_eq_true] at ht
  have hall := (allB_all D B B.length 0).1 ht.1
  have hS : ∀ j, j < B.length → bktStep B j = true ∧ itemsOkB D B (rd_T108 B j).f1 (rd_T108 B j).f2 = true := fun j hj => by
    have := hall j (by omega) (by omega)
    rw [bktB_parts, Bool.and_eq_true] at this
    exact this
  have hdv : ∀ j, j < D.length → devStep D j = true := fun j hj => hd.1 j (by simpa using hj)
  have hk : ∀ i (h : i < B.length), (-12 ≤ B[i].f0 ∧ B[i].f0 ≤ -1) ∧ (1 ≤ B[i].f1 ∧ B[i].f1 ≤ 3) ∧ B[i].f2.length ≤ 8 := fun i h => by
    have := (hS i h).1
    unfold bktStep inB at this
    simp only [Bool.and_eq_true, decide_eq_true_eq] at this
    rw [rd_bkt B i h] at this
    exact ⟨this.1.1.1, this.1.1.2, this.1.2⟩
  refine ⟨h16, h12, ?_, hk, ?_, ?_, ?_, ht.2⟩
  · intro i h
    have := hdv i h
    unfold devStep inB at this
    simp only [Bool.and_eq_true, decide_eq_true_eq] at this
    rw [rd_dev D i h] at this
    exact ⟨this.1.1.1, this.1.1.2, this.1.2.1, this.1.2.2⟩
  · intro i h
    have := (hS (i + 1) h).1
    unfold bktStep at this
    rw [show (((i + 1 : Nat) : Int) - 1) = (i : Int) from by omega, rd_bkt B i (by omega), rd_bkt B (i + 1) h] at this
    simp at this
    omega
  · intro i h
    have := hdv (i + 1) h
    unfold devStep at this
    rw [show (((i + 1 : Nat) : Int) - 1) = (i : Int) from by omega, rd_dev D i (by omega), rd_dev D (i + 1) h] at this
    simp at this
    omega
  · intro i h x hx
    have h2 := (hS i h).2
    rw [rd_bkt B i h] at h2
    have hb := (hk i h).2.1
    rw [← fits_items D B _ _ hb.1 hb.2] at h2
    unfold fitsB at h2
    rw [range_all B[i].f2 (fitOne D B B[i].f1 B[i].f2), List.all_eq_true] at h2
    exact h2 x hx
theorem idx_none {α : Type} (p : α → Bool) (l : List α) (h : ∀ x ∈ l, p x = false) : ∀ (d i : Nat), i + d = l.length → idxFrom p (l.drop i) i = -1
  | 0, i, hd => by
    rw [List.drop_of_length_le (by omega)]; rfl
  | d + 1, i, hd => by
    rw [idx_step p l i (by omega), if_neg (by rw [h _ (List.getElem_mem (by omega))]; decide)]
    exact idx_none p l h d (i + 1) (by omega)
theorem idx_first {α : Type} (p : α → Bool) (l : List α) (n : Nat) (hn : n < l.length) (hp : p l[n] = true) (hb : ∀ j (h : j < n), p l[j] = false) : ∀ (d i : Nat), i + d = n → idxFrom p (l.drop i) i = (n : Int)
  | 0, i, hd => by
    obtain rfl : i = n := by omega
    rw [idx_step p l i hn, if_pos hp]
  | d + 1, i, hd => by
    rw [idx_step p l i (by omega), if_neg (by rw [hb i (by omega)]; decide)]
    exact idx_first p l n hn hp hb d (i + 1) (by omega)
/-- the index found is one that answers -/
theorem idx_hit {α : Type} (p : α → Bool) (l : List α) : ∀ (d i : Nat), i + d = l.length → idxFrom p (l.drop i) i = -1 ∨ ∃ n, ∃ (h : n < l.length), idxFrom p (l.drop i) i = (n : Int) ∧ p l[n] = true
  | 0, i, hd => by
    left
    rw [List.drop_of_length_le (by omega)]; rfl
  | d + 1, i, hd => by
    rw [idx_step p l i (by omega)]
    by_cases c : p (l[i]'(by omega)) = true
    · rw [if_pos c]
      exact .inr ⟨i, by omega, rfl, c⟩
    · rw [if_neg c]
      exact idx_hit p l d (i + 1) (by omega)
theorem bucketAt_hit (B : List S108) (id : Int) : bucketAt B id = -1 ∨ ∃ n, ∃ (h : n < B.length), bucketAt B id = (n : Int) ∧ B[n].f0 = id := by
  rcases idx_hit (fun x : S108 => x.f0 == id) B B.length 0 (by omega) with h | ⟨n, hn, h1, h2⟩
  · exact .inl h
  · exact .inr ⟨n, hn, h1, by simpa using h2⟩
theorem devAt_hit (D : List S50) (id : Int) : devAt D id = -1 ∨ ∃ n, ∃ (h : n < D.length), devAt D id = (n : Int) ∧ D[n].f0 = id := by
  rcases idx_hit (fun x : S50 => x.f0 == id) D D.length 0 (by omega) with h | ⟨n, hn, h1, h2⟩
  · exact .inl h
  · exact .inr ⟨n, hn, h1, by simpa using h2⟩
theorem down_lt {D : List S50} {B : List S108} (V : Valid D B) : ∀ (d i : Nat) (h : i + d + 1 < B.length), B[i + d + 1].f0 < B[i].f0
  | 0, i, h => V.down i h
  | d + 1, i, h => by
    have h1 := down_lt V d i (by omega)
    have h2 := V.down (i + d + 1) h
    exact Int.lt_trans h2 h1
theorem down_of {D : List S50} {B : List S108} (V : Valid D B) (i j : Nat) (hij : i < j) (h : j < B.length) : B[j].f0 < B[i].f0 := by
  obtain ⟨d, rfl⟩ : ∃ d, j = i + d + 1 := ⟨j - i - 1, by omega⟩
  exact down_lt V d i h
theorem bucketAt_own {D : List S50} {B : List S108} (V : Valid D B) (n : Nat) (hn : n < B.length) : bucketAt B B[n].f0 = (n : Int) :=
  idx_first (fun x : S108 => x.f0 == B[n].f0) B n hn (by simp) (fun j hj => by
    have := down_of V j n hj hn
    have : ¬ B[j].f0 = B[n].f0 := by omega
    simpa using this) n 0 (by omega)
theorem devAt_none {D : List S50} {B : List S108} (V : Valid D B) (id : Int) (h : id < 0) : devAt D id = -1 := by
  rcases devAt_hit D id with e | ⟨n, hn, _, e⟩
  · exact e
  · have := V.devs n hn
    omega
theorem kindAt_own {D : List S50} {B : List S108} (V : Valid D B) (n : Nat) (hn : n < B.length) : kindAt D B B[n].f0 = B[n].f1 := by
  have hk : kindAt D B B[n].f0 = if 0 ≤ devAt D B[n].f0 then 0 else if bucketAt B B[n].f0 < 0 then -1 else (rd_T108 B (bucketAt B B[n].f0)).f1 := rfl
  rw [hk, devAt_none V _ (by have := V.bkts n hn; omega), bucketAt_own V n hn, if_neg (by omega), if_neg (by omega), rd_bkt B n hn]
theorem kindAt_le {D : List S50} {B : List S108} (V : Valid D B) (id : Int) : -1 ≤ kindAt D B id ∧ kindAt D B id ≤ 3 := by
  have hk : kindAt D B id = if 0 ≤ devAt D id then 0 else if bucketAt B id < 0 then -1 else (rd_T108 B (bucketAt B id)).f1 := rfl
  rw [hk]
  split
  · omega
  · split
    · omega
    · rcases bucketAt_hit B id with e | ⟨n, hn, e, _⟩
      · omega
      · rw [e, rd_bkt B n hn]
        have := V.bkts n hn
        omega
/-- a kind of a bucket is a bucket's -/
theorem kindAt_bucket {D : List S50} {B : List S108} (V : Valid D B) (id : Int) (h : 1 ≤ kindAt D B id) : ∃ n, ∃ (h : n < B.length), bucketAt B id = (n : Int) ∧ B[n].f0 = id ∧ id < 0 ∧ kindAt D B id = B[n].f1 := by
  have hk : kindAt D B id = if 0 ≤ devAt D id then 0 else if bucketAt B id < 0 then -1 else (rd_T108 B (bucketAt B id)).f1 := rfl
  rw [hk] at h
  split at h
  · omega
  · split at h
    · omega
    · rcases bucketAt_hit B id with e | ⟨n, hn, e, e2⟩
      · omega
      · refine ⟨n, hn, e, e2, ?_, ?_⟩
        · have := V.bkts n hn; omega
        · rw [← e2]; exact kindAt_own V n hn
/-- what lies in a bucket is of a lower kind -/
theorem item_kind {D : List S50} {B : List S108} (V : Valid D B) (n : Nat) (hn : n < B.length) (x : Int) (hx : x ∈ B[n].f2) : 0 ≤ kindAt D B x ∧ kindAt D B x < B[n].f1 := by
  have h := V.fits n hn x hx
  have hb := (V.bkts n hn).2.1
  unfold fitOne at h
  by_cases c : B[n].f1 < 3
  · rw [if_pos c] at h
    have := eq_of_beq h
    omega
  · rw [if_neg c, Bool.and_eq_true, Bool.or_eq_true] at h
    rcases h.2 with h | h
    · have := eq_of_beq h; omega
    · have := eq_of_beq h; omega
end Go.Proofs.Ytkadeelplnkpgaa.Pure

-- text ORise
namespace Go.Proofs.Ytkadeelplnkpgaa.Pure
open Go.RowKit Go.Proofs.YtkadeelplnkpgaaW.PrintWords Go.Proofs.YtkadeelplnkpgaaW.PrintLast Go.Proofs.YtkadeelplnkpgaaW.PrintMore
set_option linter.unusedVariables false
set_option linter.unusedSimpArgs false

def Rise (l : List Int) : Prop := l.Pairwise (· < ·)
theorem rise_ext : ∀ (a b : List Int), Rise a → Rise b → (∀ x, x ∈ a ↔ x ∈ b) → a = b
  | [], [], _, _, _ => rfl
  | [], y :: b, _, _, h => absurd ((h y).2 (by simp)) (by simp)
  | x :: a, [], _, _, h => absurd ((h x).1 (by simp)) (by simp)
  | x :: a, y :: b, ha, hb, h => by
    obtain ⟨ha1, ha2⟩ := List.pairwise_cons.1 ha
    obtain ⟨hb1, hb2⟩ := List.pairwise_cons.1 hb
    have hxy : x = y := by
      rcases List.mem_cons.1 ((h x).1 (by simp)) with e | e
      · exact e
      · rcases List.mem_cons.1 ((h y).2 (by simp)) with e2 | e2
        · exact e2.symm
        · have := ha1 y e2
          have := hb1 x e
          omega
    subst hxy
    congr 1
    refine rise_ext a b ha2 hb2 (fun z => ⟨fun hz => ?_, fun hz => ?_⟩)
    · rcases List.mem_cons.1 ((h z).1 (List.mem_cons_of_mem _ hz)) with e | e
      · have := ha1 z hz
        omega
      · exact e
    · rcases List.mem_cons.1 ((h z).2 (List.mem_cons_of_mem _ hz)) with e | e
      · have := hb1 z hz
        omega
      · exact e
/-- a number put to its place, once -/
def putR : List Int → Int → List Int
  | [], n => [n]
  | x :: xs, n => if x < n then x :: putR xs n else if x = n then x :: xs else n :: x :: xs
theorem mem_putR (y n : Int) : ∀ l, y ∈ putR l n ↔ y = n ∨ y ∈ l
  | [] => by simp [putR]
  | x :: xs => by
    unfold putR
    by_cases c : x < n
    · rw [if_pos c, List.mem_cons, mem_putR y n xs, List.mem_cons]
      constructor
      · rintro (h | h | h)
        · exact .inr (.inl h)
        · exact .inl h
        · exact .inr (.inr h)
      · rintro (h | h | h)
        · exact .inr (.inl h)
        · exact .inl h
        · exact .inr (.inr h)
    · rw [if_neg c]
      by_cases c2 : x = n
      · rw [if_pos c2]
        subst c2
        simp
      · rw [if_neg c2]
        simp
theorem rise_putR (n : Int) : ∀ l, Rise l → Rise (putR l n)
  | [], _ => by simp [putR, Rise]
  | x :: xs, h => by
    obtain ⟨h1, h2⟩ := List.pairwise_cons.1 h
    unfold putR
    by_cases c : x < n
    · rw [if_pos c]
      refine List.pairwise_cons.2 ⟨fun y hy => ?_, rise_putR n xs h2⟩
      rcases (mem_putR y n xs).1 hy with rfl | hy
      · exact c
      · exact h1 y hy
    · rw [if_neg c]
      by_cases c2 : x = n
      · rw [if_pos c2]; exact h
      · rw [if_neg c2]
        refine List.pairwise_cons.2 ⟨fun y hy => ?_, h⟩
        rcases List.mem_cons.1 hy with rfl | hy
        · omega
        · have := h1 y hy
          omega
theorem putR_length (n : Int) : ∀ l, (putR l n).length ≤ l.length + 1
  | [] => by simp [putR]
  | x :: xs => by
    unfold putR
    have := putR_length n xs
    split
    · simp; omega
    · split <;> simp
theorem fold_putR : ∀ (l acc : List Int), Rise acc → Rise (l.foldl putR acc) ∧ (∀ y, y ∈ l.foldl putR acc ↔ y ∈ acc ∨ y ∈ l) ∧ (l.foldl putR acc).length ≤ acc.length + l.length
  | [], acc, h => ⟨h, by simp, by simp⟩
  | x :: l, acc, h => by
    obtain ⟨h1, h2, h3⟩ := fold_putR l (putR acc x) (rise_putR x acc h)
    refine ⟨h1, fun y => ?_, ?_⟩
    · rw [List.foldl_cons, h2 y, mem_putR, List.mem_cons]
      constructor
      · rintro ((h | h) | h)
        · exact .inr (.inl h)
        · exact .inl h
        · exact .inr (.inr h)
      · rintro (h | h | h)
        · exact .inl (.inr h)
        · exact .inl (.inl h)
        · exact .inr h
    · have := putR_length x acc
      rw [List.foldl_cons]
      simp only [List.length_cons]
      omega
theorem sortI_mem (l : List Int) (x : Int) : x ∈ sortI l ↔ x ∈ l := List.mem_mergeSort
theorem sortI_nodup (l : List Int) (h : l.Nodup) : (sortI l).Nodup := (List.mergeSort_perm l _).nodup_iff.2 h
theorem sortI_rise (l : List Int) (h : l.Nodup) : Rise (sortI l) := by
  have h1 : (sortI l).Pairwise fun a b => decide (a ≤ b) = true := List.pairwise_mergeSort (fun a b c => by simp only [decide_eq_true_eq]; omega) (fun a b => by simp only [Bool.or_eq_true, decide_eq_true_eq]; omega) l
  have h2 : (sortI l).Pairwise (· ≠ ·) := sortI_nodup l h
  exact (List.pairwise_and_iff.2 ⟨h1, h2⟩).imp (fun {a b} h => by have h1 := of_decide_eq_true h.1; have h2 := h.2; omega)
/-- put in one by one, or sorted at the end -/
theorem fold_sort (l : List Int) (h : l.Nodup) : l.foldl putR [] = sortI l := by
  obtain ⟨h1, h2, _⟩ := fold_putR l [] (by simp [Rise])
  exact rise_ext _ _ h1 (sortI_rise l h) (fun x => by rw [h2 x, sortI_mem]; simp)
theorem flatMap_length {α β : Type} (g : α → List β) (c : Nat) : ∀ l : List α, (∀ x ∈ l, (g x).length ≤ c) → (l.flatMap g).length ≤ l.length * c
  | [], _ => by simp
  | x :: xs, h => by
    rw [List.flatMap_cons, List.length_append, List.length_cons, Nat.add_mul, Nat.one_mul]
    have := flatMap_length g c xs (fun y hy => h y (List.mem_cons_of_mem _ hy))
    have := h x (by simp)
    omega
end Go.Proofs.Ytkadeelplnkpgaa.Pure

-- text OUnder
namespace Go.Proofs.Ytkadeelplnkpgaa.Pure
open Go.RowKit Go.Proofs.Ytkadeelplnkpgaa.Q Go.Proofs.YtkadeelplnkpgaaW.PrintWords Go.Proofs.YtkadeelplnkpgaaW.PrintLast Go.Proofs.YtkadeelplnkpgaaW.PrintMore
set_option linter.unusedVariables false
set_option linter.unusedSimpArgs false

/-- the devices below a thing, rising -/
def underN (B : List S108) : Nat → Int → List Int
  | 0, id => [id]
  | n + 1, id => if bucketAt B id < 0 then [id] else sortI ((rd_T108 B (bucketAt B id)).f2.flatMap (underN B n))
theorem bucket_kind {D : List S50} {B : List S108} (V : Valid D B) (id : Int) (h : ¬ bucketAt B id < 0) : ∃ j, ∃ (hj : j < B.length), bucketAt B id = (j : Int) ∧ B[j].f0 = id ∧ kindAt D B id = B[j].f1 ∧ rd_T108 B (bucketAt B id) = B[j] := by
  rcases bucketAt_hit B id with e | ⟨j, hj, e, e2⟩
  · omega
  · exact ⟨j, hj, e, e2, by rw [← e2]; exact kindAt_own V j hj, by rw [e]; exact rd_bkt B j hj⟩
theorem kind_dev {D : List S50} {B : List S108} (id : Int) (h : bucketAt B id < 0) (hk : 0 ≤ kindAt D B id) : 0 ≤ devAt D id ∧ kindAt D B id = 0 := by
  have e : kindAt D B id = if 0 ≤ devAt D id then 0 else if bucketAt B id < 0 then -1 else (rd_T108 B (bucketAt B id)).f1 := rfl
  by_cases c : 0 ≤ devAt D id
  · exact ⟨c, by rw [e, if_pos c]⟩
  · rw [e, if_neg c, if_pos h] at hk
    omega
theorem kind_zero {D : List S50} {B : List S108} (V : Valid D B) (id : Int) (h : kindAt D B id = 0) : bucketAt B id < 0 := by
  by_cases c : bucketAt B id < 0
  · exact c
  · obtain ⟨j, hj, _, _, e, _⟩ := bucket_kind V id c
    have := V.bkts j hj
    omega
theorem underN_length {D : List S50} {B : List S108} (V : Valid D B) : ∀ (n : Nat) (id : Int), (underN B n id).length ≤ 8 ^ n
  | 0, id => by simp [underN]
  | n + 1, id => by
    unfold underN
    by_cases c : bucketAt B id < 0
    · rw [if_pos c]
      exact Nat.one_le_pow _ _ (by omega)
    · rw [if_neg c, sortI_length]
      obtain ⟨j, hj, _, _, _, e⟩ := bucket_kind V id c
      rw [e]
      have h8 := (V.bkts j hj).2.2
      have h1 := flatMap_length (underN B n) (8 ^ n) B[j].f2 (fun x _ => underN_length V n x)
      have h2 : B[j].f2.length * 8 ^ n ≤ 8 * 8 ^ n := Nat.mul_le_mul_right _ h8
      rw [Nat.pow_succ, Nat.mul_comm]
      exact Nat.le_trans h1 h2
theorem useGo_nodup : ∀ (items u u' : List Int), useGo u items = some u' → u.Nodup → u'.Nodup
  | [], u, u', h, hn => by
    simp only [useGo, Option.some.injEq] at h
    subst h
    exact hn
  | x :: xs, u, u', h, hn => by
    rw [useGo_cons] at h
    by_cases c : (u.any fun y => y == x) = true
    · rw [if_pos c] at h; cases h
    · rw [if_neg c] at h
      refine useGo_nodup xs (u ++ [x]) u' h ?_
      rw [List.nodup_append]
      refine ⟨hn, by simp, fun a ha b hb e => ?_⟩
      simp only [List.mem_singleton] at hb
      subst hb
      subst e
      exact c (List.any_eq_true.2 ⟨a, ha, by simp⟩)
theorem onceGo_nodup (B : List S108) : ∀ (d i : Nat) (u : List Int), i + d = B.length → onceGo B d (i : Int) u = true → u.Nodup → (u ++ (B.drop i).flatMap (·.f2)).Nodup
  | 0, i, u, hd, _, hn => by
    rw [List.drop_of_length_le (by omega)]
    simpa using hn
  | d + 1, i, u, hd, h, hn => by
    have hi : i < B.length := by omega
    unfold onceGo at h
    rw [rd_bkt B i hi] at h
    cases hu : useGo u B[i].f2 with
    | none => rw [hu] at h; cases h
    | some u' =>
      rw [hu] at h
      have h' : onceGo B d (((i + 1 : Nat)) : Int) u' = true := h
      have := onceGo_nodup B d (i + 1) u' (by omega) h' (useGo_nodup _ _ _ hu hn)
      rw [useGo_length _ _ _ hu] at this
      rw [List.drop_eq_getElem_cons hi, List.flatMap_cons, ← List.append_assoc]
      exact this
theorem once_all {D : List S50} {B : List S108} (V : Valid D B) : (B.flatMap (·.f2)).Nodup := by
  have := onceGo_nodup B B.length 0 [] (by omega) V.once (by simp)
  simpa using this
theorem items_nodup {D : List S50} {B : List S108} (V : Valid D B) (j : Nat) (hj : j < B.length) : B[j].f2.Nodup := (List.pairwise_flatMap.1 (once_all V)).1 _ (List.getElem_mem hj)
theorem items_apart {D : List S50} {B : List S108} (V : Valid D B) (i j : Nat) (hi : i < B.length) (hj : j < B.length) (x : Int) (h1 : x ∈ B[i].f2) (h2 : x ∈ B[j].f2) : i = j := by
  have h := (List.pairwise_flatMap.1 (once_all V)).2
  rw [List.pairwise_iff_getElem] at h
  rcases Nat.lt_trichotomy i j with c | c | c
  · exact absurd rfl (h i j hi hj c x h1 x h2)
  · exact c
  · exact absurd rfl (h j i hj hi c x h2 x h1)
/-- the kinds of a bucket's things are all the same -/
theorem item_kinds {D : List S50} {B : List S108} (V : Valid D B) (j : Nat) (hj : j < B.length) (x y : Int) (hx : x ∈ B[j].f2) (hy : y ∈ B[j].f2) : kindAt D B x = kindAt D B y := by
  have h1 := V.fits j hj x hx
  have h2 := V.fits j hj y hy
  unfold fitOne at h1 h2
  by_cases c : B[j].f1 < 3
  · rw [if_pos c] at h1 h2
    rw [eq_of_beq h1, eq_of_beq h2]
  · rw [if_neg c, Bool.and_eq_true] at h1 h2
    rw [eq_of_beq h1.1, eq_of_beq h2.1]
theorem under_apart {D : List S50} {B : List S108} (V : Valid D B) (x : Int) : ∀ (n : Nat) (a b : Int), kindAt D B a = kindAt D B b → 0 ≤ kindAt D B a → kindAt D B a ≤ 2 → x ∈ underN B n a → x ∈ underN B n b → a = b
  | 0, a, b, _, _, _, ha, hb => by
    simp only [underN, List.mem_singleton] at ha hb
    rw [← ha, hb]
  | n + 1, a, b, hk, h0, h2, ha, hb => by
    unfold underN at ha hb
    by_cases c : bucketAt B a < 0
    · have ka := (kind_dev a c h0).2
      have cb := kind_zero V b (by rw [← hk]; exact ka)
      rw [if_pos c] at ha
      rw [if_pos cb] at hb
      simp only [List.mem_singleton] at ha hb
      rw [← ha, hb]
    · obtain ⟨i, hi, _, ea, ka, ra⟩ := bucket_kind V a c
      have hki := V.bkts i hi
      have cb : ¬ bucketAt B b < 0 := fun cb => by
        have := (kind_dev b cb (by rw [← hk]; exact h0)).2
        omega
      obtain ⟨j, hj, _, eb, kb, rb⟩ := bucket_kind V b cb
      rw [if_neg c, ra, sortI_mem, List.mem_flatMap] at ha
      rw [if_neg cb, rb, sortI_mem, List.mem_flatMap] at hb
      obtain ⟨y, hy, hxy⟩ := ha
      obtain ⟨z, hz, hxz⟩ := hb
      have fy := V.fits i hi y hy
      have fz := V.fits j hj z hz
      unfold fitOne at fy fz
      rw [if_pos (by omega)] at fy fz
      have fy := eq_of_beq fy
      have fz := eq_of_beq fz
      have hyz := under_apart V x n y z (by omega) (by omega) (by omega) hxy hxz
      subst hyz
      have hij := items_apart V i j hi hj y hy hz
      subst hij
      rw [← ea, ← eb]
theorem under_nodup {D : List S50} {B : List S108} (V : Valid D B) : ∀ (n : Nat) (id : Int), (underN B n id).Nodup
  | 0, id => by simp [underN]
  | n + 1, id => by
    unfold underN
    by_cases c : bucketAt B id < 0
    · rw [if_pos c]; simp
    · rw [if_neg c]
      obtain ⟨j, hj, _, _, _, e⟩ := bucket_kind V id c
      rw [e]
      refine sortI_nodup _ (List.pairwise_flatMap.2 ⟨fun a _ => under_nodup V n a, ?_⟩)
      refine List.Pairwise.imp_of_mem (fun {a b} ha hb hab x hx y hy hxy => ?_) (items_nodup V j hj)
      subst hxy
      have ka := item_kind V j hj a ha
      have := (V.bkts j hj).2.1
      exact hab (under_apart V x n a b (item_kinds V j hj a b ha hb) ka.1 (by omega) hx hy)
/-- the things of a bucket, their devices one behind the other: none twice -/
theorem flat_nodup {D : List S50} {B : List S108} (V : Valid D B) (n : Nat) (j : Nat) (hj : j < B.length) : (B[j].f2.flatMap (underN B n)).Nodup := by
  refine List.pairwise_flatMap.2 ⟨fun a _ => under_nodup V n a, ?_⟩
  refine List.Pairwise.imp_of_mem (fun {a b} ha hb hab x hx y hy hxy => ?_) (items_nodup V j hj)
  subst hxy
  have ka := item_kind V j hj a ha
  have := (V.bkts j hj).2.1
  exact hab (under_apart V x n a b (item_kinds V j hj a b ha hb) ka.1 (by omega) hx hy)
theorem under_dev {D : List S50} {B : List S108} (V : Valid D B) : ∀ (n : Nat) (id : Int), 0 ≤ kindAt D B id → kindAt D B id < n → ∀ x ∈ underN B n id, 0 ≤ devAt D x
  | 0, id, h0, h1, _, _ => by omega
  | n + 1, id, h0, h1, x, hx => by
    unfold underN at hx
    by_cases c : bucketAt B id < 0
    · rw [if_pos c] at hx
      simp only [List.mem_singleton] at hx
      subst hx
      exact (kind_dev x c h0).1
    · rw [if_neg c] at hx
      obtain ⟨j, hj, _, _, ek, e⟩ := bucket_kind V id c
      rw [e, sortI_mem, List.mem_flatMap] at hx
      obtain ⟨y, hy, hxy⟩ := hx
      have ky := item_kind V j hj y hy
      exact under_dev V n y ky.1 (by omega) x hxy
end Go.Proofs.Ytkadeelplnkpgaa.Pure

-- text OUnderEv
namespace Go.Proofs.Ytkadeelplnkpgaa.Pure
open Go.RowKit Go.Proofs.Ytkadeelplnkpgaa.Q Go.Proofs.YtkadeelplnkpgaaW.PrintWords Go.Proofs.YtkadeelplnkpgaaW.PrintLast Go.Proofs.YtkadeelplnkpgaaW.PrintMore
set_option linter.unusedVariables false
set_option linter.unusedSimpArgs false

/-- what the reference's put has come to -/
def PutAt (l : List Int) (n : Int) (i : Nat) (s : List Int × Bool) : Prop := s.1 ++ (if s.2 = true then l.drop i else putR (l.drop i) n) = putR l n ∧ s.1.length ≤ i + (if s.2 = true then 1 else 0)
theorem spec_put_ev (l : List Int) (n : Int) (hl : l.length ≤ 17592186044414) : Ev (fun k => spec_l00Put.f k l n) (putR l n) := by
  refine loop_is l.length (fun k (s : List Int × Bool) i => spec_l00Put.l0 k l n s.1 s.2 i) (PutAt l n) _ ?_ ?_ ([], false) ⟨rfl, by simp⟩
  · rintro i ⟨out, done⟩ hi ⟨h1, h2⟩
    simp only at h1 h2
    rw [List.drop_eq_getElem_cons hi] at h1
    cases done with
    | true =>
      simp only [if_true] at h1 h2
      refine .inr ⟨(out ++ [l[i]], true), ⟨by simpa using h1, by simp; omega⟩, fun r hr => Ev.step (f := fun k => spec_l00Put.j1 k l n out true i false) (fun k => ?_) (Ev.step (fun k => ?_) hr)⟩
      · simp only [spec_l00Put.l0]
        rw [if_pos (by omega)]
        rfl
      · simp only [spec_l00Put.j1, Bool.false_eq_true, if_false]
        rw [if_pos (by omega), if_pos (by omega), if_pos (by omega), up64 i l.length hi (by omega), rd_get l i hi]
    | false =>
      simp only [Bool.false_eq_true, if_false] at h1 h2
      simp only [putR] at h1
      have hstep : ∀ r, Ev (fun k => spec_l00Put.j1 k l n out false i (decide (l[i] ≥ n))) r → Ev (fun k => spec_l00Put.l0 k l n out false i) r := fun r hr => Ev.step (fun k => by
        simp only [spec_l00Put.l0]
        simp only [Bool.false_eq_true, if_false]
        rw [if_pos (by omega), if_pos (by omega), rd_get l i hi]) hr
      by_cases c : l[i] < n
      · rw [if_pos c] at h1
        refine .inr ⟨(out ++ [l[i]], false), ⟨by simpa using h1, by simp; omega⟩, fun r hr => hstep r ?_⟩
        rw [decide_eq_false (by omega)]
        refine Ev.step (fun k => ?_) hr
        simp only [spec_l00Put.j1, Bool.false_eq_true, if_false]
        rw [if_pos (by omega), if_pos (by omega), if_pos (by omega), up64 i l.length hi (by omega), rd_get l i hi]
      · rw [if_neg c] at h1
        by_cases c2 : l[i] = n
        · rw [if_pos c2] at h1
          refine .inr ⟨(out ++ [l[i]], true), ⟨by simpa using h1, by simp; omega⟩, fun r hr => hstep r ?_⟩
          rw [decide_eq_true (by omega)]
          refine Ev.step (fun k => ?_) hr
          simp only [spec_l00Put.j1, if_true]
          rw [if_pos (by omega), if_pos (by omega), rd_get l i hi, if_neg (by omega), if_pos (by omega), up64 i l.length hi (by omega)]
        · rw [if_neg c2] at h1
          refine .inr ⟨(out ++ [n] ++ [l[i]], true), ⟨by simpa using h1, ?_⟩, fun r hr => hstep r ?_⟩
          · simp only [List.length_append, List.length_singleton, if_true]; omega
          · rw [decide_eq_true (by omega)]
            refine Ev.step (fun k => ?_) hr
            simp only [spec_l00Put.j1, if_true]
            rw [if_pos (by omega), if_pos (by omega), rd_get l i hi, if_pos (by omega), if_pos (by omega)]
            simp only [Option.bind_some]
            rw [if_pos (by rw [List.length_append, List.length_singleton]; omega), up64 i l.length hi (by omega)]
  · rintro ⟨out, done⟩ ⟨h1, h2⟩
    simp only at h1 h2
    rw [List.drop_length] at h1
    cases done with
    | true =>
      refine ev_end (fun k => ?_)
      simp only [spec_l00Put.l0]
      rw [if_neg (by omega)]
      simp only [if_true, List.append_nil] at h1 ⊢
      rw [h1]
    | false =>
      refine ev_end (fun k => ?_)
      simp only [spec_l00Put.l0]
      simp only [Bool.false_eq_true, if_false, putR] at h1 h2 ⊢
      rw [if_neg (by omega), if_pos (by omega)]
      rw [h1]
theorem kind_neg {D : List S50} {B : List S108} (V : Valid D B) (id : Int) (h : kindAt D B id < 0) : bucketAt B id < 0 := by
  by_cases c : bucketAt B id < 0
  · exact c
  · obtain ⟨j, hj, _, _, e, _⟩ := bucket_kind V id c
    have := V.bkts j hj
    omega
theorem under_flat {D : List S50} {B : List S108} (V : Valid D B) (n : Nat) (j : Nat) (hj : j < B.length) (i : Nat) : ((B[j].f2.take i).flatMap (underN B n)).length ≤ 8 * 8 ^ n := by
  have h8 := (V.bkts j hj).2.2
  have h1 := flatMap_length (underN B n) (8 ^ n) (B[j].f2.take i) (fun x _ => underN_length V n x)
  exact Nat.le_trans h1 (Nat.mul_le_mul_right _ (by rw [List.length_take]; omega))
theorem underL_ev {D : List S50} {B : List S108} (V : Valid D B) (n : Nat) (j : Nat) (hj : j < B.length) (hn : 8 * 8 ^ n ≤ 1048576) (g : Nat → Int → Option (List Int)) (hg : ∀ x ∈ B[j].f2, Ev (fun k => g k x) (underN B n x)) : ∀ (d i : Nat), i + d = B[j].f2.length → Ev (fun k => underL (g k) ((B[j].f2.take i).flatMap (underN B n)) (B[j].f2.drop i)) (B[j].f2.flatMap (underN B n))
  | 0, i, hd => by
    rw [List.drop_of_length_le (by omega), List.take_of_length_le (by omega)]
    exact Ev.now _
  | d + 1, i, hd => by
    have hi : i < B[j].f2.length := by omega
    have h := underL_ev V n j hj hn g hg d (i + 1) (by omega)
    have hb := under_flat V n j hj (i + 1)
    rw [List.drop_eq_getElem_cons hi]
    simp only [underL]
    refine Ev.bind (hg _ (List.getElem_mem hi)) ?_
    rw [List.take_succ_eq_append_getElem hi, List.flatMap_append, List.flatMap_singleton] at h hb
    rw [List.length_append] at hb
    simp only [if_pos (Nat.le_trans hb hn)]
    exact h
theorem impl_under_ev {D : List S50} {B : List S108} (V : Valid D B) : ∀ (n : Nat) (id : Int), n ≤ 5 → kindAt D B id < n → Ev (fun k => impl_Tree_nodesUnder.f k D B id) (underN B n id)
  | 0, id, _, h => by
    refine ev_end (fun k => ?_)
    simp only [impl_Tree_nodesUnder.f]
    rw [if_pos (kind_neg V id (by omega))]
    rfl
  | n + 1, id, h5, h => by
    by_cases c : bucketAt B id < 0
    · refine ev_end (fun k => ?_)
      simp only [impl_Tree_nodesUnder.f, underN]
      rw [if_pos c, if_pos c]
    · obtain ⟨j, hj, _, _, ek, e⟩ := bucket_kind V id c
      have hn : 8 * 8 ^ n ≤ 1048576 := by
        have := Nat.pow_le_pow_right (n := 8) (by omega) (show n ≤ 4 by omega)
        omega
      have hL := underL_ev V n j hj hn (fun k x => impl_Tree_nodesUnder.f k D B x) (fun x hx => impl_under_ev V n x (by omega) (by have := item_kind V j hj x hx; omega)) B[j].f2.length 0 (by omega)
      refine Ev.step (f := ?f) (fun k => ?_) ?_
      rotate_left
      · simp only [impl_Tree_nodesUnder.f]
        rw [if_neg c, e]
        all_goals exact rfl
      · simp only [underN]
        rw [if_neg c, e]
        simp only [Option.map_eq_bind]
        exact Ev.bind hL (Ev.now _)
theorem spec_under_ev {D : List S50} {B : List S108} (V : Valid D B) : ∀ (n : Nat) (id : Int), n ≤ 5 → kindAt D B id < n → Ev (fun k => spec_l06Under.f k D B id) (underN B n id) := fun n id h5 h => by
  have hB := V.bkt
  refine Ev.step (f := fun k => (spec_l06Bucket.f k D B id).bind fun t => if t < 0 then some [id] else spec_l06Under.l0 k t [] 0 D B) (fun k => rfl) ?_
  refine Ev.bind (specBucket_ev D B id (by omega)) ?_
  by_cases c : bucketAt B id < 0
  · simp only [if_pos c]
    have e : underN B n id = [id] := by cases n with
      | zero => rfl
      | succ n => simp only [underN, if_pos c]
    rw [e]
    exact Ev.now _
  · simp only [if_neg c]
    obtain ⟨j, hj, ej, _, ek, e⟩ := bucket_kind V id c
    cases n with
    | zero => have := V.bkts j hj; omega
    | succ n =>
      have hu : underN B (n + 1) id = (B[j].f2.flatMap (underN B n)).foldl putR [] := by
        rw [fold_sort _ (flat_nodup V n j hj)]
        simp only [underN, if_neg c, e]
      have hn : 8 * 8 ^ n ≤ 1048576 := by
        have := Nat.pow_le_pow_right (n := 8) (by omega) (show n ≤ 4 by omega)
        omega
      rw [hu, ej]
      have h8 := (V.bkts j hj).2.2
      refine loop_is B[j].f2.length (fun k (s : List Int) i => spec_l06Under.l0 k j s i D B) (fun i s => s = ((B[j].f2.take i).flatMap (underN B n)).foldl putR []) _ ?_ ?_ [] (by simp)
      · rintro i s hi rfl
        refine .inr ⟨_, rfl, fun r hr => Ev.step (f := ?f) (fun k => ?_) ?_⟩
        rotate_left
        · simp only [spec_l06Under.l0]
          rw [if_pos (by omega), if_pos (by omega), rd_bkt B j hj, if_pos (by omega), if_pos (by omega), rd_get _ i hi]
          all_goals exact rfl
        · refine Ev.bind (spec_under_ev V n _ (by omega) (by have := item_kind V j hj _ (List.getElem_mem hi); omega)) ?_
          rw [List.take_succ_eq_append_getElem hi, List.flatMap_append, List.flatMap_singleton, List.foldl_append] at hr
          have hb : (((B[j].f2.take i).flatMap (underN B n)).foldl putR []).length ≤ 1048576 := by
            have := (fold_putR ((B[j].f2.take i).flatMap (underN B n)) [] (by simp [Rise])).2.2
            have h2 := under_flat V n j hj i
            simp only [List.length_nil] at this
            omega
          have hr0 := (fold_putR ((B[j].f2.take i).flatMap (underN B n)) [] (by simp [Rise])).1
          have ht : (underN B n B[j].f2[i]).length ≤ 1048576 := by have := underN_length V n B[j].f2[i]; omega
          generalize ((B[j].f2.take i).flatMap (underN B n)).foldl putR [] = acc at hr hb hr0 ⊢
          generalize underN B n B[j].f2[i] = t at hr ht ⊢
          refine loop_is t.length (fun k (s : List Int) u => spec_l06Under.l1 k j s i t u D B) (fun u s => s = (t.take u).foldl putR acc) _ ?_ ?_ acc (by simp)
          · rintro u s hu rfl
            refine .inr ⟨_, rfl, fun r hr => Ev.step (f := ?f2) (fun k => ?_) ?_⟩
            rotate_left
            · simp only [spec_l06Under.l1]
              rw [if_pos (by omega), if_pos (by omega), rd_get _ u hu, up64 u t.length hu (by omega)]
              all_goals exact rfl
            · have hl : ((t.take u).foldl putR acc).length ≤ 17592186044414 := by
                have := (fold_putR (t.take u) acc hr0).2.2
                rw [List.length_take] at this
                omega
              refine Ev.bind (spec_put_ev _ _ hl) ?_
              rw [List.take_succ_eq_append_getElem hu, List.foldl_append] at hr
              exact hr
          · rintro s rfl
            refine Ev.step (fun k => ?_) hr
            simp only [spec_l06Under.l1]
            rw [if_neg (by omega), up64 i B[j].f2.length hi (by omega), List.take_length]
      · rintro s rfl
        refine ev_end (fun k => ?_)
        simp only [spec_l06Under.l0]
        rw [if_pos (by omega), if_pos (by omega), rd_bkt B j hj, if_neg (by omega), List.take_length]
end Go.Proofs.Ytkadeelplnkpgaa.Pure

-- text Qf63
namespace Go.Proofs.Ytkadeelplnkpgaa.Q
open Go.RowKit Go.Proofs.YtkadeelplnkpgaaW.PrintWords Go.Proofs.YtkadeelplnkpgaaW.PrintLast Go.Proofs.YtkadeelplnkpgaaW.PrintMore
attribute [local go_sem] max2_int min2_int max_two min_two max_three min_three max_four min_four   -- for this text's walks alone
set_option linter.unusedVariables false
set_option linter.unusedSimpArgs false

/-! ### spec_l06Weight: function 63 -/
def spec_l06Weight.l0 : Nat → List Int → Int → Int → List (S50) → List (S108) → Option (Int)
  | 0, _, _, _, _, _ => none
  | k + 1, x5, x6, x7, x406000, x406001 => if x7 < (x5.length : Int) then (if 0 ≤ x7 then ((spec_l06Device.f k x406000 x406001 (rd x5 x7)).bind fun t410 => (if 0 ≤ t410 then (if t410 < (x406000.length : Int) then (spec_l06Weight.l0 k x5 (wrap64 (x6 + ((rd_T50 x406000 t410).f1))) (wrap64 (x7 + 1)) x406000 x406001) else (none)) else (none))) else (none)) else (some x6)
def spec_l06Weight.f (k : Nat) (l0_0 : List (S50)) (l0_1 : List (S108)) (a1 : Int) : Option (Int) := (spec_l06Under.f k l0_0 l0_1 a1).bind fun t406 => (spec_l06Weight.l0 k t406 0 0 l0_0 l0_1)
def spec_l06Weight.T6 : Bool × List (List Nat × List Nat) := (true, [([], []), ([], []), ([1], [1]), ([], []), ([], []), ([], []), ([4, 5], [4, 5]), ([6], [6]), ([3, 7], [3, 7]), ([2, 8], [2, 8]), ([9], [9]), ([10], [10]), ([0, 11], [0, 11]), ([12, 8, 0, 1, 2, 3, 4, 5, 6, 7, 8, 9, 10, 11, 12], [0, 12])])
def spec_l06Weight.B6 : List Nat := [0, 0, 2, 0, 0, 0, 48, 112, 248, 510, 1022, 2046, 4095, 8191]
theorem spec_l06Weight.tab6 : rtab .any (opsOf Try.f63 6) = spec_l06Weight.T6 := by kernel_rfl
theorem spec_l06Weight.bits6 : waitsOk spec_l06Weight.T6.2 spec_l06Weight.B6 = true := by kernel_rfl
set_option maxHeartbeats 8000000 in
set_option maxRecDepth 100000 in
theorem spec_l06Weight.calls (k : Nat) (A0_0 : Option Addr) (c0_0 : Nat) (l0_0 : List (S50)) (A0_1 : Option Addr) (c0_1 : Nat) (l0_1 : List (S108)) (a1 : Int) (r : Int) (w : World) (hr0_0 : Kd.C k50 w A0_0 l0_0.length l0_0) (hc0_0 : l0_0.length ≤ c0_0) (hr0_1 : Kd.C k108 w A0_1 l0_1.length l0_1) (hc0_1 : l0_1.length ≤ c0_1) (h : spec_l06Weight.f k l0_0 l0_1 a1 = some r) :
    Calls Try.prog 63 #[.agg #[.slice A0_0 l0_0.length c0_0, .slice A0_1 l0_1.length c0_1], .int .i64 a1] w fun e w' => e = .returned (.int .i64 r) ∧ Below w.heap.size w w' := by
  have hu31 := Try.underlying31
  have HR0_0 := Aside0.mk hr0_0
  have HC0_0 := Aside0.mk hc0_0
  clear hr0_0 hc0_0
  have HR0_1 := Aside0.mk hr0_1
  have HC0_1 := Aside0.mk hc0_1
  clear hr0_1 hc0_1
  have HB := Aside0.mk (Below.refl w.heap.size w)
  have H : ((spec_l06Under.f k l0_0 l0_1 a1).bind fun t406 => (spec_l06Weight.l0 k t406 0 0 l0_0 l0_1)) = some r := h
  clear h
  replace H := Option.bind_eq_some_iff.mp H
  obtain ⟨t406, A30, H⟩ := H
  replace H : (spec_l06Weight.l0 k t406 0 0 l0_0 l0_1) = some r := H
  have A3 := Aside0.mk A30
  clear A30
  have H' := Aside0.mk H
  clear H
  go_enter Try.func63, Try.ntmps63
  go_wp2_with (first | ((with_reducible refine gate_dst (N := 2) rfl ?_); refine box_event ?hg (N := 2) ?hd (cs := #[.slice A0_0 l0_0.length c0_0, .slice A0_1 l0_1.length c0_1]) (t := 31) ?hr ?_; (case hd => rfl); (case hg => rfl); (case hr => first | (go_simp; done) | (go_simp; rfl)); intro gb405 hg w4 hbox hb; have n0_ := Aside0.mk (below_step (by repeat first | exact HB.out | apply below_alloc | apply pw_below_drewN | apply below_drew1) hb); have n1_ := Aside0.mk (hbox); have n2_ := Aside0.mk ((by rw [hg]; exact (below_size (by repeat first | exact HB.out | apply below_alloc | apply pw_below_drewN | apply below_drew1)) : w.heap.size ≤ gb405)); have n3_ := Aside0.mk ((by rw [hg]; exact (below_size (by repeat first | exact HB.out | apply below_alloc | apply pw_below_drewN | apply below_drew1)) : w.heap.size ≤ gb405)); clear HB; have HB := n0_; have BK405 := n1_; have GW405 := n2_; have GE405 := n3_; clear n0_ n1_ n2_ n3_; clear hb hbox hg; have hcz5_0 : w4.cell? ⟨gb405, 0, none⟩ = some (.slice A0_0 l0_0.length c0_0) := (blk_cell BK405.out 0).trans rfl; have hcz5_1 : w4.cell? ⟨gb405, 1, none⟩ = some (.slice A0_1 l0_1.length c0_1) := (blk_cell BK405.out 1).trans rfl; have hfz5_0 := blk_frozen BK405.out 0; have hfz5_1 := blk_frozen BK405.out 1) | ((with_reducible refine gate_callee (f := 72) rfl ?_); refine goesL_ (some 10) rfl rfl Try.func72 (by kernel_rfl) rfl #[.agg #[.slice A0_0 l0_0.length c0_0, .slice A0_1 l0_1.length c0_1], .int .i64 a1] rfl (by (try simp only [List.map_toArray, List.map_cons, List.map_nil]); first | done | rfl | (simp only [List.length_drop, List.length_take]; rfl)) ?_; (with_reducible refine (spec_l06Under.calls k _ _ l0_0 _ _ l0_1 a1 t406 _ ?side1 ?side2 ?side3 ?side4 A3.out).mono ?_); (case side1 => repeat (first | exact (Kd.C_below HR0_0.out HB.out) | (with_reducible refine Kd.C_alloc ?_ _) | (with_reducible refine Kd.C_drewN ?_ _) | (with_reducible refine Kd.C_drew ?_))); (case side2 => exact HC0_0.out); (case side3 => repeat (first | exact (Kd.C_below HR0_1.out HB.out) | (with_reducible refine Kd.C_alloc ?_ _) | (with_reducible refine Kd.C_drewN ?_ _) | (with_reducible refine Kd.C_drew ?_))); (case side4 => exact HC0_1.out); rintro e w6 ⟨v407, rfl, ho0, hb⟩; refine ⟨_, rfl, ?_⟩; have n0_ := Aside0.mk (Kd.R_lower ho0 (below_size (by repeat (first | (with_reducible first | exact HB.out | apply below_alloc | apply pw_below_drewN | apply below_drew1 | refine below_set ?_ GE405.out) | exact HB.out)))); have n1_ := Aside0.mk (blk_below (g := gb405) (o := .cells #[.slice A0_0 l0_0.length c0_0, .slice A0_1 l0_1.length c0_1] 31 (0, 0)) (by (with_reducible repeat first | apply blk_drewN | apply blk_drew | apply blk_alloc); exact BK405.out) hb); have n2_ := Aside0.mk (below_step (by repeat (first | (with_reducible first | exact HB.out | apply below_alloc | apply pw_below_drewN | apply below_drew1 | refine below_set ?_ GE405.out) | exact HB.out)) hb); clear BK405; clear HB; have HO408 := n0_; have BK405 := n1_; have HB := n2_; clear n0_ n1_ n2_; (try clear hb); (try clear hb2); (try clear hk); (try clear hi); (try clear ho0)))
  go_loopg [6, 7] k (fun kq v6 v7 w' => ∃ (x6_1 : Int) (x7_1 : Int), v6 = .int .i64 x6_1 ∧ v7 = .int .i64 x7_1 ∧ Aside0 (spec_l06Weight.l0 kq t406 x6_1 x7_1 l0_0 l0_1 = some r) ∧ Aside0 (kq ≤ k) ∧ Aside0 (Kd.R (Kd.int .i64) 2 w' w.heap.size (fun _ => True) v407 t406) ∧ Aside0 (w'.heap[gb405]? = some (.cells #[(.slice A0_0 l0_0.length c0_0), (.slice A0_1 l0_1.length c0_1)] 31 (0, 0))) ∧ Aside0 (Below w.heap.size w w'))
  case atStart => exact ⟨(0), (0), (by first | rfl | (simp; done) | (simp [*]; done)), (by first | rfl | (simp; done) | (simp [*]; done)), H', ⟨Nat.le_refl _⟩, ⟨by (with_reducible repeat (first | apply Kd.R_alloc | apply Kd.R_drewN | apply Kd.R_drew)); exact HO408.out⟩, ⟨by (with_reducible repeat first | apply blk_drewN | apply blk_drew | apply blk_alloc); exact BK405.out⟩, ⟨by repeat (first | (with_reducible first | exact HB.out | apply below_alloc | apply pw_below_drewN | apply below_drew1 | refine below_set ?_ GE405.out) | exact HB.out)⟩⟩
  case round =>
    clear H'
    try clear p2
    try clear c6
    try clear hcz5_0
    try clear hcz5_1
    try clear hfz5_0
    try clear hfz5_1
    obtain ⟨x6_1, x7_1, rfl, rfl, HA, HK1, HO_5, BK405, HB⟩ := hrel
    cases gk with
    | zero => exact absurd HA.out (by simp [spec_l06Weight.l0])
    | succ k1 =>
      have H := HA.out
      clear HA
      simp only [spec_l06Weight.l0] at H
      by_cases c7 : x7_1 < (t406.length : Int)
      · rw [if_pos c7] at H
        have c7b0 : decide (x7_1 < (t406.length : Int)) = true := decide_eq_true c7
        clear c7
        by_cases c8 : 0 ≤ x7_1
        · rw [if_pos c8] at H
          have c8b0 : decide (0 ≤ x7_1) = true := decide_eq_true c8
          clear c8
          replace H := Option.bind_eq_some_iff.mp H
          obtain ⟨t410, A90, H⟩ := H
          replace H : (if 0 ≤ t410 then (if t410 < (l0_0.length : Int) then (spec_l06Weight.l0 k1 t406 (wrap64 (x6_1 + ((rd_T50 l0_0 t410).f1))) (wrap64 (x7_1 + 1)) l0_0 l0_1) else (none)) else (none)) = some r := H
          have A9 := Aside0.mk A90
          clear A90
          by_cases c10 : 0 ≤ t410
          · rw [if_pos c10] at H
            have c10b0 : decide (0 ≤ t410) = true := decide_eq_true c10
            clear c10
            by_cases c11 : t410 < (l0_0.length : Int)
            · rw [if_pos c11] at H
              have c11b0 : decide (t410 < (l0_0.length : Int)) = true := decide_eq_true c11
              clear c11
              have H' := Aside0.mk H
              clear H
              obtain ⟨Ao12, co12, eo12⟩ := Kd.R_slice HO_5.out
              subst eo12
              try go_wp2
              have n0_ := Aside0.mk (Kd.R_drew HO_5.out)
              have n1_ := Aside0.mk (blk_drew BK405.out)
              have n2_ := Aside0.mk (below_drew1 HB.out)
              clear HO_5
              clear BK405
              clear HB
              have HO_5 := n0_
              have BK405 := n1_
              have HB := n2_
              clear n0_ n1_ n2_
              have p409 : 0 ≤ (x7_1 : Int) := of_decide_eq_true (by assumption)
              have q409 : x7_1 < (t406.length : Int) := of_decide_eq_true (by assumption)
              obtain ⟨ad409, e409, hx409_0⟩ := Kd.at_int (Kd.R_reads' HO_5.out).2.2 x7_1 p409 q409
              cases e409
              replace p409 := eq_true p409
              replace q409 := eq_true q409
              have p411 : 0 ≤ (t410 : Int) := of_decide_eq_true (by assumption)
              have q411 : t410 < (l0_0.length : Int) := of_decide_eq_true (by assumption)
              obtain ⟨ad411, e411, hx411_0, hx411_1⟩ := at_T50 HR0_0.out t410 p411 q411
              have hw411_1 := hx411_1
              have hw411_0 := hx411_0
              cases e411
              replace hx411_0 := (HB.out.cell (World.block_lt_of_cell? w _ hx411_0)).trans hx411_0
              replace hx411_1 := (HB.out.cell (World.block_lt_of_cell? w _ hx411_1)).trans hx411_1
              replace p411 := eq_true p411
              replace q411 := eq_true q411
              refine start_ (n := 14) (S := fun w' => w'.cell? ⟨gb405, 0, none⟩ = some (.slice (some ad411) l0_0.length c0_0) ∧ w'.cell? ⟨gb405, 1, none⟩ = some (.slice A0_1 l0_1.length c0_1) ∧ w'.cell? (ad409.add (x7_1).toNat) = some (.int .i64 (rd t406 x7_1)) ∧ w'.cell? (ad411.add ((t410).toNat * 2)) = some (.int .i64 ((rd_T50 l0_0 t410).f0)) ∧ w'.cell? ⟨(ad411.add ((t410).toNat * 2)).block, (ad411.add ((t410).toNat * 2)).off + 1, none⟩ = some (.int .i64 ((rd_T50 l0_0 t410).f1))) (ds := []) #[false, false, false, false, false, false, false, false, false, false, false, false, false, false] (by kernel_rfl) rfl rfl ⟨(blk_cell BK405.out 0).trans rfl, (blk_cell BK405.out 1).trans rfl, hx409_0, ((HB.out.cell (World.block_lt_of_cell? w _ hw411_0)).trans hw411_0), ((HB.out.cell (World.block_lt_of_cell? w _ hw411_1)).trans hw411_1)⟩ (fun hHeld => ?_); refine with_tabW spec_l06Weight.tab6 spec_l06Weight.bits6 (fun HT_ HW_ => ?_)
              generalize wr.drew = w13 at HO_5 BK405 HB hx409_0 hx411_0 hx411_1 hHeld ⊢
              refine pure_ (i := 0) (N := some 17) (v := ?_) (a' := ?_) #[true, false, false, false, false, false, false, false, false, false, false, false, false, false] rfl rfl (any_of HT_.out (by kernel_rfl)) (fun _ _ _ h => h) (Or.inl ⟨by rfl, ?_⟩) ?_ ?_
              rotate_left
              · intro w'
                go_simp
                with_reducible rfl
              rotate_left
              · simp only [Act.put, List.setIfInBounds_toArray, List.set_cons_zero, List.set_cons_succ, i64_w, i32_w]
                rfl
              refine pure_ (i := 1) (N := some 18) (v := ?_) (a' := ?_) #[true, true, false, false, false, false, false, false, false, false, false, false, false, false] rfl rfl (any_of HT_.out (by kernel_rfl)) (fun _ _ _ h => h) (Or.inl ⟨by rfl, ?_⟩) ?_ ?_
              rotate_left
              · intro w'
                go_simp
                with_reducible rfl
              rotate_left
              · simp only [Act.put, List.setIfInBounds_toArray, List.set_cons_zero, List.set_cons_succ, i64_w, i32_w]
                rfl
              refine pure_ (i := 4) (N := some 21) (v := ?_) (a' := ?_) #[true, true, false, false, true, false, false, false, false, false, false, false, false, false] rfl rfl (any_of HT_.out (by kernel_rfl)) (fun _ _ _ h => h) (Or.inl ⟨by rfl, ?_⟩) ?_ ?_
              rotate_left
              · intro w'
                go_simp
                with_reducible rfl
              rotate_left
              · simp only [Act.put, List.setIfInBounds_toArray, List.set_cons_zero, List.set_cons_succ, i64_w, i32_w]
                rfl
              refine pure_ (i := 5) (N := some 22) (v := ?_) (a' := ?_) #[true, true, false, false, true, true, false, false, false, false, false, false, false, false] rfl rfl (any_of HT_.out (by kernel_rfl)) (fun _ _ _ h => h) (Or.inl ⟨by rfl, ?_⟩) ?_ ?_
              rotate_left
              · intro w'
                go_simp
                with_reducible rfl
              rotate_left
              · simp only [Act.put, List.setIfInBounds_toArray, List.set_cons_zero, List.set_cons_succ, i64_w, i32_w]
                rfl
              refine pure_ (i := 6) (N := some 23) (v := ?_) (a' := ?_) #[true, true, false, false, true, true, true, false, false, false, false, false, false, false] rfl rfl (any_of HT_.out (by kernel_rfl)) (fun _ _ _ h => h) (Or.inl ⟨by rfl, ?_⟩) ?_ ?_
              rotate_left
              · intro w'
                go_simp
                with_reducible rfl
              rotate_left
              · simp only [Act.put, List.setIfInBounds_toArray, List.set_cons_zero, List.set_cons_succ, i64_w, i32_w]
                rfl
              refine take_ (i := 2) (N := some 19) (v := ?_) (a' := ?_) #[true, true, true, false, true, true, true, false, false, false, false, false, false, false] rfl rfl (take_ofW HT_.out HW_.out (by kernel_rfl)) (fun _ _ _ h => h) (Or.inl ⟨by rfl, ?_⟩) hHeld ?_ ?_
              rotate_left
              · rintro w' ⟨s0, s1, s2, s3, s4⟩
                go_simp
                with_reducible rfl
              rotate_left
              · simp only [Act.put, List.setIfInBounds_toArray, List.set_cons_zero, List.set_cons_succ, i64_w, i32_w]
                rfl
              refine take_ (i := 3) (N := some 20) (v := ?_) (a' := ?_) #[true, true, true, true, true, true, true, false, false, false, false, false, false, false] rfl rfl (take_ofW HT_.out HW_.out (by kernel_rfl)) (fun _ _ _ h => h) (Or.inl ⟨by rfl, ?_⟩) hHeld ?_ ?_
              rotate_left
              · rintro w' ⟨s0, s1, s2, s3, s4⟩
                go_simp
                with_reducible rfl
              rotate_left
              · simp only [Act.put, List.setIfInBounds_toArray, List.set_cons_zero, List.set_cons_succ, i64_w, i32_w]
                rfl
              refine take_ (i := 7) (N := some 24) (v := ?_) (a' := ?_) #[true, true, true, true, true, true, true, true, false, false, false, false, false, false] rfl rfl (take_ofW HT_.out HW_.out (by kernel_rfl)) (fun _ _ _ h => h) (Or.inl ⟨by rfl, ?_⟩) hHeld ?_ ?_
              rotate_left
              · rintro w' ⟨s0, s1, s2, s3, s4⟩
                go_simp
                with_reducible rfl
              rotate_left
              · simp only [Act.put, List.setIfInBounds_toArray, List.set_cons_zero, List.set_cons_succ, i64_w, i32_w]
                rfl
              refine one_ (i := 8) (N := some 25) #[true, true, true, true, true, true, true, true, true, false, false, false, false, false] rfl rfl (one_of HT_.out (by kernel_rfl)) (by decide) (fun K hK => ?_)
              refine goes_ Try.func82 (by kernel_rfl) rfl #[.agg #[.slice (some ad411) l0_0.length c0_0, .slice A0_1 l0_1.length c0_1], .int .i64 (rd t406 x7_1)] (by rfl) rfl rfl (by (try simp only [List.map_toArray, List.map_cons, List.map_nil]); first | done | rfl | (simp only [List.length_drop, List.length_take]; rfl)) ?_
              with_reducible refine (spec_l06Device.calls k1 _ _ l0_0 _ _ l0_1 (rd t406 x7_1) t410 _ ?side1 ?side2 ?side3 ?side4 A9.out).mono ?_
              (case side1 => repeat (first | exact (Kd.C_below HR0_0.out HB.out) | (with_reducible refine Kd.C_alloc ?_ _) | (with_reducible refine Kd.C_drewN ?_ _) | (with_reducible refine Kd.C_drew ?_)))
              (case side2 => exact HC0_0.out)
              (case side3 => repeat (first | exact (Kd.C_below HR0_1.out HB.out) | (with_reducible refine Kd.C_alloc ?_ _) | (with_reducible refine Kd.C_drewN ?_ _) | (with_reducible refine Kd.C_drew ?_)))
              (case side4 => exact HC0_1.out)
              rintro e w14 ⟨rfl, hb⟩
              have HS2_ := (hb.cell (World.block_lt_of_cell? _ _ (hHeld.2.2.1))).trans (hHeld.2.2.1)
              refine ⟨_, rfl, ?_⟩
              have n0_ := Aside0.mk (Kd.R_below (by (with_reducible repeat (first | apply Kd.R_alloc | apply Kd.R_drewN | apply Kd.R_drew)); exact HO_5.out) hb)
              have n1_ := Aside0.mk (blk_below (g := gb405) (o := .cells #[.slice (some ad411) l0_0.length c0_0, .slice A0_1 l0_1.length c0_1] 31 (0, 0)) (by (with_reducible repeat first | apply blk_drewN | apply blk_drew | apply blk_alloc); exact BK405.out) hb)
              have n2_ := Aside0.mk (below_step (by repeat (first | (with_reducible first | exact HB.out | apply below_alloc | apply pw_below_drewN | apply below_drew1 | refine below_set ?_ GE405.out) | exact HB.out)) hb)
              clear HO_5
              clear BK405
              clear HB
              have HO_5 := n0_
              have BK405 := n1_
              have HB := n2_
              clear n0_ n1_ n2_
              (try clear hb)
              (try clear hb2)
              (try clear hk)
              (try clear hi)
              refine hK.out _ _ ⟨(blk_cell BK405.out 0).trans rfl, (blk_cell BK405.out 1).trans rfl, HS2_, ((HB.out.cell (World.block_lt_of_cell? w _ hw411_0)).trans hw411_0), ((HB.out.cell (World.block_lt_of_cell? w _ hw411_1)).trans hw411_1)⟩ (fun hHeld => ?_)
              clear hK K
              refine norm_ (a' := ?_) ?_ ?_
              rotate_left
              · show Act.put _ (some 25) _ = _
                simp only [Act.put, List.setIfInBounds_toArray, List.set_cons_zero, List.set_cons_succ, i64_w, i32_w]
                rfl
              refine pure_ (i := 9) (N := some 26) (v := ?_) (a' := ?_) #[true, true, true, true, true, true, true, true, true, true, false, false, false, false] rfl rfl (any_of HT_.out (by kernel_rfl)) (fun _ _ _ h => h) (Or.inl ⟨by rfl, ?_⟩) ?_ ?_
              rotate_left
              · intro w'
                go_simp
                with_reducible rfl
              rotate_left
              · simp only [Act.put, List.setIfInBounds_toArray, List.set_cons_zero, List.set_cons_succ, i64_w, i32_w]
                rfl
              refine pure_ (i := 10) (N := some 27) (v := ?_) (a' := ?_) #[true, true, true, true, true, true, true, true, true, true, true, false, false, false] rfl rfl (any_of HT_.out (by kernel_rfl)) (fun _ _ _ h => h) (Or.inl ⟨by rfl, ?_⟩) ?_ ?_
              rotate_left
              · intro w'
                go_simp
                with_reducible rfl
              rotate_left
              · simp only [Act.put, List.setIfInBounds_toArray, List.set_cons_zero, List.set_cons_succ, i64_w, i32_w]
                rfl
              refine take_ (i := 11) (N := some 28) (v := ?_) (a' := ?_) #[true, true, true, true, true, true, true, true, true, true, true, true, false, false] rfl rfl (take_ofW HT_.out HW_.out (by kernel_rfl)) (fun _ _ _ h => h) (Or.inl ⟨by rfl, ?_⟩) hHeld ?_ ?_
              rotate_left
              · rintro w' ⟨s0, s1, s2, s3, s4⟩
                go_simp
                with_reducible rfl
              rotate_left
              · simp only [Act.put, List.setIfInBounds_toArray, List.set_cons_zero, List.set_cons_succ, i64_w, i32_w]
                rfl
              refine pure_ (i := 12) (N := some 29) (v := ?_) (a' := ?_) #[true, true, true, true, true, true, true, true, true, true, true, true, true, false] rfl rfl (any_of HT_.out (by kernel_rfl)) (fun _ _ _ h => h) (Or.inl ⟨by rfl, ?_⟩) ?_ ?_
              rotate_left
              · intro w'
                go_simp
                with_reducible rfl
              rotate_left
              · simp only [Act.put, List.setIfInBounds_toArray, List.set_cons_zero, List.set_cons_succ, i64_w, i32_w]
                rfl
              refine pure_ (i := 13) (N := some 6) (v := ?_) (a' := ?_) #[true, true, true, true, true, true, true, true, true, true, true, true, true, true] rfl rfl (any_of HT_.out (by kernel_rfl)) (fun _ _ _ h => h) (Or.inl ⟨by rfl, ?_⟩) ?_ ?_
              rotate_left
              · intro w'
                go_simp
                with_reducible rfl
              rotate_left
              · simp only [Act.put, List.setIfInBounds_toArray, List.set_cons_zero, List.set_cons_succ, i64_w, i32_w]
                rfl
              refine done_ (done_of HT_.out (by kernel_rfl)) ?_
              try go_wp2
              go_roundg k1
              case measure => have := HK1.out; omega
              case rel => exact ⟨(wrap64 (x6_1 + ((rd_T50 l0_0 t410).f1))), (wrap64 (x7_1 + 1)), (by first | rfl | (simp; done) | (simp [*]; done)), (by first | rfl | (simp; done) | (simp [*]; done)), H', ⟨by have := HK1.out; omega⟩, ⟨by (with_reducible repeat (first | apply Kd.R_alloc | apply Kd.R_drewN | apply Kd.R_drew)); exact HO_5.out⟩, ⟨by (with_reducible repeat first | apply blk_drewN | apply blk_drew | apply blk_alloc); exact BK405.out⟩, ⟨by repeat (first | (with_reducible first | exact HB.out | apply below_alloc | apply pw_below_drewN | apply below_drew1 | refine below_set ?_ GE405.out) | exact HB.out)⟩⟩
            · rw [if_neg c11] at H
              exact absurd H (by simp)
          · rw [if_neg c10] at H
            exact absurd H (by simp)
        · rw [if_neg c8] at H
          exact absurd H (by simp)
      · rw [if_neg c7] at H
        have c7b0 : decide (x7_1 < (t406.length : Int)) = false := decide_eq_false c7
        clear c7
        obtain rfl := Option.some.inj H
        obtain ⟨Ao15, co15, eo15⟩ := Kd.R_slice HO_5.out
        subst eo15
        go_wp2
        go_ret
        exact ⟨by first | rfl | (simp [*, errW_none, errW_some] <;> rfl), by repeat (first | (with_reducible first | exact HB.out | apply below_alloc | apply pw_below_drewN | apply below_drew1 | refine below_set ?_ GE405.out) | exact HB.out)⟩

end Go.Proofs.Ytkadeelplnkpgaa.Q

-- text OWeight
namespace Go.Proofs.Ytkadeelplnkpgaa.Pure
open Go.RowKit Go.Proofs.Ytkadeelplnkpgaa.Q Go.Proofs.YtkadeelplnkpgaaW.PrintWords Go.Proofs.YtkadeelplnkpgaaW.PrintLast Go.Proofs.YtkadeelplnkpgaaW.PrintMore
set_option linter.unusedVariables false
set_option linter.unusedSimpArgs false

/-- the weight of a device -/
def wOne (D : List S50) (x : Int) : Int := (rd_T50 D (devAt D x)).f1
/-- the weight of a thing: of all devices below it -/
def wL (D : List S50) (l : List Int) : Int := l.foldl (fun s x => s + wOne D x) 0
def weightN (D : List S50) (B : List S108) (id : Int) : Int := wL D (underN B 5 id)
theorem wOne_range {D : List S50} {B : List S108} (V : Valid D B) (x : Int) (h : 0 ≤ devAt D x) : (0 ≤ wOne D x ∧ wOne D x ≤ 8) ∧ devAt D x < (D.length : Int) := by
  rcases devAt_hit D x with e | ⟨n, hn, e, _⟩
  · omega
  · unfold wOne
    rw [e, rd_dev D n hn]
    have := V.devs n hn
    omega
theorem wL_take {D : List S50} (l : List Int) (i : Nat) (h : i < l.length) : wL D (l.take (i + 1)) = wL D (l.take i) + wOne D l[i] := by
  unfold wL
  rw [List.take_succ_eq_append_getElem h, List.foldl_append]
  rfl
theorem wL_range {D : List S50} {B : List S108} (V : Valid D B) (l : List Int) (h : ∀ x ∈ l, 0 ≤ devAt D x) : ∀ i, i ≤ l.length → 0 ≤ wL D (l.take i) ∧ wL D (l.take i) ≤ 8 * i
  | 0, _ => by simp [wL]
  | i + 1, hi => by
    have h1 := wL_range V l h i (by omega)
    have h2 := wOne_range V l[i] (h _ (List.getElem_mem (by omega)))
    rw [wL_take l i (by omega)]
    omega
theorem impl_sum_ev {D : List S50} {B : List S108} (V : Valid D B) (l : List Int) (hl : l.length ≤ 1048576) (h : ∀ x ∈ l, 0 ≤ devAt D x) : Ev (fun k => impl_Tree_weight.l0 k 0 l l.length 0 D B) (wL D l) := by
  refine loop_is l.length (fun k (s : Int) i => impl_Tree_weight.l0 k s l l.length i D B) (fun i s => s = wL D (l.take i)) _ ?_ ?_ 0 rfl
  · rintro i s hi rfl
    refine .inr ⟨_, rfl, fun r hr => Ev.step (fun k => ?_) hr⟩
    have h1 := wL_range V l h i (by omega)
    have h2 := wOne_range V l[i] (h _ (List.getElem_mem hi))
    have h3 := h _ (List.getElem_mem hi)
    have e : impl_Tree_device.f D B (rd l i) = some (devAt D l[i]) := by rw [rd_get l i hi]; rfl
    simp only [impl_Tree_weight.l0]
    rw [if_pos (by omega), if_pos (by omega), if_pos (by omega), e]
    simp only [Option.bind_some]
    rw [if_pos h3, if_pos h2.2, up64 i l.length hi (by omega), wL_take l i hi]
    have e2 : wrap64 (wL D (l.take i) + (rd_T50 D (devAt D l[i])).f1) = wL D (l.take i) + wOne D l[i] := by
      have : (rd_T50 D (devAt D l[i])).f1 = wOne D l[i] := rfl
      rw [this]
      unfold wrap64
      omega
    rw [e2]
  · rintro s rfl
    refine ev_end (fun k => ?_)
    simp only [impl_Tree_weight.l0]
    rw [if_neg (by omega), List.take_length]
theorem spec_sum_ev {D : List S50} {B : List S108} (V : Valid D B) (l : List Int) (hl : l.length ≤ 1048576) (h : ∀ x ∈ l, 0 ≤ devAt D x) : Ev (fun k => spec_l06Weight.l0 k l 0 0 D B) (wL D l) := by
  have hD := V.dev
  refine loop_is l.length (fun k (s : Int) i => spec_l06Weight.l0 k l s i D B) (fun i s => s = wL D (l.take i)) _ ?_ ?_ 0 rfl
  · rintro i s hi rfl
    have h1 := wL_range V l h i (by omega)
    have h2 := wOne_range V l[i] (h _ (List.getElem_mem hi))
    have h3 := h _ (List.getElem_mem hi)
    refine .inr ⟨_, rfl, fun r hr => Ev.step (f := ?f) (fun k => ?_) ?_⟩
    rotate_left
    · simp only [spec_l06Weight.l0]
      rw [if_pos (by omega), if_pos (by omega), rd_get l i hi, up64 i l.length hi (by omega)]
      all_goals exact rfl
    · refine Ev.bind (specDevice_ev D B l[i] (by omega)) ?_
      simp only [if_pos h3, if_pos h2.2]
      have e2 : wrap64 (wL D (l.take i) + (rd_T50 D (devAt D l[i])).f1) = wL D (l.take i) + wOne D l[i] := by
        have : (rd_T50 D (devAt D l[i])).f1 = wOne D l[i] := rfl
        rw [this]
        unfold wrap64
        omega
      rw [wL_take l i hi] at hr
      rw [e2]
      exact hr
  · rintro s rfl
    refine ev_end (fun k => ?_)
    simp only [spec_l06Weight.l0]
    rw [if_neg (by omega), List.take_length]
theorem under5 {D : List S50} {B : List S108} (V : Valid D B) (id : Int) : (underN B 5 id).length ≤ 1048576 := by
  have := underN_length V 5 id
  omega
theorem impl_weight_ev {D : List S50} {B : List S108} (V : Valid D B) (id : Int) (h : 0 ≤ kindAt D B id) : Ev (fun k => impl_Tree_weight.f k D B id) (weightN D B id) := by
  have hk := kindAt_le V id
  unfold impl_Tree_weight.f
  exact Ev.bind (impl_under_ev V 5 id (by omega) (by omega)) (impl_sum_ev V _ (under5 V id) (under_dev V 5 id h (by omega)))
theorem spec_weight_ev {D : List S50} {B : List S108} (V : Valid D B) (id : Int) (h : 0 ≤ kindAt D B id) : Ev (fun k => spec_l06Weight.f k D B id) (weightN D B id) := by
  have hk := kindAt_le V id
  unfold spec_l06Weight.f
  exact Ev.bind (spec_under_ev V 5 id (by omega) (by omega)) (spec_sum_ev V _ (under5 V id) (under_dev V 5 id h (by omega)))
theorem weight_range {D : List S50} {B : List S108} (V : Valid D B) (id : Int) (h : 0 ≤ kindAt D B id) : 0 ≤ weightN D B id ∧ weightN D B id ≤ 8388608 := by
  have hk := kindAt_le V id
  have := wL_range V _ (under_dev V 5 id h (by omega)) (underN B 5 id).length (by omega)
  rw [List.take_length] at this
  have := under5 V id
  unfold weightN
  omega
end Go.Proofs.Ytkadeelplnkpgaa.Pure

-- text OAbove
namespace Go.Proofs.Ytkadeelplnkpgaa.Pure
open Go.RowKit Go.Proofs.Ytkadeelplnkpgaa.Q Go.Proofs.YtkadeelplnkpgaaW.PrintWords Go.Proofs.YtkadeelplnkpgaaW.PrintLast Go.Proofs.YtkadeelplnkpgaaW.PrintMore
set_option linter.unusedVariables false
set_option linter.unusedSimpArgs false

/-- the first place that answers -/
def firstR {ρ : Type} (c : Nat → Bool) (g : Nat → ρ) (z : ρ) : Nat → Nat → ρ
  | 0, _ => z
  | d + 1, i => if c i = true then g i else firstR c g z d (i + 1)
theorem first_loop {ρ : Type} (n : Nat) (L : Nat → Int → Option ρ) (c : Nat → Bool) (g : Nat → ρ) (z : ρ) (ht : ∀ i : Nat, i < n → c i = true → Ev (fun k => L k (i : Int)) (g i))
    (hf : ∀ i : Nat, i < n → c i = false → ∀ r, Ev (fun k => L k ((i + 1 : Nat) : Int)) r → Ev (fun k => L k (i : Int)) r) (he : ∀ k, L (k + 1) (n : Int) = some z) : Ev (fun k => L k 0) (firstR c g z n 0) := by
  refine loop_is n (fun k (_ : Unit) i => L k i) (fun i _ => firstR c g z n 0 = firstR c g z (n - i) i) _ ?_ ?_ () rfl
  · intro i _ hi hI
    have hs : firstR c g z (n - i) i = if c i = true then g i else firstR c g z (n - (i + 1)) (i + 1) := by
      rw [show n - i = (n - (i + 1)) + 1 from by omega]; rfl
    rw [hs] at hI
    cases hc : c i with
    | true =>
      left
      rw [hc, if_pos rfl] at hI
      rw [hI]
      exact ht i hi hc
    | false =>
      rw [hc, if_neg (by decide)] at hI
      exact .inr ⟨(), hI, hf i hi hc⟩
  · intro _ hI
    rw [hI, Nat.sub_self]
    exact ev_end he
theorem idx64_ev (l : List Int) (x : Int) (hl : l.length ≤ 9223372036854775807) : Ev (fun k => slices_Contains_int64_int64.f k l x) (l.any fun y => y == x) := by
  have h : ∃ r, (decide (r ≥ 0) = l.any fun y => y == x) ∧ Ev (fun k => slices_Index_int64_int64.l0 k l x l.length 0) r := by
    refine loop_up l.length (fun k (_ : Unit) i => slices_Index_int64_int64.l0 k l x l.length i) (fun i _ => (l.take i).any (fun y => y == x) = false) (fun r => decide (r ≥ 0) = l.any fun y => y == x) ?_ ?_ () (by simp)
    · intro i _ hi hI
      have hu : ∀ k, slices_Index_int64_int64.l0 (k + 1) l x l.length i = if x = l[i] then some (i : Int) else slices_Index_int64_int64.l0 k l x l.length ((i + 1 : Nat) : Int) := fun k => by
        simp only [slices_Index_int64_int64.l0]
        rw [if_pos (by omega), if_pos (by omega), if_pos (by omega), rd_get l i hi, up64 i l.length hi hl]
      by_cases c : x = l[i]
      · refine .inl ⟨(i : Int), ?_, ev_end (fun k => by rw [hu k, if_pos c])⟩
        have e : l.any (fun y => y == x) = true := by
          rw [List.any_eq_true]
          exact ⟨l[i], List.getElem_mem hi, by simpa using c.symm⟩
        rw [e]; simp
      · refine .inr ⟨(), ?_, ev_next (fun k => by rw [hu k, if_neg c])⟩
        rw [List.take_succ_eq_append_getElem hi, List.any_append, hI]
        simpa using fun e => c e.symm
    · intro _ hI
      rw [List.take_length] at hI
      exact ⟨-1, by rw [hI]; rfl, ev_end (fun k => by simp only [slices_Index_int64_int64.l0]; rw [if_neg (by omega)])⟩
  obtain ⟨r, hr, hE⟩ := h
  unfold slices_Contains_int64_int64.f slices_Index_int64_int64.f
  rw [← hr]
  exact Ev.bind hE (Ev.now _)
/-- the bucket of a kind above -/
def aboveN (B : List S108) : Nat → Int → Int → Int
  | 0, _, _ => 0
  | n + 1, id, kd => firstR (fun i => (rd_T108 B i).f2.any fun y => y == id) (fun i => if (rd_T108 B i).f1 = kd then (rd_T108 B i).f0 else aboveN B n (rd_T108 B i).f0 kd) 0 B.length 0
theorem above_kind {D : List S50} {B : List S108} (V : Valid D B) (i : Nat) (hi : i < B.length) (id : Int) (hc : ((rd_T108 B i).f2.any fun y => y == id) = true) : kindAt D B id < kindAt D B B[i].f0 := by
  rw [rd_bkt B i hi, List.any_eq_true] at hc
  obtain ⟨x, hx, e⟩ := hc
  obtain rfl := eq_of_beq e
  rw [kindAt_own V i hi]
  exact (item_kind V i hi x hx).2
theorem spec_above_ev {D : List S50} {B : List S108} (V : Valid D B) (kd : Int) : ∀ (n : Nat) (id : Int), 3 < kindAt D B id + n → Ev (fun k => spec_l06Above.f k D B id kd) (aboveN B n id kd)
  | 0, id, h => by have := kindAt_le V id; omega
  | n + 1, id, h => by
    have hB := V.bkt
    refine Ev.step (f := fun k => spec_l06Above.l0 k id kd 0 D B) (fun k => rfl) ?_
    have hu : ∀ (i : Nat), i < B.length → ∀ r, Ev (fun k => if ((rd_T108 B i).f2.any fun y => y == id) = true then (if (rd_T108 B i).f1 = kd then some (rd_T108 B i).f0 else ((spec_l06Above.f k D B (rd_T108 B i).f0 kd).bind fun t => some t)) else spec_l06Above.l0 k id kd ((i + 1 : Nat) : Int) D B) r → Ev (fun k => spec_l06Above.l0 k id kd i D B) r := fun i hi r hr => by
      refine Ev.step (f := ?f) (fun k => ?_) ?_
      rotate_left
      · simp only [spec_l06Above.l0]
        rw [if_pos (by omega), if_pos (by omega), up64 i B.length hi (by omega)]
        all_goals exact rfl
      · refine Ev.bind (has_ev _ id ?_) hr
        rw [rd_bkt B i hi]
        have := V.bkts i hi
        omega
    refine first_loop B.length (fun k i => spec_l06Above.l0 k id kd i D B) _ _ 0 (fun i hi hc => hu i hi _ ?_) (fun i hi hc r hr => hu i hi _ (Ev.congr (fun k => by rw [if_neg (by rw [hc]; decide)]) hr)) (fun k => by simp only [spec_l06Above.l0]; rw [if_neg (by omega)])
    simp only [if_pos hc]
    by_cases c : (rd_T108 B i).f1 = kd
    · simp only [if_pos c]
      exact Ev.now _
    · simp only [if_neg c]
      refine ev_then1 (spec_above_ev V kd n _ ?_)
      have := above_kind V i hi id hc
      rw [rd_bkt B i hi]
      omega
theorem impl_above_ev {D : List S50} {B : List S108} (V : Valid D B) (kd : Int) : ∀ (n : Nat) (id : Int), 3 < kindAt D B id + n → Ev (fun k => impl_Tree_above.f k D B id kd) (aboveN B n id kd)
  | 0, id, h => by have := kindAt_le V id; omega
  | n + 1, id, h => by
    have hB := V.bkt
    refine Ev.step (f := fun k => impl_Tree_above.l0 k id kd B B.length 0 D B) (fun k => rfl) ?_
    have hu : ∀ (i : Nat), i < B.length → ∀ r, Ev (fun k => if ((rd_T108 B i).f2.any fun y => y == id) = true then (if (rd_T108 B i).f1 = kd then some (rd_T108 B i).f0 else ((impl_Tree_above.f k D B (rd_T108 B i).f0 kd).bind fun t => some t)) else impl_Tree_above.l0 k id kd B B.length ((i + 1 : Nat) : Int) D B) r → Ev (fun k => impl_Tree_above.l0 k id kd B B.length i D B) r := fun i hi r hr => by
      refine Ev.step (f := ?f) (fun k => ?_) ?_
      rotate_left
      · simp only [impl_Tree_above.l0]
        rw [if_pos (by omega), if_pos (by omega), if_pos (by omega), up64 i B.length hi (by omega)]
        all_goals exact rfl
      · refine Ev.bind (idx64_ev _ id ?_) hr
        rw [rd_bkt B i hi]
        have := V.bkts i hi
        omega
    refine first_loop B.length (fun k i => impl_Tree_above.l0 k id kd B B.length i D B) _ _ 0 (fun i hi hc => hu i hi _ ?_) (fun i hi hc r hr => hu i hi _ (Ev.congr (fun k => by rw [if_neg (by rw [hc]; decide)]) hr)) (fun k => by simp only [impl_Tree_above.l0]; rw [if_neg (by omega)])
    simp only [if_pos hc]
    by_cases c : (rd_T108 B i).f1 = kd
    · simp only [if_pos c]
      exact Ev.now _
    · simp only [if_neg c]
      refine ev_then1 (impl_above_ev V kd n _ ?_)
      have := above_kind V i hi id hc
      rw [rd_bkt B i hi]
      omega
def aboveB (B : List S108) (id kd : Int) : Int := aboveN B 5 id kd
theorem spec_above {D : List S50} {B : List S108} (V : Valid D B) (id kd : Int) : Ev (fun k => spec_l06Above.f k D B id kd) (aboveB B id kd) := spec_above_ev V kd 5 id (by have := kindAt_le V id; omega)
theorem impl_above {D : List S50} {B : List S108} (V : Valid D B) (id kd : Int) : Ev (fun k => impl_Tree_above.f k D B id kd) (aboveB B id kd) := impl_above_ev V kd 5 id (by have := kindAt_le V id; omega)

end Go.Proofs.Ytkadeelplnkpgaa.Pure

-- text ODom
namespace Go.Proofs.Ytkadeelplnkpgaa.Pure
open Go.RowKit Go.Proofs.Ytkadeelplnkpgaa.Q Go.Proofs.YtkadeelplnkpgaaW.PrintWords Go.Proofs.YtkadeelplnkpgaaW.PrintLast Go.Proofs.YtkadeelplnkpgaaW.PrintMore
set_option linter.unusedVariables false
set_option linter.unusedSimpArgs false

/-- the domain of a device; 0: none -/
def domN (B : List S108) (kd id : Int) : Int := if kd = 0 then id else aboveB B id kd
theorem spec_domain {D : List S50} {B : List S108} (V : Valid D B) (kd id : Int) : Ev (fun k => spec_l08Domain.f k D B kd id) (domN B kd id) := by
  unfold spec_l08Domain.f domN
  by_cases c : kd = 0
  · simp only [if_pos c]
    exact Ev.now _
  · simp only [if_neg c]
    exact ev_then1 (spec_above V id kd)
/-- the domain and whether there is one, as the program tells it -/
def domP (D : List S50) (B : List S108) (kd id : Int) : Int × Bool := if devAt D id < 0 then (0, false) else if kd = 0 then (id, true) else (aboveB B id kd, (aboveB B id kd != 0))
theorem impl_domain {D : List S50} {B : List S108} (V : Valid D B) (kd id : Int) : Ev (fun k => impl_Tree_domain.f k D B kd id) (domP D B kd id) := by
  unfold impl_Tree_domain.f impl_Tree_device.f domP
  simp only [Option.bind_some]
  have e : idxFrom (fun x : S50 => x.f0 == id) D 0 = devAt D id := rfl
  rw [e]
  by_cases c : devAt D id < 0
  · simp only [if_pos c]
    exact Ev.now _
  · simp only [if_neg c]
    by_cases c2 : kd = 0
    · simp only [if_pos c2]
      exact Ev.now _
    · simp only [if_neg c2]
      exact Ev.bind (impl_above V id kd) (Ev.now _)
theorem firstR_prop {ρ : Type} (P : ρ → Prop) (c : Nat → Bool) (g : Nat → ρ) (z : ρ) (N : Nat) (hz : P z) (hg : ∀ i, i < N → c i = true → P (g i)) : ∀ d i, i + d ≤ N → P (firstR c g z d i)
  | 0, i, _ => hz
  | d + 1, i, h => by
    unfold firstR
    cases e : c i with
    | true => rw [if_pos rfl]; exact hg i (by omega) e
    | false => rw [if_neg (by decide)]; exact firstR_prop P c g z N hz hg d (i + 1) (by omega)
theorem aboveN_range {D : List S50} {B : List S108} (V : Valid D B) (kd : Int) : ∀ (n : Nat) (id : Int), -12 ≤ aboveN B n id kd ∧ aboveN B n id kd ≤ 0
  | 0, id => by simp [aboveN]
  | n + 1, id => by
    unfold aboveN
    refine firstR_prop (fun x : Int => -12 ≤ x ∧ x ≤ 0) _ _ 0 B.length (by omega) (fun i hi _ => ?_) B.length 0 (by omega)
    by_cases c : (rd_T108 B i).f1 = kd
    · rw [if_pos c, rd_bkt B i hi]
      have := V.bkts i hi
      omega
    · rw [if_neg c]
      exact aboveN_range V kd n _
theorem aboveB_range {D : List S50} {B : List S108} (V : Valid D B) (kd id : Int) : -12 ≤ aboveB B id kd ∧ aboveB B id kd ≤ 0 := aboveN_range V kd 5 id
/-- what is found is a device: its Id -/
theorem dev_range {D : List S50} {B : List S108} (V : Valid D B) (id : Int) (h : ¬ devAt D id < 0) : 0 ≤ id ∧ id ≤ 15 := by
  rcases devAt_hit D id with e | ⟨n, hn, e, e2⟩
  · omega
  · have := V.devs n hn
    omega
theorem domP_range {D : List S50} {B : List S108} (V : Valid D B) (kd id : Int) : -12 ≤ (domP D B kd id).1 ∧ (domP D B kd id).1 ≤ 15 := by
  unfold domP
  split
  · simp
  · rename_i c
    have := dev_range V id c
    have := aboveB_range V kd id
    split <;> simp only <;> omega
theorem domP_wf {D : List S50} {B : List S108} (V : Valid D B) (kd id : Int) : wfI (domP D B kd id).1 = true := by
  have := domP_range V kd id
  unfold wfI
  exact decide_eq_true (by omega)
theorem domP_ok {D : List S50} {B : List S108} (V : Valid D B) (kd id : Int) (h : (domP D B kd id).2 = true) : 0 ≤ id ∧ (domP D B kd id).1 = domN B kd id ∧ ¬ devAt D id < 0 := by
  unfold domP at h ⊢
  by_cases c : devAt D id < 0
  · rw [if_pos c] at h; cases h
  · have := dev_range V id c
    refine ⟨this.1, ?_, c⟩
    rw [if_neg c]
    unfold domN
    split <;> rfl
end Go.Proofs.Ytkadeelplnkpgaa.Pure

-- text OCan
namespace Go.Proofs.Ytkadeelplnkpgaa.Pure
open Go.RowKit Go.Proofs.Ytkadeelplnkpgaa.Q Go.Proofs.YtkadeelplnkpgaaW.PrintWords Go.Proofs.YtkadeelplnkpgaaW.PrintLast Go.Proofs.YtkadeelplnkpgaaW.PrintMore
set_option linter.unusedVariables false
set_option linter.unusedSimpArgs false

/-- rising, and each in its bounds -/
def riseB (l : List Int) (i : Nat) : Bool := inB (rd l i) 0 15 && (decide (i = 0) || decide (rd l ((i : Int) - 1) < rd l i))
theorem spec_rises_ev (l : List Int) (hl : l.length ≤ 1048576) : Ev (fun k => spec_l00Rises.f k l 0 15) ((List.range l.length).all (riseB l)) := by
  have hu : ∀ (i : Nat), i < l.length → ∀ r, Ev (fun k => if riseB l i = true then spec_l00Rises.l0 k l 0 15 ((i + 1 : Nat) : Int) else some false) r → Ev (fun k => spec_l00Rises.l0 k l 0 15 i) r := fun i hi r hr => by
    refine Ev.step (fun k => ?_) hr
    simp only [spec_l00Rises.l0, in_inB, Option.bind_some, riseB]
    rw [if_pos (by omega), if_pos (by omega), up64 i l.length hi (by omega)]
    by_cases c : inB (rd l i) 0 15 = true
    · simp only [c, if_true, Bool.true_and]
      by_cases c0 : i = 0
      · subst c0
        simp
      · have e : wrap64 ((i : Int) - 1) = (i : Int) - 1 := by unfold wrap64; omega
        rw [if_pos (by omega), e, if_pos (by omega), if_pos (by omega)]
        by_cases c2 : rd l ((i : Int) - 1) < rd l i
        · rw [if_neg (by omega)]; simp [c2]
        · rw [if_pos (by omega)]; simp [c0, c2]
    · simp [c]
  refine all_loop l.length (fun k i => spec_l00Rises.l0 k l 0 15 i) (riseB l) (fun i hi hc r hr => hu i hi r (by simp only [hc, if_true]; exact hr)) (fun i hi hc => hu i hi _ (by simp only [hc, Bool.false_eq_true, if_false]; exact Ev.now _)) (fun k => by simp only [spec_l00Rises.l0]; rw [if_neg (by omega)])
/-- is the domain of a device free? -/
def freeP (D : List S50) (B : List S108) (kd : Int) (out : List Int) (x : Int) : Bool := decide (wOne D x > 0) && (!(out.any fun y => y == x)) && (decide (kd = 0) || decide (domN B kd x ≠ 0))
def freeL (D : List S50) (B : List S108) (kd : Int) (out l : List Int) : List Int := (l.filter (freeP D B kd out)).map (domN B kd)
theorem under_self {D : List S50} {B : List S108} (V : Valid D B) (x : Int) (h : 0 ≤ devAt D x) : underN B 5 x = [x] ∧ kindAt D B x = 0 := by
  have e : kindAt D B x = 0 := if_pos h
  refine ⟨?_, e⟩
  unfold underN
  rw [if_pos (kind_zero V x e)]
theorem placeGo_ev {D : List S50} {B : List S108} (V : Valid D B) (kd : Int) (out : List Int) (ho : out.length ≤ 1048576) : ∀ (l S : List Int), (∀ x ∈ l, 0 ≤ devAt D x) → Ev (fun k => placeGo (fun x => impl_Tree_domain.f k D B kd x) (fun x => slices_Contains_int64_int64.f k out x) (fun x => impl_Tree_weight.f k D B x) S l) (S ++ freeL D B kd out l)
  | [], S, _ => by
    have e : S ++ freeL D B kd out [] = S := by simp [freeL]
    rw [e]
    exact Ev.now _
  | x :: xs, S, h => by
    have hx := h x (by simp)
    have hxs : ∀ y ∈ xs, 0 ≤ devAt D y := fun y hy => h y (List.mem_cons_of_mem _ hy)
    obtain ⟨hu, hk⟩ := under_self V x hx
    have hw : weightN D B x = wOne D x := by unfold weightN wL; rw [hu]; simp
    simp only [placeGo]
    refine Ev.bind (impl_domain V kd x) ?_
    have h2 : (domP D B kd x).2 = (decide (kd = 0) || decide (domN B kd x ≠ 0)) := by
      unfold domP domN
      rw [if_neg (by omega)]
      by_cases c : kd = 0
      · simp [c]
      · by_cases c5 : aboveB B x kd = 0 <;> simp [c, c5]
    have h1 : (domP D B kd x).2 = true → (domP D B kd x).1 = domN B kd x := fun e => (domP_ok V kd x e).2.1
    have hskip : freeP D B kd out x = false → Ev (fun k => placeGo (fun x => impl_Tree_domain.f k D B kd x) (fun x => slices_Contains_int64_int64.f k out x) (fun x => impl_Tree_weight.f k D B x) S xs) (S ++ freeL D B kd out (x :: xs)) := fun e => by
      have e2 : freeL D B kd out (x :: xs) = freeL D B kd out xs := by unfold freeL; rw [List.filter_cons_of_neg (by simp [e])]
      rw [e2]
      exact placeGo_ev V kd out ho xs S hxs
    cases hd : (domP D B kd x).2 with
    | false =>
      simp only [Bool.false_eq_true, if_false]
      exact hskip (by unfold freeP; rw [← h2, hd]; simp)
    | true =>
      simp only [if_true]
      refine Ev.bind (idx64_ev out x (by omega)) ?_
      cases hc : out.any fun y => y == x with
      | true =>
        simp only [if_true]
        exact hskip (by unfold freeP; rw [hc]; simp)
      | false =>
        simp only [Bool.false_eq_true, if_false]
        refine Ev.bind (impl_weight_ev V x (by omega)) ?_
        rw [hw]
        by_cases c : wOne D x > 0
        · simp only [if_pos c, domP_wf V kd x, if_true]
          have e2 : freeL D B kd out (x :: xs) = domN B kd x :: freeL D B kd out xs := by
            unfold freeL
            rw [List.filter_cons_of_pos (by unfold freeP; rw [← h2, hd, hc]; simp [c]), List.map_cons]
          rw [e2, h1 hd]
          have := placeGo_ev V kd out ho xs (S ++ [domN B kd x]) hxs
          rw [List.append_assoc] at this
          exact this
        · simp only [if_neg c]
          exact hskip (by unfold freeP; simp [c])
theorem once_snoc (S : List Int) (d : Int) : onceOf (S ++ [d]) = addOnce (onceOf S) d := by
  unfold onceOf
  rw [List.foldl_append]
  rfl
theorem once_len (S : List Int) : (onceOf S).length ≤ S.length := by
  have h : ∀ (S acc : List Int), (S.foldl addOnce acc).length ≤ acc.length + S.length := by
    intro S
    induction S with
    | nil => intro acc; simp
    | cons x xs ih =>
      intro acc
      have h1 := ih (addOnce acc x)
      have h2 : (addOnce acc x).length ≤ acc.length + 1 := by unfold addOnce; split <;> simp
      simp only [List.foldl_cons, List.length_cons]
      omega
  have := h S []
  simpa [onceOf] using this
theorem spec_go_ev {D : List S50} {B : List S108} (V : Valid D B) (n root kd : Int) (b : Bool) (out : List Int) (ho : out.length ≤ 1048576) (l : List Int) (hl : l.length ≤ 1048576) (h : ∀ x ∈ l, 0 ≤ devAt D x) : Ev (fun k => spec_CanPlace.l0 k out [] l 0 D B n root kd b) (((onceOf (freeL D B kd out l)).length : Int), true) := by
  have hD := V.dev
  refine loop_is l.length (fun k (s : List Int) i => spec_CanPlace.l0 k out s l i D B n root kd b) (fun i s => s = onceOf (freeL D B kd out (l.take i))) _ ?_ ?_ [] rfl
  · rintro i s hi rfl
    have hx := h _ (List.getElem_mem hi)
    have hlt := (wOne_range V l[i] hx).2
    have hsl : (onceOf (freeL D B kd out (l.take i))).length ≤ 1048576 := by
      have h1 := once_len (freeL D B kd out (l.take i))
      have h2 : (freeL D B kd out (l.take i)).length ≤ (l.take i).length := by unfold freeL; rw [List.length_map]; exact List.length_filter_le _ _
      rw [List.length_take] at h2
      omega
    have hskip : freeP D B kd out l[i] = false → onceOf (freeL D B kd out (l.take (i + 1))) = onceOf (freeL D B kd out (l.take i)) := fun e => by
      unfold freeL
      rw [List.take_succ_eq_append_getElem hi, List.filter_append, List.filter_cons_of_neg (by simp [e])]
      simp
    have htake : freeP D B kd out l[i] = true → onceOf (freeL D B kd out (l.take (i + 1))) = addOnce (onceOf (freeL D B kd out (l.take i))) (domN B kd l[i]) := fun e => by
      rw [← once_snoc]
      unfold freeL
      rw [List.take_succ_eq_append_getElem hi, List.filter_append, List.filter_cons_of_pos e]
      simp
    refine .inr ⟨_, rfl, fun r hr => Ev.step (f := ?f) (fun k => ?_) ?_⟩
    rotate_left
    · simp only [spec_CanPlace.l0]
      rw [if_pos (by omega), if_pos (by omega), rd_get l i hi, up64 i l.length hi (by omega)]
      all_goals exact rfl
    · refine Ev.bind (spec_domain V kd l[i]) (Ev.bind (specDevice_ev D B l[i] (by omega)) ?_)
      simp only [if_pos hx, if_pos hlt]
      have ew : (rd_T50 D (devAt D l[i])).f1 = wOne D l[i] := rfl
      rw [ew]
      by_cases c : wOne D l[i] > 0
      · simp only [if_pos c]
        refine Ev.bind (has_ev out l[i] (by omega)) ?_
        by_cases c2 : (out.any fun y => y == l[i]) = true
        · simp only [if_pos c2]
          rw [hskip (by unfold freeP; simp only [c2]; simp)] at hr
          exact hr
        · simp only [if_neg c2]
          have c3 := Bool.eq_false_iff.2 c2
          have hput : freeP D B kd out l[i] = true → Ev (fun k => (spec_l00Has.f k (onceOf (freeL D B kd out (l.take i))) (domN B kd l[i])).bind fun t => if t = true then spec_CanPlace.l0 k out (onceOf (freeL D B kd out (l.take i))) l ((i + 1 : Nat) : Int) D B n root kd b else if (onceOf (freeL D B kd out (l.take i))).length < 17592186044416 then spec_CanPlace.l0 k out (onceOf (freeL D B kd out (l.take i)) ++ [domN B kd l[i]]) l ((i + 1 : Nat) : Int) D B n root kd b else none) r := fun e => by
            rw [htake e] at hr
            refine Ev.bind (has_ev _ _ (by omega)) ?_
            unfold addOnce at hr
            by_cases c4 : ((onceOf (freeL D B kd out (l.take i))).any fun y => y == domN B kd l[i]) = true
            · simp only [if_pos c4] at hr ⊢
              exact hr
            · simp only [if_neg c4] at hr ⊢
              simp only [if_pos (show (onceOf (freeL D B kd out (l.take i))).length < 17592186044416 by omega)]
              exact hr
          by_cases c4 : kd = 0
          · simp only [if_pos c4]
            exact hput (by unfold freeP; simp only [c3]; simp [c, c4])
          · simp only [if_neg c4]
            by_cases c5 : domN B kd l[i] = 0
            · simp only [if_pos c5]
              rw [hskip (by unfold freeP; simp [c4, c5])] at hr
              exact hr
            · simp only [if_neg c5]
              exact hput (by unfold freeP; simp only [c3]; simp [c, c5])
      · simp only [if_neg c]
        rw [hskip (by unfold freeP; simp [c])] at hr
        exact hr
  · rintro s rfl
    refine ev_end (fun k => ?_)
    simp only [spec_CanPlace.l0]
    rw [if_neg (by omega), List.take_length]
end Go.Proofs.Ytkadeelplnkpgaa.Pure

-- text PureFnExactCanPlace
namespace Go.Proofs.Ytkadeelplnkpgaa.Pure
open Go.RowKit Go.Proofs.Ytkadeelplnkpgaa.Q Go.Proofs.Ytkadeelplnkpgaa.Opens Go.Proofs.YtkadeelplnkpgaaW.PrintWords Go.Proofs.YtkadeelplnkpgaaW.PrintLast Go.Proofs.YtkadeelplnkpgaaW.PrintMore
set_option linter.unusedVariables false
set_option linter.unusedSimpArgs false

/-- is a rule valid? -/
def ruleB (D : List S50) (B : List S108) (n root dom : Int) : Bool := inB n 1 4 && decide (kindAt D B root = 3) && inB dom 0 2
theorem spec_rule_ev {D : List S50} {B : List S108} (V : Valid D B) (n root dom : Int) (b : Bool) : Ev (fun k => spec_l08OK.f k D B n root dom b) (ruleB D B n root dom) := by
  unfold spec_l08OK.f ruleB
  simp only [in_inB, Option.bind_some]
  by_cases c1 : inB n 1 4 = true
  · simp only [c1, if_true, Bool.true_and]
    by_cases c2 : root < 0
    · simp only [if_pos c2]
      refine Ev.bind (specKind_ev D B root (by have := V.dev; omega) (by have := V.bkt; omega)) ?_
      by_cases c3 : kindAt D B root = 3
      · simp only [if_pos c3, decide_eq_true c3, Bool.true_and]
        exact Ev.now _
      · simp only [if_neg c3, decide_eq_false c3, Bool.false_and]
        exact Ev.now _
    · simp only [if_neg c2]
      have c3 : ¬ kindAt D B root = 3 := fun h => by
        obtain ⟨_, _, _, _, h0, _⟩ := kindAt_bucket V root (by omega)
        exact c2 h0
      simp only [decide_eq_false c3, Bool.false_and]
      exact Ev.now _
  · simp only [if_neg c1, show inB n 1 4 = false by simpa using c1, Bool.false_and]
    exact Ev.now _
theorem impl_rule (D : List S50) (B : List S108) (n root dom : Int) (b : Bool) : impl_ruleOk.f D B n root dom b = some (ruleB D B n root dom) := by
  unfold impl_ruleOk.f impl_Tree_kindOf.f ruleB
  simp only [between_inB, Option.bind_some]
  by_cases c1 : inB n 1 4 = true
  · by_cases c3 : kindAt D B root = 3
    · simp [c1, c3]
    · simp [c1, c3]
  · simp [c1]
theorem impl_ruleOk (D : List S50) (B : List S108) (hD : D.length ≤ 9223372036854775807) (hw : wfTree D B = true) (n root dom : Int) (b : Bool) : Ev (fun k => impl_RuleOk.f k D B n root dom b) (treeOkB D B && ruleB D B n root dom) := by
  unfold impl_RuleOk.f
  refine Ev.bind (impl_ok_ev D B hD hw) ?_
  by_cases c : treeOkB D B = true
  · simp only [c, if_true, Bool.true_and, impl_rule, Option.bind_some]
    exact Ev.now _
  · simp only [if_neg c, show treeOkB D B = false by simpa using c, Bool.false_and]
    exact Ev.now _
def riseO (l : List Int) : Bool := (List.range l.length).all (riseB l)
/-- rising from a place on -/
def incB (l : List Int) : Nat → Nat → Bool
  | 0, _ => true
  | d + 1, i => decide (rd l ((i : Int) - 1) < rd l i) && incB l d (i + 1)
theorem incB_iff (l : List Int) : ∀ d i, incB l d i = true ↔ ∀ j, i ≤ j → j < i + d → rd l ((j : Int) - 1) < rd l j
  | 0, i => by simp only [incB, true_iff]; intro j h1 h2; omega
  | d + 1, i => by
    simp only [incB, Bool.and_eq_true, decide_eq_true_eq, incB_iff l d (i + 1)]
    constructor
    · rintro ⟨h1, h2⟩ j h3 h4
      by_cases c : j = i
      · subst c; exact h1
      · exact h2 j (by omega) (by omega)
    · intro h
      exact ⟨h i (by omega) (by omega), fun j h1 h2 => h j (by omega) (by omega)⟩
theorem inc_ev (l : List Int) (hl : l.length ≤ 1048576) : ∀ d i : Nat, 1 ≤ i → l.length ≤ i + d → i + d ≤ 1048577 → (i + d = l.length ∨ d = 0) → Ev (fun k => impl_increasing.l0 k l i) (incB l d i)
  | 0, i, h1, h2, _, _ => ev_end (fun k => by
    simp only [impl_increasing.l0, incB]
    rw [if_neg (by omega)])
  | d + 1, i, h1, h2, h3, h4 => by
    have e : wrap64 ((i : Int) - 1) = (i : Int) - 1 := by unfold wrap64; omega
    have ih := inc_ev l hl d (i + 1) (by omega) (by omega) (by omega) (by omega)
    by_cases c : rd l ((i : Int) - 1) < rd l i
    · refine Ev.step (fun k => ?_) (show Ev (fun k => impl_increasing.l0 k l ((i + 1 : Nat) : Int)) (incB l (d + 1) i) from ?_)
      · simp only [impl_increasing.l0]
        rw [if_pos (by omega), if_pos (by omega), e, if_pos (by omega), if_pos (by omega), if_neg (by omega), up64 i l.length (by omega) (by omega)]
      · simp only [incB, decide_eq_true c, Bool.true_and]
        exact ih
    · refine ev_end (fun k => ?_)
      simp only [impl_increasing.l0, incB, decide_eq_false c, Bool.false_and]
      rw [if_pos (by omega), if_pos (by omega), e, if_pos (by omega), if_pos (by omega), if_pos (by omega)]
theorem rise_split (l : List Int) : (incB l (l.length - 1) 1 && l.all fun x => inB x 0 15) = riseO l := by
  rw [Bool.eq_iff_iff, Bool.and_eq_true, incB_iff]
  unfold riseO riseB
  simp only [List.all_eq_true, List.mem_range, Bool.and_eq_true, Bool.or_eq_true, decide_eq_true_eq]
  constructor
  · rintro ⟨h1, h2⟩ i hi
    refine ⟨?_, ?_⟩
    · rw [rd_get l i hi]; exact h2 _ (List.getElem_mem hi)
    · by_cases c : i = 0
      · exact .inl c
      · exact .inr (h1 i (by omega) (by omega))
  · intro h
    refine ⟨fun j h1 h2 => ?_, fun x hx => ?_⟩
    · rcases (h j (by omega)).2 with c | c
      · omega
      · exact c
    · obtain ⟨i, hi, rfl⟩ := List.mem_iff_getElem.1 hx
      have := (h i hi).1
      rwa [rd_get l i hi] at this
theorem impl_out_ev (l : List Int) (hl : l.length ≤ 1048576) : Ev (fun k => impl_outOk.f k l) (riseO l) := by
  unfold impl_outOk.f
  rw [← rise_split]
  refine Ev.bind (inc_ev l hl (l.length - 1) 1 (by omega) (by omega) (by omega) (by omega)) ?_
  have e : impl_allBetween.f l 0 15 = some (l.all fun x => inB x 0 15) := rfl
  cases incB l (l.length - 1) 1 with
  | true => simp only [if_true, e, Option.bind_some, Bool.true_and]; exact Ev.now _
  | false => simp only [Bool.false_eq_true, if_false, Bool.false_and]; exact Ev.now _
/-- how many places are free -/
def canAns (D : List S50) (B : List S108) (n root kd : Int) (out : List Int) : Int × Bool := if (treeOkB D B && ruleB D B n root kd) = true then (if riseO out = true then (((onceOf (freeL D B kd out (underN B 5 root))).length : Int), true) else (0, false)) else (0, false)
theorem root_devs {D : List S50} {B : List S108} (V : Valid D B) (n root kd : Int) (h : ruleB D B n root kd = true) : kindAt D B root < 5 ∧ ∀ x ∈ underN B 5 root, 0 ≤ devAt D x := by
  unfold ruleB at h
  simp only [Bool.and_eq_true, decide_eq_true_eq] at h
  have := h.1.2
  exact ⟨by omega, under_dev V 5 root (by omega) (by omega)⟩
theorem impl_canPlace (D : List S50) (B : List S108) (hD : D.length ≤ 9223372036854775807) (hw : wfTree D B = true) (n root kd : Int) (b : Bool) (out : List Int) (ho : out.length ≤ 1048576) : Ev (fun k => impl_CanPlace.f k D B n root kd b out) (canAns D B n root kd out) := by
  unfold impl_CanPlace.f canAns
  refine Ev.bind (impl_ruleOk D B hD hw n root kd b) ?_
  cases c : (treeOkB D B && ruleB D B n root kd) with
  | false => simp only [Bool.false_eq_true, if_false]; exact Ev.now _
  | true =>
    simp only [if_true]
    rw [Bool.and_eq_true] at c
    have V := valid_of D B c.1
    obtain ⟨h5, hdev⟩ := root_devs V n root kd c.2
    refine Ev.bind (impl_out_ev out ho) ?_
    by_cases c2 : riseO out = true
    · simp only [if_pos c2]
      refine Ev.bind (impl_under_ev V 5 root (by omega) h5) ?_
      simp only [if_pos (under5 V root), Option.map_eq_bind]
      have h := placeGo_ev V kd out ho (underN B 5 root) [] hdev
      rw [List.nil_append] at h
      exact Ev.bind h (Ev.now _)
    · simp only [if_neg c2]
      exact Ev.now _
theorem spec_canPlace (D : List S50) (B : List S108) (n root kd : Int) (b : Bool) (out : List Int) (ho : out.length ≤ 1048576) : Ev (fun k => spec_CanPlace.f k D B n root kd b out) (canAns D B n root kd out) := by
  have hno : Ev (fun k => spec_CanPlace.j0 k out true D B n root kd b) ((0 : Int), false) := ev_end (fun k => by simp only [spec_CanPlace.j0, if_true])
  unfold spec_CanPlace.f canAns
  refine Ev.bind (spec_ok_ev D B) ?_
  by_cases c : treeOkB D B = true
  · simp only [if_pos c]
    have V := valid_of D B c
    refine Ev.bind (spec_rule_ev V n root kd b) ?_
    by_cases c1 : ruleB D B n root kd = true
    · simp only [c, c1, Bool.and_self, if_true]
      refine Ev.bind (spec_rises_ev out ho) ?_
      obtain ⟨h5, hdev⟩ := root_devs V n root kd c1
      have er : (List.range out.length).all (riseB out) = riseO out := rfl
      rw [er]
      by_cases c2 : riseO out = true
      · simp only [if_pos c2, c2, Bool.not_true]
        refine Ev.step (f := ?f) (fun k => ?_) ?_
        rotate_left
        · simp only [spec_CanPlace.j0, Bool.false_eq_true, if_false]
          exact rfl
        · exact Ev.bind (spec_under_ev V 5 root (by omega) h5) (spec_go_ev V n root kd b out ho _ (under5 V root) hdev)
      · simp only [if_neg c2, Bool.eq_false_iff.2 c2, Bool.not_false]
        exact hno
    · simp only [if_neg c1, Bool.eq_false_iff.2 c1, Bool.and_false, Bool.false_eq_true, if_false]
      exact hno
  · simp only [if_neg c, Bool.eq_false_iff.2 c, Bool.false_and, Bool.false_eq_true, if_false]
    exact hno
theorem FnExactCanPlace (l0_0 : List S110) (l0_1 : List S106) (a1_0 a1_1 a1_2 : Int) (a1_3 : Bool) (l2 : List Int) (hd : good_t22 l0_0) (hb : good_t23 l0_1) (_ : (Lit.int .i64 a1_0).wf = true) (_ : (Lit.int .i64 a1_1).wf = true) (_ : (Lit.int .i64 a1_2).wf = true) (hg : good_t34 l2) : ∃ k, laws_FnExactCanPlace.f k l0_0 l0_1 a1_0 a1_1 a1_2 a1_3 l2 = some true := by
  obtain ⟨g1, g2, g3⟩ := small_of_good l0_0 l0_1 hd hb
  obtain ⟨t, ht, hsz⟩ := szTree_ev l0_0 l0_1 1048576 g1 g2 g3 (by omega) (by omega)
  have hwf := wf_of_good l0_0 l0_1 hd hb
  refine Ev.rounds (r := true) ?_
  unfold laws_FnExactCanPlace.f
  by_cases cl : (l2.length : Int) > 1048576
  · simp only [if_pos cl]
    exact Ev.now _
  simp only [if_neg cl]
  refine Ev.bind hsz ?_
  by_cases c : t < 0
  · exact ev_some fun k => if_pos c
  · simp only [if_neg c]
    have hs := (ht (by omega)).2
    have hto := toTree_ev l0_0 l0_1 hs
    have heq := eqTree_ev l0_0 l0_1 hs
    have hD : (l0_0.map devOf).length ≤ 9223372036854775807 := by rw [List.length_map]; exact g1
    generalize l0_0.map devOf = D at *
    generalize l0_1.map bktOf = B at *
    refine Ev.bind hto (Ev.bind (toInt64S_ev l2 (by omega)) (Ev.bind (spec_canPlace D B a1_0 a1_1 a1_2 a1_3 l2 (by omega)) (Ev.bind (impl_canPlace D B hD hwf a1_0 a1_1 a1_2 a1_3 l2 (by omega)) (Ev.bind heq (Ev.bind (eqInt64S_ev l2 (by omega)) ?_)))))
    exact ev_some fun k => if_pos ⟨rfl, rfl, rfl, rfl⟩

end Go.Proofs.Ytkadeelplnkpgaa.Pure
