/- Walks of the Go functions that the laws call: each returns what a plain Lean function says. Written by a program for these claims. -/
import Derived.Test.YtkadeelplnkpgaaQ0
import Derived.Test.YtkadeelplnkpgaaQf106
import Derived.Test.YtkadeelplnkpgaaQf123
import Derived.Test.YtkadeelplnkpgaaQf63
namespace Go.Proofs.Ytkadeelplnkpgaa.Q
open Go.RowKit Go.Proofs.YtkadeelplnkpgaaW.PrintWords Go.Proofs.YtkadeelplnkpgaaW.PrintLast Go.Proofs.YtkadeelplnkpgaaW.PrintMore
attribute [local go_sem] max2_int min2_int max_two min_two max_three min_three max_four min_four   -- for this text's walks alone
set_option linter.unusedVariables false
set_option linter.unusedSimpArgs false

/-! ### spec_l07In: function 77 -/
def spec_l07In.l0 : Nat → Int → Int → Int → List (S134) → Int → List (S50) → List (S108) → Option (Int × Bool)
  | 0, _, _, _, _, _, _, _ => none
  | k + 1, x2, x3, x10, x11, x12, x800000, x800001 => if 0 ≤ x10 then (if x10 < (x800001.length : Int) then (if x12 < (((rd_T108 x800001 x10).f2).length : Int) then (if 0 ≤ x12 then ((spec_l06Weight.f k x800000 x800001 (rd ((rd_T108 x800001 x10).f2) x12)).bind fun t807 => (if x11.length < 8796093022208 then (spec_l07In.l0 k x2 x3 x10 (x11 ++ [(⟨rd ((rd_T108 x800001 x10).f2) x12, t807⟩ : S134)]) (wrap64 (x12 + 1)) x800000 x800001) else (none))) else (none)) else ((spec_l07Choose.f k x11 x2 x3).bind fun bt811 => (some (bt811.1, bt811.2)))) else (none)) else (none)
def spec_l07In.f (k : Nat) (l0_0 : List (S50)) (l0_1 : List (S108)) (a1 : Int) (a2 : Int) (a3 : Int) : Option (Int × Bool) := (spec_l06Bucket.f k l0_0 l0_1 a1).bind fun t800 => (if t800 < 0 then (some (0, false)) else (spec_l07In.l0 k a2 a3 t800 (([] : List (S134))) 0 l0_0 l0_1))
set_option maxHeartbeats 8000000 in
set_option maxRecDepth 100000 in
theorem spec_l07In.calls (k : Nat) (A0_0 : Option Addr) (c0_0 : Nat) (l0_0 : List (S50)) (A0_1 : Option Addr) (c0_1 : Nat) (l0_1 : List (S108)) (a1 : Int) (a2 : Int) (a3 : Int) (r1 : Int) (r2 : Bool) (w : World) (hr0_0 : Kd.C k50 w A0_0 l0_0.length l0_0) (hc0_0 : l0_0.length ≤ c0_0) (hr0_1 : Kd.C k108 w A0_1 l0_1.length l0_1) (hc0_1 : l0_1.length ≤ c0_1) (h : spec_l07In.f k l0_0 l0_1 a1 a2 a3 = some (r1, r2)) :
    Calls Try.prog 77 #[.agg #[.slice A0_0 l0_0.length c0_0, .slice A0_1 l0_1.length c0_1], .int .i64 a1, .int .i64 a2, .int .i64 a3] w fun e w' => e = .returned (.tuple #[.int .i64 r1, .bool r2]) ∧ Below w.heap.size w w' := by
  have hu31 := Try.underlying31
  have hu134 := Try.underlying134
  have HR0_0 := Aside0.mk hr0_0
  have HC0_0 := Aside0.mk hc0_0
  clear hr0_0 hc0_0
  have HR0_1 := Aside0.mk hr0_1
  have HC0_1 := Aside0.mk hc0_1
  clear hr0_1 hc0_1
  have HB := Aside0.mk (Below.refl w.heap.size w)
  have H : ((spec_l06Bucket.f k l0_0 l0_1 a1).bind fun t800 => (if t800 < 0 then (some (0, false)) else (spec_l07In.l0 k a2 a3 t800 (([] : List (S134))) 0 l0_0 l0_1))) = some (r1, r2) := h
  clear h
  replace H := Option.bind_eq_some_iff.mp H
  obtain ⟨t800, A50, H⟩ := H
  replace H : (if t800 < 0 then (some (0, false)) else (spec_l07In.l0 k a2 a3 t800 (([] : List (S134))) 0 l0_0 l0_1)) = some (r1, r2) := H
  have A5 := Aside0.mk A50
  clear A50
  by_cases c6 : t800 < 0
  · rw [if_pos c6] at H
    have c6b0 : decide (t800 < 0) = true := decide_eq_true c6
    clear c6
    simp only [Option.some.injEq, Prod.mk.injEq] at H
    obtain ⟨rfl, rfl⟩ := H
    go_enter Try.func77, Try.ntmps77
    go_wp2_with (first | ((with_reducible refine gate_dst (N := 4) rfl ?_); refine box_event ?hg (N := 4) ?hd (cs := #[.slice A0_0 l0_0.length c0_0, .slice A0_1 l0_1.length c0_1]) (t := 31) ?hr ?_; (case hd => rfl); (case hg => rfl); (case hr => first | (go_simp; done) | (go_simp; rfl)); intro gb799 hg w7 hbox hb; have n0_ := Aside0.mk (below_step (by repeat first | exact HB.out | apply below_alloc | apply pw_below_drewN | apply below_drew1) hb); have n1_ := Aside0.mk (hbox); have n2_ := Aside0.mk ((by rw [hg]; exact (below_size (by repeat first | exact HB.out | apply below_alloc | apply pw_below_drewN | apply below_drew1)) : w.heap.size ≤ gb799)); have n3_ := Aside0.mk ((by rw [hg]; exact (below_size (by repeat first | exact HB.out | apply below_alloc | apply pw_below_drewN | apply below_drew1)) : w.heap.size ≤ gb799)); clear HB; have HB := n0_; have BK799 := n1_; have GW799 := n2_; have GE799 := n3_; clear n0_ n1_ n2_ n3_; clear hb hbox hg; have hcz8_0 : w7.cell? ⟨gb799, 0, none⟩ = some (.slice A0_0 l0_0.length c0_0) := (blk_cell BK799.out 0).trans rfl; have hcz8_1 : w7.cell? ⟨gb799, 1, none⟩ = some (.slice A0_1 l0_1.length c0_1) := (blk_cell BK799.out 1).trans rfl; have hfz8_0 := blk_frozen BK799.out 0; have hfz8_1 := blk_frozen BK799.out 1) | ((with_reducible refine gate_callee (f := 106) rfl ?_); refine goesL_ (some 16) rfl rfl Try.func106 (by kernel_rfl) rfl #[.agg #[.slice A0_0 l0_0.length c0_0, .slice A0_1 l0_1.length c0_1], .int .i64 a1] rfl (by (try simp only [List.map_toArray, List.map_cons, List.map_nil]); first | done | rfl | (simp only [List.length_drop, List.length_take]; rfl)) ?_; (with_reducible refine (spec_l06Bucket.calls k _ _ l0_0 _ _ l0_1 a1 t800 _ ?side1 ?side2 ?side3 ?side4 A5.out).mono ?_); (case side1 => repeat (first | exact (Kd.C_below HR0_0.out HB.out) | (with_reducible refine Kd.C_alloc ?_ _) | (with_reducible refine Kd.C_drewN ?_ _) | (with_reducible refine Kd.C_drew ?_))); (case side2 => exact HC0_0.out); (case side3 => repeat (first | exact (Kd.C_below HR0_1.out HB.out) | (with_reducible refine Kd.C_alloc ?_ _) | (with_reducible refine Kd.C_drewN ?_ _) | (with_reducible refine Kd.C_drew ?_))); (case side4 => exact HC0_1.out); rintro e w9 ⟨rfl, hb⟩; refine ⟨_, rfl, ?_⟩; have n0_ := Aside0.mk (blk_below (g := gb799) (o := .cells #[.slice A0_0 l0_0.length c0_0, .slice A0_1 l0_1.length c0_1] 31 (0, 0)) (by (with_reducible repeat first | apply blk_drewN | apply blk_drew | apply blk_alloc); exact BK799.out) hb); have n1_ := Aside0.mk (below_step (by repeat (first | (with_reducible first | exact HB.out | apply below_alloc | apply pw_below_drewN | apply below_drew1 | refine below_set ?_ GE799.out) | exact HB.out)) hb); clear BK799; clear HB; have BK799 := n0_; have HB := n1_; clear n0_ n1_; (try clear hb); (try clear hb2); (try clear hk); (try clear hi)))
    go_ret2
    exact ⟨by first | rfl | (simp [*, errW_none, errW_some] <;> rfl), by repeat (first | (with_reducible first | exact HB.out | apply below_alloc | apply pw_below_drewN | apply below_drew1 | refine below_set ?_ GE799.out) | exact HB.out)⟩
  · rw [if_neg c6] at H
    have c6b0 : decide (t800 < 0) = false := decide_eq_false c6
    clear c6
    obtain ⟨y801, hy801⟩ : ∃ y_ : List (S134), y_ = (([] : List (S134))) := ⟨_, rfl⟩
    replace H : (spec_l07In.l0 k a2 a3 t800 y801 0 l0_0 l0_1) = some (r1, r2) := by first | (rw [hy801]; with_reducible exact H) | (have H2_ := (Option.bind_some _ _).symm.trans H; rw [hy801]; with_reducible exact H2_) | (have H2_ := (Option.bind_some _ _).symm.trans H; with_reducible exact H2_) | with_reducible exact H | (rw [hy801]; exact H) | exact H
    have Ny801 := Aside0.mk hy801
    clear hy801
    have H' := Aside0.mk H
    clear H
    go_enter Try.func77, Try.ntmps77
    go_wp2_with (first | ((with_reducible refine gate_dst (N := 4) rfl ?_); refine box_event ?hg (N := 4) ?hd (cs := #[.slice A0_0 l0_0.length c0_0, .slice A0_1 l0_1.length c0_1]) (t := 31) ?hr ?_; (case hd => rfl); (case hg => rfl); (case hr => first | (go_simp; done) | (go_simp; rfl)); intro gb799 hg w10 hbox hb; have n0_ := Aside0.mk (below_step (by repeat first | exact HB.out | apply below_alloc | apply pw_below_drewN | apply below_drew1) hb); have n1_ := Aside0.mk (hbox); have n2_ := Aside0.mk ((by rw [hg]; exact (below_size (by repeat first | exact HB.out | apply below_alloc | apply pw_below_drewN | apply below_drew1)) : w.heap.size ≤ gb799)); have n3_ := Aside0.mk ((by rw [hg]; exact (below_size (by repeat first | exact HB.out | apply below_alloc | apply pw_below_drewN | apply below_drew1)) : w.heap.size ≤ gb799)); clear HB; have HB := n0_; have BK799 := n1_; have GW799 := n2_; have GE799 := n3_; clear n0_ n1_ n2_ n3_; clear hb hbox hg; have hcz11_0 : w10.cell? ⟨gb799, 0, none⟩ = some (.slice A0_0 l0_0.length c0_0) := (blk_cell BK799.out 0).trans rfl; have hcz11_1 : w10.cell? ⟨gb799, 1, none⟩ = some (.slice A0_1 l0_1.length c0_1) := (blk_cell BK799.out 1).trans rfl; have hfz11_0 := blk_frozen BK799.out 0; have hfz11_1 := blk_frozen BK799.out 1) | ((with_reducible refine gate_callee (f := 106) rfl ?_); refine goesL_ (some 16) rfl rfl Try.func106 (by kernel_rfl) rfl #[.agg #[.slice A0_0 l0_0.length c0_0, .slice A0_1 l0_1.length c0_1], .int .i64 a1] rfl (by (try simp only [List.map_toArray, List.map_cons, List.map_nil]); first | done | rfl | (simp only [List.length_drop, List.length_take]; rfl)) ?_; (with_reducible refine (spec_l06Bucket.calls k _ _ l0_0 _ _ l0_1 a1 t800 _ ?side1 ?side2 ?side3 ?side4 A5.out).mono ?_); (case side1 => repeat (first | exact (Kd.C_below HR0_0.out HB.out) | (with_reducible refine Kd.C_alloc ?_ _) | (with_reducible refine Kd.C_drewN ?_ _) | (with_reducible refine Kd.C_drew ?_))); (case side2 => exact HC0_0.out); (case side3 => repeat (first | exact (Kd.C_below HR0_1.out HB.out) | (with_reducible refine Kd.C_alloc ?_ _) | (with_reducible refine Kd.C_drewN ?_ _) | (with_reducible refine Kd.C_drew ?_))); (case side4 => exact HC0_1.out); rintro e w12 ⟨rfl, hb⟩; refine ⟨_, rfl, ?_⟩; have n0_ := Aside0.mk (blk_below (g := gb799) (o := .cells #[.slice A0_0 l0_0.length c0_0, .slice A0_1 l0_1.length c0_1] 31 (0, 0)) (by (with_reducible repeat first | apply blk_drewN | apply blk_drew | apply blk_alloc); exact BK799.out) hb); have n1_ := Aside0.mk (below_step (by repeat (first | (with_reducible first | exact HB.out | apply below_alloc | apply pw_below_drewN | apply below_drew1 | refine below_set ?_ GE799.out) | exact HB.out)) hb); clear BK799; clear HB; have BK799 := n0_; have HB := n1_; clear n0_ n1_; (try clear hb); (try clear hb2); (try clear hk); (try clear hi)) | ((with_reducible refine gate_dst (N := 19) rfl ?_); refine Kd.R_lit k134 _ 134 ?hg (N := 19) ?hd (xs := ([] : List (S134))) (inner := []) (ok := fun _ => True) (okp := fun _ => True) ?hr ?hp (fun _ hk => hk) trivial (Below.refl _ _) (Nat.le_refl _) (by simp) ?_; (case hd => rfl); (case hg => rfl); (case hr => first | (go_simp; done) | (go_simp; rfl)); (case hp => exact (Reps.none _ _)); intro v802 w13 ho14 hb hg_ hnew_; clear hg_ hnew_; (first | rw [← Ny801.out] at ho14 | (simp only [Int.reduceToNat] at ho14; rw [← Ny801.out] at ho14)); have n0_ := Aside0.mk (Kd.R_lower ho14 (below_size (by repeat (first | (with_reducible first | exact HB.out | apply below_alloc | apply pw_below_drewN | apply below_drew1 | refine below_set ?_ GE799.out) | exact HB.out)))); have n1_ := Aside0.mk (blk_below (g := gb799) (o := .cells #[.slice A0_0 l0_0.length c0_0, .slice A0_1 l0_1.length c0_1] 31 (0, 0)) (by (with_reducible repeat first | apply blk_drewN | apply blk_drew | apply blk_alloc); exact BK799.out) hb); have n2_ := Aside0.mk (below_step (by repeat (first | (with_reducible first | exact HB.out | apply below_alloc | apply pw_below_drewN | apply below_drew1 | refine below_set ?_ GE799.out) | exact HB.out)) hb); clear BK799; clear HB; have HO803 := n0_; have BK799 := n1_; have HB := n2_; clear n0_ n1_ n2_; clear hb ho14))
    go_loopg [11, 12] k (fun kq v11 v12 w' => ∃ (x11_1 : List (S134)) (x12_1 : Int), v12 = .int .i64 x12_1 ∧ Aside0 (spec_l07In.l0 kq a2 a3 t800 x11_1 x12_1 l0_0 l0_1 = some (r1, r2)) ∧ Aside0 (kq ≤ k) ∧ Aside0 (Kd.R k134 134 w' w.heap.size (fun _ => True) v11 x11_1) ∧ Aside0 (w'.heap[gb799]? = some (.cells #[(.slice A0_0 l0_0.length c0_0), (.slice A0_1 l0_1.length c0_1)] 31 (0, 0))) ∧ Aside0 (Below w.heap.size w w'))
    case atStart => exact ⟨(y801), (0), (by first | rfl | (simp; done) | (simp [*]; done)), H', ⟨Nat.le_refl _⟩, ⟨by (with_reducible repeat (first | apply Kd.R_alloc | apply Kd.R_drewN | apply Kd.R_drew)); exact HO803.out⟩, ⟨by (with_reducible repeat first | apply blk_drewN | apply blk_drew | apply blk_alloc); exact BK799.out⟩, ⟨by repeat (first | (with_reducible first | exact HB.out | apply below_alloc | apply pw_below_drewN | apply below_drew1 | refine below_set ?_ GE799.out) | exact HB.out)⟩⟩
    case round =>
      clear H'
      try clear c1
      try clear p2
      try clear c6
      try clear c6b0
      try clear c7
      try clear c10
      try clear hcz11_0
      try clear hcz11_1
      try clear hcz8_0
      try clear hcz8_1
      try clear hfz11_0
      try clear hfz11_1
      try clear hfz8_0
      try clear hfz8_1
      obtain ⟨x11_1, x12_1, rfl, HA, HK1, HO_11, BK799, HB⟩ := hrel
      cases gk with
      | zero => exact absurd HA.out (by simp [spec_l07In.l0])
      | succ k1 =>
        have H := HA.out
        clear HA
        simp only [spec_l07In.l0] at H
        by_cases c15 : 0 ≤ t800
        · rw [if_pos c15] at H
          have c15b0 : decide (0 ≤ t800) = true := decide_eq_true c15
          clear c15
          by_cases c16 : t800 < (l0_1.length : Int)
          · rw [if_pos c16] at H
            have c16b0 : decide (t800 < (l0_1.length : Int)) = true := decide_eq_true c16
            clear c16
            by_cases c17 : x12_1 < (((rd_T108 l0_1 t800).f2).length : Int)
            · rw [if_pos c17] at H
              have c17b0 : decide (x12_1 < (((rd_T108 l0_1 t800).f2).length : Int)) = true := decide_eq_true c17
              clear c17
              by_cases c18 : 0 ≤ x12_1
              · rw [if_pos c18] at H
                have c18b0 : decide (0 ≤ x12_1) = true := decide_eq_true c18
                clear c18
                replace H := Option.bind_eq_some_iff.mp H
                obtain ⟨t807, A190, H⟩ := H
                replace H : (if x11_1.length < 8796093022208 then (spec_l07In.l0 k1 a2 a3 t800 (x11_1 ++ [(⟨rd ((rd_T108 l0_1 t800).f2) x12_1, t807⟩ : S134)]) (wrap64 (x12_1 + 1)) l0_0 l0_1) else (none)) = some (r1, r2) := H
                have A19 := Aside0.mk A190
                clear A190
                by_cases c20 : x11_1.length < 8796093022208
                · rw [if_pos c20] at H
                  have LMc20 := Aside0.mk c20
                  clear c20
                  obtain ⟨y808, hy808⟩ : ∃ y_ : List (S134), y_ = (x11_1 ++ [(⟨rd ((rd_T108 l0_1 t800).f2) x12_1, t807⟩ : S134)]) := ⟨_, rfl⟩
                  replace H : (spec_l07In.l0 k1 a2 a3 t800 y808 (wrap64 (x12_1 + 1)) l0_0 l0_1) = some (r1, r2) := by first | (rw [hy808]; with_reducible exact H) | (have H2_ := (Option.bind_some _ _).symm.trans H; rw [hy808]; with_reducible exact H2_) | (have H2_ := (Option.bind_some _ _).symm.trans H; with_reducible exact H2_) | with_reducible exact H | (rw [hy808]; exact H) | exact H
                  have Ny808 := Aside0.mk hy808
                  clear hy808
                  have H' := Aside0.mk H
                  clear H
                  have hcz21_0 : wr.cell? ⟨gb799, 0, none⟩ = some (.slice A0_0 l0_0.length c0_0) := (blk_cell BK799.out 0).trans rfl
                  have hcz21_1 : wr.cell? ⟨gb799, 1, none⟩ = some (.slice A0_1 l0_1.length c0_1) := (blk_cell BK799.out 1).trans rfl
                  have hfz21_0 := blk_frozen BK799.out 0
                  have hfz21_1 := blk_frozen BK799.out 1
                  have p804 : 0 ≤ (t800 : Int) := of_decide_eq_true (by assumption)
                  have q804 : t800 < (l0_1.length : Int) := of_decide_eq_true (by assumption)
                  obtain ⟨ad804, A804_2, c804_2, e804, hx804_0, hx804_1, hx804_2, hl804_2, hi804_2⟩ := at_T108 HR0_1.out t800 p804 q804
                  cases e804
                  replace hx804_0 := (HB.out.cell (World.block_lt_of_cell? w _ hx804_0)).trans hx804_0
                  replace hx804_1 := (HB.out.cell (World.block_lt_of_cell? w _ hx804_1)).trans hx804_1
                  replace hx804_2 := (HB.out.cell (World.block_lt_of_cell? w _ hx804_2)).trans hx804_2
                  have HR804_2 := Aside0.mk hi804_2
                  have HC804_2 := Aside0.mk hl804_2
                  clear hi804_2 hl804_2
                  replace p804 := eq_true p804
                  replace q804 := eq_true q804
                  have p805 : 0 ≤ (t800 : Int) := of_decide_eq_true (by assumption)
                  have q805 : t800 < (l0_1.length : Int) := of_decide_eq_true (by assumption)
                  obtain ⟨ad805, A805_2, c805_2, e805, hx805_0, hx805_1, hx805_2, hl805_2, hi805_2⟩ := at_T108 HR0_1.out t800 p805 q805
                  obtain rfl : ad804 = ad805 := (by injection e805)
                  replace hx805_0 := (HB.out.cell (World.block_lt_of_cell? w _ hx805_0)).trans hx805_0
                  replace hx805_1 := (HB.out.cell (World.block_lt_of_cell? w _ hx805_1)).trans hx805_1
                  replace hx805_2 := (HB.out.cell (World.block_lt_of_cell? w _ hx805_2)).trans hx805_2
                  have HR805_2 := Aside0.mk hi805_2
                  have HC805_2 := Aside0.mk hl805_2
                  clear hi805_2 hl805_2
                  replace p805 := eq_true p805
                  replace q805 := eq_true q805
                  have ea_ := Option.some.inj (hx804_2.symm.trans hx805_2)
                  injection ea_ with ea_ en_ ec_
                  subst ea_
                  subst ec_
                  clear en_
                  have p806 : 0 ≤ (x12_1 : Int) := of_decide_eq_true (by assumption)
                  have q806 : x12_1 < (((rd_T108 l0_1 t800).f2).length : Int) := of_decide_eq_true (by assumption)
                  obtain ⟨ad806, e806, hx806_0⟩ := Kd.at_int HR805_2.out x12_1 p806 q806
                  cases e806
                  replace hx806_0 := (HB.out.cell (World.block_lt_of_cell? w _ hx806_0)).trans hx806_0
                  replace p806 := eq_true p806
                  replace q806 := eq_true q806
                  go_wp2_with (first | ((with_reducible refine gate_callee (f := 63) rfl ?_); refine goesL_ (some 44) rfl rfl Try.func63 (by kernel_rfl) rfl #[.agg #[.slice A0_0 l0_0.length c0_0, .slice (some ad804) l0_1.length c0_1], .int .i64 (rd ((rd_T108 l0_1 t800).f2) x12_1)] rfl (by (try simp only [List.map_toArray, List.map_cons, List.map_nil]); first | done | rfl | (simp only [List.length_drop, List.length_take]; rfl)) ?_; (with_reducible refine (spec_l06Weight.calls k1 _ _ l0_0 _ _ l0_1 (rd ((rd_T108 l0_1 t800).f2) x12_1) t807 _ ?side1 ?side2 ?side3 ?side4 A19.out).mono ?_); (case side1 => repeat (first | exact (Kd.C_below HR0_0.out HB.out) | (with_reducible refine Kd.C_alloc ?_ _) | (with_reducible refine Kd.C_drewN ?_ _) | (with_reducible refine Kd.C_drew ?_))); (case side2 => exact HC0_0.out); (case side3 => repeat (first | exact (Kd.C_below HR0_1.out HB.out) | (with_reducible refine Kd.C_alloc ?_ _) | (with_reducible refine Kd.C_drewN ?_ _) | (with_reducible refine Kd.C_drew ?_))); (case side4 => exact HC0_1.out); rintro e w22 ⟨rfl, hb⟩; refine ⟨_, rfl, ?_⟩; have n0_ := Aside0.mk (Kd.R_below (by (with_reducible repeat (first | apply Kd.R_alloc | apply Kd.R_drewN | apply Kd.R_drew)); exact HO_11.out) hb); have n1_ := Aside0.mk (blk_below (g := gb799) (o := .cells #[.slice A0_0 l0_0.length c0_0, .slice (some ad804) l0_1.length c0_1] 31 (0, 0)) (by (with_reducible repeat first | apply blk_drewN | apply blk_drew | apply blk_alloc); exact BK799.out) hb); have n2_ := Aside0.mk (below_step (by repeat (first | (with_reducible first | exact HB.out | apply below_alloc | apply pw_below_drewN | apply below_drew1 | refine below_set ?_ GE799.out) | exact HB.out)) hb); clear HO_11; clear BK799; clear HB; have HO_11 := n0_; have BK799 := n1_; have HB := n2_; clear n0_ n1_ n2_; (try clear hb); (try clear hb2); (try clear hk); (try clear hi)) | ((with_reducible refine gate_builtin (b := .append) (xs := #[.tmp 40, .tmp 46]) rfl ?_); at_builtin; refine Kd.R_append k134 (w0 := w) w.heap.size rfl (.tmp 40) (.tmp 46) 133 134 (.agg #[(.int .i64 0), (.int .i64 0)]) 16 rfl Try.underlying133 info134 rfl (by decide) (by omega) u11 x11_1 (⟨rd ((rd_T108 l0_1 t800).f2) x12_1, t807⟩ : S134) [.int .i64 (rd ((rd_T108 l0_1 t800).f2) x12_1), .int .i64 t807] (fun _ => True) (fun _ => False) rfl rfl ?aP (fun _ hk => hk.elim) ?aF ?aO ?aB ?aS ?aL ?_; (case aP => exact k134_mkM _ _ _ (⟨rd ((rd_T108 l0_1 t800).f2) x12_1, t807⟩ : S134)); (case aB => exact (by repeat (first | (with_reducible first | exact HB.out | apply below_alloc | apply pw_below_drewN | apply below_drew1 | refine below_set ?_ GE799.out) | exact HB.out))); (case aF => exact (fun _ _ => trivial)); (case aO => exact (by (with_reducible repeat (first | apply Kd.R_alloc | apply Kd.R_drewN | apply Kd.R_drew)); exact HO_11.out)); (case aS => exact (below_size (by repeat (first | (with_reducible first | exact HB.out | apply below_alloc | apply pw_below_drewN | apply below_drew1 | refine below_set ?_ GE799.out) | exact HB.out)))); (case aL => have := LMc20.out; omega); intro v809 w23 ho hb hg hat; rw [← Ny808.out] at ho; have n0_ := Aside0.mk (blk_grown (g := gb799) (o := .cells #[.slice A0_0 l0_0.length c0_0, .slice (some ad804) l0_1.length c0_1] 31 (0, 0)) (by (with_reducible repeat first | apply blk_drewN | apply blk_drew | apply blk_alloc); exact BK799.out) hg (Kd.R_ne HO_11.out BK799.out (by decide))); have n1_ := Aside0.mk (hb); have n2_ := Aside0.mk (ho); clear BK799; clear HB; clear HO_11; have BK799 := n0_; have HB := n1_; have HO810 := n2_; clear n0_ n1_ n2_; clear ho hb hg hat))
                  go_roundg k1
                  case measure => have := HK1.out; omega
                  case rel => exact ⟨(y808), (wrap64 (x12_1 + 1)), (by first | rfl | (simp; done) | (simp [*]; done)), H', ⟨by have := HK1.out; omega⟩, ⟨by (with_reducible repeat (first | apply Kd.R_alloc | apply Kd.R_drewN | apply Kd.R_drew)); exact HO810.out⟩, ⟨by (with_reducible repeat first | apply blk_drewN | apply blk_drew | apply blk_alloc); exact BK799.out⟩, ⟨by repeat (first | (with_reducible first | exact HB.out | apply below_alloc | apply pw_below_drewN | apply below_drew1 | refine below_set ?_ GE799.out) | exact HB.out)⟩⟩
                · rw [if_neg c20] at H
                  exact absurd H (by simp)
              · rw [if_neg c18] at H
                exact absurd H (by simp)
            · rw [if_neg c17] at H
              have c17b0 : decide (x12_1 < (((rd_T108 l0_1 t800).f2).length : Int)) = false := decide_eq_false c17
              clear c17
              replace H := Option.bind_eq_some_iff.mp H
              obtain ⟨⟨t811, t812⟩, A240, H⟩ := H
              replace H : (some (t811, t812)) = some (r1, r2) := H
              have A24 := Aside0.mk A240
              clear A240
              simp only [Option.some.injEq, Prod.mk.injEq] at H
              obtain ⟨rfl, rfl⟩ := H
              have hcz25_0 : wr.cell? ⟨gb799, 0, none⟩ = some (.slice A0_0 l0_0.length c0_0) := (blk_cell BK799.out 0).trans rfl
              have hcz25_1 : wr.cell? ⟨gb799, 1, none⟩ = some (.slice A0_1 l0_1.length c0_1) := (blk_cell BK799.out 1).trans rfl
              have hfz25_0 := blk_frozen BK799.out 0
              have hfz25_1 := blk_frozen BK799.out 1
              have p804 : 0 ≤ (t800 : Int) := of_decide_eq_true (by assumption)
              have q804 : t800 < (l0_1.length : Int) := of_decide_eq_true (by assumption)
              obtain ⟨ad804, A804_2, c804_2, e804, hx804_0, hx804_1, hx804_2, hl804_2, hi804_2⟩ := at_T108 HR0_1.out t800 p804 q804
              cases e804
              replace hx804_0 := (HB.out.cell (World.block_lt_of_cell? w _ hx804_0)).trans hx804_0
              replace hx804_1 := (HB.out.cell (World.block_lt_of_cell? w _ hx804_1)).trans hx804_1
              replace hx804_2 := (HB.out.cell (World.block_lt_of_cell? w _ hx804_2)).trans hx804_2
              have HR804_2 := Aside0.mk hi804_2
              have HC804_2 := Aside0.mk hl804_2
              clear hi804_2 hl804_2
              replace p804 := eq_true p804
              replace q804 := eq_true q804
              obtain ⟨Ao26, co26, eo26⟩ := Kd.R_slice HO_11.out
              subst eo26
              go_wp2_with (first | ((with_reducible refine gate_callee (f := 123) rfl ?_); refine goesL_ (some 51) rfl rfl Try.func123 (by kernel_rfl) rfl #[.slice Ao26 x11_1.length co26, .int .i64 a2, .int .i64 a3] rfl (by (try simp only [List.map_toArray, List.map_cons, List.map_nil]); first | done | rfl | (simp only [List.length_drop, List.length_take]; rfl)) ?_; (with_reducible refine (spec_l07Choose.calls k1 _ _ x11_1 a2 a3 t811 t812 _ ?side1 ?side2 A24.out).mono ?_); (case side1 => repeat (first | exact (Kd.R_reads' HO_11.out).2.2 | (with_reducible refine Kd.C_alloc ?_ _) | (with_reducible refine Kd.C_drewN ?_ _) | (with_reducible refine Kd.C_drew ?_))); (case side2 => exact (Kd.R_reads' HO_11.out).2.1); rintro e w27 ⟨rfl, hb⟩; refine ⟨_, rfl, ?_⟩; have n0_ := Aside0.mk (Kd.R_below (by (with_reducible repeat (first | apply Kd.R_alloc | apply Kd.R_drewN | apply Kd.R_drew)); exact HO_11.out) hb); have n1_ := Aside0.mk (blk_below (g := gb799) (o := .cells #[.slice A0_0 l0_0.length c0_0, .slice (some ad804) l0_1.length c0_1] 31 (0, 0)) (by (with_reducible repeat first | apply blk_drewN | apply blk_drew | apply blk_alloc); exact BK799.out) hb); have n2_ := Aside0.mk (below_step (by repeat (first | (with_reducible first | exact HB.out | apply below_alloc | apply pw_below_drewN | apply below_drew1 | refine below_set ?_ GE799.out) | exact HB.out)) hb); clear HO_11; clear BK799; clear HB; have HO_11 := n0_; have BK799 := n1_; have HB := n2_; clear n0_ n1_ n2_; (try clear hb); (try clear hb2); (try clear hk); (try clear hi)))
              go_ret2
              exact ⟨by first | rfl | (simp [*, errW_none, errW_some] <;> rfl), by repeat (first | (with_reducible first | exact HB.out | apply below_alloc | apply pw_below_drewN | apply below_drew1 | refine below_set ?_ GE799.out) | exact HB.out)⟩
          · rw [if_neg c16] at H
            exact absurd H (by simp)
        · rw [if_neg c15] at H
          exact absurd H (by simp)

end Go.Proofs.Ytkadeelplnkpgaa.Q
