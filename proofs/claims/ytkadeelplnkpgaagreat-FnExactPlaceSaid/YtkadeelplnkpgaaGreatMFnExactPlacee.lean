/- Walks and plain laws of one claim, several texts in one. -/
import Derived.Test.YtkadeelplnkpgaaGreatQ0
import Derived.Test.YtkadeelplnkpgaaGreatMFnExactPlacea
import Derived.Test.YtkadeelplnkpgaaGreatMFnExactPlaced
import Derived.Test.YtkadeelplnkpgaaGreatMFnExactPlacec
import Derived.Test.YtkadeelplnkpgaaGreatQf16
import Derived.Test.YtkadeelplnkpgaaGreatWBMore
import Derived.Test.YtkadeelplnkpgaaGreatOTypes
import Derived.Test.YtkadeelplnkpgaaGreatMFnExactPlaceb
import Derived.Laws.BitsLemmas
namespace Go.Proofs.YtkadeelplnkpgaaGreat.Q
open Go.RowKit Go.Proofs.YtkadeelplnkpgaaGreatW.PrintWords Go.Proofs.YtkadeelplnkpgaaGreatW.PrintLast Go.Proofs.YtkadeelplnkpgaaGreatW.PrintMore
attribute [local go_sem] max2_int min2_int max_two min_two max_three min_three max_four min_four   -- for this text's walks alone
set_option linter.unusedVariables false
set_option linter.unusedSimpArgs false
/-! ### impl_Place: function 17 -/
def impl_Place.f (k : Nat) (l0_0 : List (S72)) (l0_1 : List (S68)) (a1_0 : Int) (a1_1 : Int) (a1_2 : Int) (a1_3 : Bool) (a2 : Int) (a3 : Int) (l4 : List Int) : Option (List Int × Bool) := (impl_RuleOk.f k l0_0 l0_1 a1_0 a1_1 a1_2 a1_3).bind fun t502 => (if t502 = true then ((impl_between.f a3 0 7).bind fun t503 => (if t503 = true then ((impl_outOk.f k l4).bind fun t504 => (if t504 = true then ((impl_Tree_place.f k l0_0 l0_1 a1_0 a1_1 a1_2 a1_3 a2 a3 l4).bind fun t505 => (some (t505, true))) else (some (([] : List Int), false)))) else (some (([] : List Int), false)))) else (some (([] : List Int), false)))
set_option maxHeartbeats 8000000 in
set_option maxRecDepth 100000 in
theorem impl_Place.calls (k : Nat) (A0_0 : Option Addr) (c0_0 : Nat) (l0_0 : List (S72)) (A0_1 : Option Addr) (c0_1 : Nat) (l0_1 : List (S68)) (a1_0 : Int) (a1_1 : Int) (a1_2 : Int) (a1_3 : Bool) (a2 : Int) (a3 : Int) (A4 : Option Addr) (c4 : Nat) (l4 : List Int) (r1 : List Int) (r2 : Bool) (w : World) (hr0_0 : Kd.C k72 w A0_0 l0_0.length l0_0) (hc0_0 : l0_0.length ≤ c0_0) (hr0_1 : Kd.C k68 w A0_1 l0_1.length l0_1) (hc0_1 : l0_1.length ≤ c0_1) (hr4 : Kd.C (Kd.int .i64) w A4 l4.length l4) (hc4 : l4.length ≤ c4) (h : impl_Place.f k l0_0 l0_1 a1_0 a1_1 a1_2 a1_3 a2 a3 l4 = some (r1, r2)) :
  Calls Tryz.prog 17 #[.agg #[.slice A0_0 l0_0.length c0_0, .slice A0_1 l0_1.length c0_1], .agg #[.int .i64 a1_0, .int .i64 a1_1, .int .i64 a1_2, .bool a1_3], .int .i64 a2, .int .i64 a3, .slice A4 l4.length c4] w fun e w' => ∃ v0_ : Value, e = .returned (.tuple #[v0_, .bool r2]) ∧ Kd.R (Kd.int .i64) 2 w' w.heap.size (fun _ => True) v0_ r1 ∧ Below w.heap.size w w' := by
 have hu35 := Tryz.underlying35
 have hu37 := Tryz.underlying37
 have HR0_0 := Aside0.mk hr0_0
 have HC0_0 := Aside0.mk hc0_0
 clear hr0_0 hc0_0
 have HR0_1 := Aside0.mk hr0_1
 have HC0_1 := Aside0.mk hc0_1
 clear hr0_1 hc0_1
 have HR4 := Aside0.mk hr4
 have HC4 := Aside0.mk hc4
 clear hr4 hc4
 have HB := Aside0.mk (Below.refl w.heap.size w)
 have H : ((impl_RuleOk.f k l0_0 l0_1 a1_0 a1_1 a1_2 a1_3).bind fun t502 => (if t502 = true then ((impl_between.f a3 0 7).bind fun t503 => (if t503 = true then ((impl_outOk.f k l4).bind fun t504 => (if t504 = true then ((impl_Tree_place.f k l0_0 l0_1 a1_0 a1_1 a1_2 a1_3 a2 a3 l4).bind fun t505 => (some (t505, true))) else (some (([] : List Int), false)))) else (some (([] : List Int), false)))) else (some (([] : List Int), false)))) = some (r1, r2) := h
 clear h
 replace H := Option.bind_eq_some_iff.mp H
 obtain ⟨t502, A60, H⟩ := H
 set_option simprocs false in try dsimp only at H
 have A6 := Aside0.mk A60
 clear A60
 by_cases c7 : t502 = true
 ·subst c7
  rw [if_pos rfl] at H
  replace H := Option.bind_eq_some_iff.mp H
  obtain ⟨t503, A80, H⟩ := H
  set_option simprocs false in try dsimp only at H
  have A8 := Aside0.mk A80
  clear A80
  by_cases c9 : t503 = true
  ·subst c9
   rw [if_pos rfl] at H
   replace H := Option.bind_eq_some_iff.mp H
   obtain ⟨t504, A100, H⟩ := H
   set_option simprocs false in try dsimp only at H
   have A10 := Aside0.mk A100
   clear A100
   by_cases c11 : t504 = true
   ·subst c11
    rw [if_pos rfl] at H
    replace H := Option.bind_eq_some_iff.mp H
    obtain ⟨t505, A120, H⟩ := H
    set_option simprocs false in try dsimp only at H
    have A12 := Aside0.mk A120
    clear A120
    simp only [Option.some.injEq, Prod.mk.injEq] at H
    obtain ⟨rfl, rfl⟩ := H
    go_enter Tryz.func17, Tryz.ntmps17
    go_wp2_with (first | ((with_reducible refine gate_dst (N := 5) rfl ?_); refine box_event ?hg (N := 5) ?hd (cs := #[.slice A0_0 l0_0.length c0_0, .slice A0_1 l0_1.length c0_1]) (t := 35) ?hr ?_; (case hd => rfl); (case hg => rfl); (case hr => first | (go_simp; done) | (go_simp; rfl)); intro gb500 hg w13 hbox hb; have n0_ := Aside0.mk (below_step (by repeat first | exact HB.out | apply pw_below_drewN) hb); have n1_ := Aside0.mk (hbox); clear HB; have HB := n0_; have BK500 := n1_; clear n0_ n1_; clear hb hbox hg) | ((with_reducible refine gate_dst (N := 6) rfl ?_); refine box_event ?hg (N := 6) ?hd (cs := #[.int .i64 a1_0, .int .i64 a1_1, .int .i64 a1_2, .bool a1_3]) (t := 37) ?hr ?_; (case hd => rfl); (case hg => rfl); (case hr => first | (go_simp; done) | (go_simp; rfl)); intro gb501 hg w14 hbox hb; have n0_ := Aside0.mk (blk_below (by exact BK500.out) hb); have n1_ := Aside0.mk (below_step (by repeat first | exact HB.out | apply pw_below_drewN) hb); have n2_ := Aside0.mk (hbox); clear BK500; clear HB; have BK500 := n0_; have HB := n1_; have BK501 := n2_; clear n0_ n1_ n2_; clear hb hbox hg; have hcz16_0 := (blk_cell BK500.out 0).trans rfl; have hcz16_1 := (blk_cell BK500.out 1).trans rfl; have hcz17_0 := (blk_cell BK501.out 0).trans rfl; have hcz17_1 := (blk_cell BK501.out 1).trans rfl; have hcz17_2 := (blk_cell BK501.out 2).trans rfl; have hcz17_3 := (blk_cell BK501.out 3).trans rfl) | ((with_reducible refine gate_callee (f := 26) rfl ?_); refine gl (some 14) Tryz.func26 #[.agg #[.slice A0_0 l0_0.length c0_0, .slice A0_1 l0_1.length c0_1], .agg #[.int .i64 a1_0, .int .i64 a1_1, .int .i64 a1_2, .bool a1_3]] ?_; (with_reducible refine (impl_RuleOk.calls k _ _ l0_0 _ _ l0_1 a1_0 a1_1 a1_2 a1_3 true _ ?side1 ?side2 ?side3 ?side4 A6.out).mono ?_); (case side1 => exact (Kd.C_below HR0_0.out HB.out)); (case side2 => exact HC0_0.out); (case side3 => exact (Kd.C_below HR0_1.out HB.out)); (case side4 => exact HC0_1.out); rintro e w18 ⟨rfl, hb⟩; refine ⟨_, rfl, ?_⟩; have n0_ := Aside0.mk (blk_below (by exact BK500.out) hb); have n1_ := Aside0.mk (blk_below (by exact BK501.out) hb); have n2_ := Aside0.mk (below_step (by repeat first | exact HB.out | apply pw_below_drewN) hb); clear BK500; clear BK501; clear HB; have BK500 := n0_; have BK501 := n1_; have HB := n2_; clear n0_ n1_ n2_; (try clear hb); (try clear hb2); (try clear hk); (try clear hi)) | (go_at_call 27; (with_reducible refine (impl_between.calls a3 0 7 true _ A8.out).mono ?_); rintro e w' ⟨rfl, ⟨nd, rfl⟩⟩) | (go_at_call 35; (with_reducible refine (impl_outOk.calls k _ _ l4 true _ ?side1 ?side2 A10.out).mono ?_); (case side1 => exact (Kd.C_below HR4.out (by repeat first | exact HB.out | apply pw_below_drewN))); (case side2 => exact HC4.out); rintro e w19 ⟨rfl, hb⟩; have n0_ := Aside0.mk (blk_below (by exact BK500.out) hb); have n1_ := Aside0.mk (blk_below (by exact BK501.out) hb); have n2_ := Aside0.mk (below_step (by repeat first | exact HB.out | apply pw_below_drewN) hb); clear BK500; clear BK501; clear HB; have BK500 := n0_; have BK501 := n1_; have HB := n2_; clear n0_ n1_ n2_; (try clear hb); (try clear hb2); (try clear hk); (try clear hi); have hcz20_0 := (blk_cell BK500.out 0).trans rfl; have hcz20_1 := (blk_cell BK500.out 1).trans rfl; have hcz21_0 := (blk_cell BK501.out 0).trans rfl; have hcz21_1 := (blk_cell BK501.out 1).trans rfl; have hcz21_2 := (blk_cell BK501.out 2).trans rfl; have hcz21_3 := (blk_cell BK501.out 3).trans rfl) | ((with_reducible refine gate_callee (f := 36) rfl ?_); refine gl (some 31) Tryz.func36 #[.agg #[.slice A0_0 l0_0.length c0_0, .slice A0_1 l0_1.length c0_1], .agg #[.int .i64 a1_0, .int .i64 a1_1, .int .i64 a1_2, .bool a1_3], .int .i64 a2, .int .i64 a3, .slice A4 l4.length c4] ?_; (with_reducible refine (impl_Tree_place.calls k _ _ l0_0 _ _ l0_1 a1_0 a1_1 a1_2 a1_3 a2 a3 _ _ l4 t505 _ ?side1 ?side2 ?side3 ?side4 ?side5 ?side6 A12.out).mono ?_); (case side1 => exact (Kd.C_below HR0_0.out HB.out)); (case side2 => exact HC0_0.out); (case side3 => exact (Kd.C_below HR0_1.out HB.out)); (case side4 => exact HC0_1.out); (case side5 => exact (Kd.C_below HR4.out HB.out)); (case side6 => exact HC4.out); rintro e w22 ⟨v506, rfl, ho0, hb⟩; refine ⟨_, rfl, ?_⟩; have n0_ := Aside0.mk (Kd.R_lower ho0 (below_size (by repeat first | exact HB.out | apply pw_below_drewN))); have n1_ := Aside0.mk (blk_below (by exact BK500.out) hb); have n2_ := Aside0.mk (blk_below (by exact BK501.out) hb); have n3_ := Aside0.mk (below_step (by repeat first | exact HB.out | apply pw_below_drewN) hb); clear BK500; clear BK501; clear HB; have HO507 := n0_; have BK500 := n1_; have BK501 := n2_; have HB := n3_; clear n0_ n1_ n2_ n3_; (try clear hb); (try clear hb2); (try clear hk); (try clear hi); (try clear ho0)))
    go_ret2
    exact ⟨_, by first | rfl | (simp [*, errW_none, errW_some] <;> rfl), by (with_reducible repeat (first | apply Kd.R_alloc | apply Kd.R_drewN | apply Kd.R_drew)); exact HO507.out, by repeat first | exact HB.out | apply pw_below_drewN⟩
   ·replace c11 := Bool.eq_false_iff.mpr c11
    subst c11
    rw [if_neg (show ¬ (false = true) by decide)] at H
    simp only [Option.some.injEq, Prod.mk.injEq] at H
    obtain ⟨rfl, rfl⟩ := H
    go_enter Tryz.func17, Tryz.ntmps17
    go_wp2_with (first | ((with_reducible refine gate_dst (N := 5) rfl ?_); refine box_event ?hg (N := 5) ?hd (cs := #[.slice A0_0 l0_0.length c0_0, .slice A0_1 l0_1.length c0_1]) (t := 35) ?hr ?_; (case hd => rfl); (case hg => rfl); (case hr => first | (go_simp; done) | (go_simp; rfl)); intro gb500 hg w23 hbox hb; have n0_ := Aside0.mk (below_step (by repeat first | exact HB.out | apply pw_below_drewN) hb); have n1_ := Aside0.mk (hbox); clear HB; have HB := n0_; have BK500 := n1_; clear n0_ n1_; clear hb hbox hg) | ((with_reducible refine gate_dst (N := 6) rfl ?_); refine box_event ?hg (N := 6) ?hd (cs := #[.int .i64 a1_0, .int .i64 a1_1, .int .i64 a1_2, .bool a1_3]) (t := 37) ?hr ?_; (case hd => rfl); (case hg => rfl); (case hr => first | (go_simp; done) | (go_simp; rfl)); intro gb501 hg w24 hbox hb; have n0_ := Aside0.mk (blk_below (by exact BK500.out) hb); have n1_ := Aside0.mk (below_step (by repeat first | exact HB.out | apply pw_below_drewN) hb); have n2_ := Aside0.mk (hbox); clear BK500; clear HB; have BK500 := n0_; have HB := n1_; have BK501 := n2_; clear n0_ n1_ n2_; clear hb hbox hg; have hcz26_0 := (blk_cell BK500.out 0).trans rfl; have hcz26_1 := (blk_cell BK500.out 1).trans rfl; have hcz27_0 := (blk_cell BK501.out 0).trans rfl; have hcz27_1 := (blk_cell BK501.out 1).trans rfl; have hcz27_2 := (blk_cell BK501.out 2).trans rfl; have hcz27_3 := (blk_cell BK501.out 3).trans rfl) | ((with_reducible refine gate_callee (f := 26) rfl ?_); refine gl (some 14) Tryz.func26 #[.agg #[.slice A0_0 l0_0.length c0_0, .slice A0_1 l0_1.length c0_1], .agg #[.int .i64 a1_0, .int .i64 a1_1, .int .i64 a1_2, .bool a1_3]] ?_; (with_reducible refine (impl_RuleOk.calls k _ _ l0_0 _ _ l0_1 a1_0 a1_1 a1_2 a1_3 true _ ?side1 ?side2 ?side3 ?side4 A6.out).mono ?_); (case side1 => exact (Kd.C_below HR0_0.out HB.out)); (case side2 => exact HC0_0.out); (case side3 => exact (Kd.C_below HR0_1.out HB.out)); (case side4 => exact HC0_1.out); rintro e w28 ⟨rfl, hb⟩; refine ⟨_, rfl, ?_⟩; have n0_ := Aside0.mk (blk_below (by exact BK500.out) hb); have n1_ := Aside0.mk (blk_below (by exact BK501.out) hb); have n2_ := Aside0.mk (below_step (by repeat first | exact HB.out | apply pw_below_drewN) hb); clear BK500; clear BK501; clear HB; have BK500 := n0_; have BK501 := n1_; have HB := n2_; clear n0_ n1_ n2_; (try clear hb); (try clear hb2); (try clear hk); (try clear hi)) | (go_at_call 27; (with_reducible refine (impl_between.calls a3 0 7 true _ A8.out).mono ?_); rintro e w' ⟨rfl, ⟨nd, rfl⟩⟩) | (go_at_call 35; (with_reducible refine (impl_outOk.calls k _ _ l4 false _ ?side1 ?side2 A10.out).mono ?_); (case side1 => exact (Kd.C_below HR4.out (by repeat first | exact HB.out | apply pw_below_drewN))); (case side2 => exact HC4.out); rintro e w29 ⟨rfl, hb⟩; have n0_ := Aside0.mk (blk_below (by exact BK500.out) hb); have n1_ := Aside0.mk (blk_below (by exact BK501.out) hb); have n2_ := Aside0.mk (below_step (by repeat first | exact HB.out | apply pw_below_drewN) hb); clear BK500; clear BK501; clear HB; have BK500 := n0_; have BK501 := n1_; have HB := n2_; clear n0_ n1_ n2_; (try clear hb); (try clear hb2); (try clear hk); (try clear hi)))
    go_ret2
    exact ⟨_, by first | rfl | (simp [*, errW_none, errW_some] <;> rfl), by first | exact Kd.R_nil _ _ _ _ _ | exact Kd.N_nil _ _ _ _ _ | exact Kd.V_nil _ _ _ _ _ | exact Kd.Q_nil _ _ _ _ _ | exact Kd.S_nil _ _ _ _ _, by repeat first | exact HB.out | apply pw_below_drewN⟩
  ·replace c9 := Bool.eq_false_iff.mpr c9
   subst c9
   rw [if_neg (show ¬ (false = true) by decide)] at H
   simp only [Option.some.injEq, Prod.mk.injEq] at H
   obtain ⟨rfl, rfl⟩ := H
   go_enter Tryz.func17, Tryz.ntmps17
   go_wp2_with (first | ((with_reducible refine gate_dst (N := 5) rfl ?_); refine box_event ?hg (N := 5) ?hd (cs := #[.slice A0_0 l0_0.length c0_0, .slice A0_1 l0_1.length c0_1]) (t := 35) ?hr ?_; (case hd => rfl); (case hg => rfl); (case hr => first | (go_simp; done) | (go_simp; rfl)); intro gb500 hg w30 hbox hb; have n0_ := Aside0.mk (below_step (by repeat first | exact HB.out | apply pw_below_drewN) hb); have n1_ := Aside0.mk (hbox); clear HB; have HB := n0_; have BK500 := n1_; clear n0_ n1_; clear hb hbox hg) | ((with_reducible refine gate_dst (N := 6) rfl ?_); refine box_event ?hg (N := 6) ?hd (cs := #[.int .i64 a1_0, .int .i64 a1_1, .int .i64 a1_2, .bool a1_3]) (t := 37) ?hr ?_; (case hd => rfl); (case hg => rfl); (case hr => first | (go_simp; done) | (go_simp; rfl)); intro gb501 hg w31 hbox hb; have n0_ := Aside0.mk (blk_below (by exact BK500.out) hb); have n1_ := Aside0.mk (below_step (by repeat first | exact HB.out | apply pw_below_drewN) hb); have n2_ := Aside0.mk (hbox); clear BK500; clear HB; have BK500 := n0_; have HB := n1_; have BK501 := n2_; clear n0_ n1_ n2_; clear hb hbox hg; have hcz33_0 := (blk_cell BK500.out 0).trans rfl; have hcz33_1 := (blk_cell BK500.out 1).trans rfl; have hcz34_0 := (blk_cell BK501.out 0).trans rfl; have hcz34_1 := (blk_cell BK501.out 1).trans rfl; have hcz34_2 := (blk_cell BK501.out 2).trans rfl; have hcz34_3 := (blk_cell BK501.out 3).trans rfl) | ((with_reducible refine gate_callee (f := 26) rfl ?_); refine gl (some 14) Tryz.func26 #[.agg #[.slice A0_0 l0_0.length c0_0, .slice A0_1 l0_1.length c0_1], .agg #[.int .i64 a1_0, .int .i64 a1_1, .int .i64 a1_2, .bool a1_3]] ?_; (with_reducible refine (impl_RuleOk.calls k _ _ l0_0 _ _ l0_1 a1_0 a1_1 a1_2 a1_3 true _ ?side1 ?side2 ?side3 ?side4 A6.out).mono ?_); (case side1 => exact (Kd.C_below HR0_0.out HB.out)); (case side2 => exact HC0_0.out); (case side3 => exact (Kd.C_below HR0_1.out HB.out)); (case side4 => exact HC0_1.out); rintro e w35 ⟨rfl, hb⟩; refine ⟨_, rfl, ?_⟩; have n0_ := Aside0.mk (blk_below (by exact BK500.out) hb); have n1_ := Aside0.mk (blk_below (by exact BK501.out) hb); have n2_ := Aside0.mk (below_step (by repeat first | exact HB.out | apply pw_below_drewN) hb); clear BK500; clear BK501; clear HB; have BK500 := n0_; have BK501 := n1_; have HB := n2_; clear n0_ n1_ n2_; (try clear hb); (try clear hb2); (try clear hk); (try clear hi)) | (go_at_call 27; (with_reducible refine (impl_between.calls a3 0 7 false _ A8.out).mono ?_); rintro e w' ⟨rfl, ⟨nd, rfl⟩⟩))
   go_ret2
   exact ⟨_, by first | rfl | (simp [*, errW_none, errW_some] <;> rfl), by first | exact Kd.R_nil _ _ _ _ _ | exact Kd.N_nil _ _ _ _ _ | exact Kd.V_nil _ _ _ _ _ | exact Kd.Q_nil _ _ _ _ _ | exact Kd.S_nil _ _ _ _ _, by repeat first | exact HB.out | apply pw_below_drewN⟩
 ·replace c7 := Bool.eq_false_iff.mpr c7
  subst c7
  rw [if_neg (show ¬ (false = true) by decide)] at H
  simp only [Option.some.injEq, Prod.mk.injEq] at H
  obtain ⟨rfl, rfl⟩ := H
  go_enter Tryz.func17, Tryz.ntmps17
  go_wp2_with (first | ((with_reducible refine gate_dst (N := 5) rfl ?_); refine box_event ?hg (N := 5) ?hd (cs := #[.slice A0_0 l0_0.length c0_0, .slice A0_1 l0_1.length c0_1]) (t := 35) ?hr ?_; (case hd => rfl); (case hg => rfl); (case hr => first | (go_simp; done) | (go_simp; rfl)); intro gb500 hg w36 hbox hb; have n0_ := Aside0.mk (below_step (by repeat first | exact HB.out | apply pw_below_drewN) hb); have n1_ := Aside0.mk (hbox); clear HB; have HB := n0_; have BK500 := n1_; clear n0_ n1_; clear hb hbox hg) | ((with_reducible refine gate_dst (N := 6) rfl ?_); refine box_event ?hg (N := 6) ?hd (cs := #[.int .i64 a1_0, .int .i64 a1_1, .int .i64 a1_2, .bool a1_3]) (t := 37) ?hr ?_; (case hd => rfl); (case hg => rfl); (case hr => first | (go_simp; done) | (go_simp; rfl)); intro gb501 hg w37 hbox hb; have n0_ := Aside0.mk (blk_below (by exact BK500.out) hb); have n1_ := Aside0.mk (below_step (by repeat first | exact HB.out | apply pw_below_drewN) hb); have n2_ := Aside0.mk (hbox); clear BK500; clear HB; have BK500 := n0_; have HB := n1_; have BK501 := n2_; clear n0_ n1_ n2_; clear hb hbox hg; have hcz39_0 := (blk_cell BK500.out 0).trans rfl; have hcz39_1 := (blk_cell BK500.out 1).trans rfl; have hcz40_0 := (blk_cell BK501.out 0).trans rfl; have hcz40_1 := (blk_cell BK501.out 1).trans rfl; have hcz40_2 := (blk_cell BK501.out 2).trans rfl; have hcz40_3 := (blk_cell BK501.out 3).trans rfl) | ((with_reducible refine gate_callee (f := 26) rfl ?_); refine gl (some 14) Tryz.func26 #[.agg #[.slice A0_0 l0_0.length c0_0, .slice A0_1 l0_1.length c0_1], .agg #[.int .i64 a1_0, .int .i64 a1_1, .int .i64 a1_2, .bool a1_3]] ?_; (with_reducible refine (impl_RuleOk.calls k _ _ l0_0 _ _ l0_1 a1_0 a1_1 a1_2 a1_3 false _ ?side1 ?side2 ?side3 ?side4 A6.out).mono ?_); (case side1 => exact (Kd.C_below HR0_0.out HB.out)); (case side2 => exact HC0_0.out); (case side3 => exact (Kd.C_below HR0_1.out HB.out)); (case side4 => exact HC0_1.out); rintro e w41 ⟨rfl, hb⟩; refine ⟨_, rfl, ?_⟩; have n0_ := Aside0.mk (blk_below (by exact BK500.out) hb); have n1_ := Aside0.mk (blk_below (by exact BK501.out) hb); have n2_ := Aside0.mk (below_step (by repeat first | exact HB.out | apply pw_below_drewN) hb); clear BK500; clear BK501; clear HB; have BK500 := n0_; have BK501 := n1_; have HB := n2_; clear n0_ n1_ n2_; (try clear hb); (try clear hb2); (try clear hk); (try clear hi)))
  go_ret2
  exact ⟨_, by first | rfl | (simp [*, errW_none, errW_some] <;> rfl), by first | exact Kd.R_nil _ _ _ _ _ | exact Kd.N_nil _ _ _ _ _ | exact Kd.V_nil _ _ _ _ _ | exact Kd.Q_nil _ _ _ _ _ | exact Kd.S_nil _ _ _ _ _, by repeat first | exact HB.out | apply pw_below_drewN⟩

/-! ### laws_szDeviceS: function 18 -/
def laws_szDeviceS.f (l0 : List (S74)) (a1 : Int) : Option (Int) := if (wrap64 (a1 - (l0.length : Int))) < 0 then (some (-1)) else (some (wrap64 (a1 - (l0.length : Int))))
set_option maxHeartbeats 8000000 in
set_option maxRecDepth 100000 in
theorem laws_szDeviceS.calls (A0 : Option Addr) (c0 : Nat) (l0 : List (S74)) (a1 : Int) (r : Int) (w : World) (hr0 : Kd.C k74 w A0 l0.length l0) (hc0 : l0.length ≤ c0) (h : laws_szDeviceS.f l0 a1 = some r) :
  Calls Tryz.prog 18 #[.slice A0 l0.length c0, .int .i64 a1] w fun e w' => e = .returned (.int .i64 r) ∧ Drawn0 w w' := by
 have HR0 := Aside0.mk hr0
 have HC0 := Aside0.mk hc0
 clear hr0 hc0
 have H : (if (wrap64 (a1 - (l0.length : Int))) < 0 then (some (-1)) else (some (wrap64 (a1 - (l0.length : Int))))) = some r := h
 clear h
 by_cases c3 : (wrap64 (a1 - (l0.length : Int))) < 0
 ·rw [if_pos c3] at H
  have c3b0 : decide ((wrap64 (a1 - (l0.length : Int))) < 0) = true := decide_eq_true c3
  clear c3
  obtain rfl := Option.some.inj H
  go_enter Tryz.func18, Tryz.ntmps18
  go_wp2
  go_ret
  exact ⟨by first | rfl | (simp; done) | (simp [*]; done), by repeat (first | exact Drawn0.refl _ | apply Drawn0.step)⟩
 ·rw [if_neg c3] at H
  have c3b0 : decide ((wrap64 (a1 - (l0.length : Int))) < 0) = false := decide_eq_false c3
  clear c3
  obtain rfl := Option.some.inj H
  go_enter Tryz.func18, Tryz.ntmps18
  go_wp2
  go_ret
  exact ⟨by first | rfl | (simp; done) | (simp [*]; done), by repeat (first | exact Drawn0.refl _ | apply Drawn0.step)⟩

/-! ### laws_szInt64S: function 59 -/
def laws_szInt64S.f (l0 : List Int) (a1 : Int) : Option (Int) := if (wrap64 (a1 - (l0.length : Int))) < 0 then (some (-1)) else (some (wrap64 (a1 - (l0.length : Int))))
set_option maxHeartbeats 8000000 in
set_option maxRecDepth 100000 in
theorem laws_szInt64S.calls (A0 : Option Addr) (c0 : Nat) (l0 : List Int) (a1 : Int) (r : Int) (w : World) (hr0 : Kd.C (Kd.int .i64) w A0 l0.length l0) (hc0 : l0.length ≤ c0) (h : laws_szInt64S.f l0 a1 = some r) :
  Calls Tryz.prog 59 #[.slice A0 l0.length c0, .int .i64 a1] w fun e w' => e = .returned (.int .i64 r) ∧ Drawn0 w w' := by
 have HR0 := Aside0.mk hr0
 have HC0 := Aside0.mk hc0
 clear hr0 hc0
 have H : (if (wrap64 (a1 - (l0.length : Int))) < 0 then (some (-1)) else (some (wrap64 (a1 - (l0.length : Int))))) = some r := h
 clear h
 by_cases c3 : (wrap64 (a1 - (l0.length : Int))) < 0
 ·rw [if_pos c3] at H
  have c3b0 : decide ((wrap64 (a1 - (l0.length : Int))) < 0) = true := decide_eq_true c3
  clear c3
  obtain rfl := Option.some.inj H
  go_enter Tryz.func59, Tryz.ntmps59
  go_wp2
  go_ret
  exact ⟨by first | rfl | (simp; done) | (simp [*]; done), by repeat (first | exact Drawn0.refl _ | apply Drawn0.step)⟩
 ·rw [if_neg c3] at H
  have c3b0 : decide ((wrap64 (a1 - (l0.length : Int))) < 0) = false := decide_eq_false c3
  clear c3
  obtain rfl := Option.some.inj H
  go_enter Tryz.func59, Tryz.ntmps59
  go_wp2
  go_ret
  exact ⟨by first | rfl | (simp; done) | (simp [*]; done), by repeat (first | exact Drawn0.refl _ | apply Drawn0.step)⟩

/-! ### laws_szBucket: function 37 -/
def laws_szBucket.f (a0_0 : Int) (a0_1 : Int) (l0_2 : List Int) (a1 : Int) : Option (Int) := (laws_szInt64S.f l0_2 a1).bind fun t102 => (if t102 < 0 then (some (-1)) else (some t102))
set_option maxHeartbeats 8000000 in
set_option maxRecDepth 100000 in
theorem laws_szBucket.calls (a0_0 : Int) (a0_1 : Int) (A0_2 : Option Addr) (c0_2 : Nat) (l0_2 : List Int) (a1 : Int) (r : Int) (w : World) (hr0_2 : Kd.C (Kd.int .i64) w A0_2 l0_2.length l0_2) (hc0_2 : l0_2.length ≤ c0_2) (h : laws_szBucket.f a0_0 a0_1 l0_2 a1 = some r) :
  Calls Tryz.prog 37 #[.agg #[.int .i64 a0_0, .int .i64 a0_1, .slice A0_2 l0_2.length c0_2], .int .i64 a1] w fun e w' => e = .returned (.int .i64 r) ∧ Below w.heap.size w w' := by
 have hu66 := Tryz.underlying66
 have HR0_2 := Aside0.mk hr0_2
 have HC0_2 := Aside0.mk hc0_2
 clear hr0_2 hc0_2
 have HB := Aside0.mk (Below.refl w.heap.size w)
 have H : ((laws_szInt64S.f l0_2 a1).bind fun t102 => (if t102 < 0 then (some (-1)) else (some t102))) = some r := h
 clear h
 replace H := Option.bind_eq_some_iff.mp H
 obtain ⟨t102, A30, H⟩ := H
 set_option simprocs false in try dsimp only at H
 have A3 := Aside0.mk A30
 clear A30
 by_cases c4 : t102 < 0
 ·rw [if_pos c4] at H
  have c4b0 : decide (t102 < 0) = true := decide_eq_true c4
  clear c4
  obtain rfl := Option.some.inj H
  go_enter Tryz.func37, Tryz.ntmps37
  go_wp2_with (first | ((with_reducible refine gate_dst (N := 2) rfl ?_); refine box_event ?hg (N := 2) ?hd (cs := #[.int .i64 a0_0, .int .i64 a0_1, .slice A0_2 l0_2.length c0_2]) (t := 66) ?hr ?_; (case hd => rfl); (case hg => rfl); (case hr => first | (go_simp; done) | (go_simp; rfl)); intro gb101 hg w5 hbox hb; have n0_ := Aside0.mk (below_step (by repeat first | exact HB.out | apply pw_below_drewN) hb); have n1_ := Aside0.mk (hbox); clear HB; have HB := n0_; have BK101 := n1_; clear n0_ n1_; clear hb hbox hg; have hcz6_0 := (blk_cell BK101.out 0).trans rfl; have hcz6_1 := (blk_cell BK101.out 1).trans rfl; have hcz6_2 := (blk_cell BK101.out 2).trans rfl) | ((with_reducible refine gate_callee (f := 59) rfl ?_); refine gl (some 8) Tryz.func59 #[.slice A0_2 l0_2.length c0_2, .int .i64 a1] ?_; (with_reducible refine (laws_szInt64S.calls _ _ l0_2 a1 t102 _ ?side1 ?side2 A3.out).mono ?_); (case side1 => exact (Kd.C_below HR0_2.out HB.out)); (case side2 => exact HC0_2.out); rintro e w' ⟨rfl, ⟨nd, rfl⟩⟩; refine ⟨_, rfl, ?_⟩))
  go_ret
  exact ⟨by first | rfl | (simp [*, errW_none, errW_some] <;> rfl), by repeat first | exact HB.out | apply pw_below_drewN⟩
 ·rw [if_neg c4] at H
  have c4b0 : decide (t102 < 0) = false := decide_eq_false c4
  clear c4
  obtain rfl := Option.some.inj H
  go_enter Tryz.func37, Tryz.ntmps37
  go_wp2_with (first | ((with_reducible refine gate_dst (N := 2) rfl ?_); refine box_event ?hg (N := 2) ?hd (cs := #[.int .i64 a0_0, .int .i64 a0_1, .slice A0_2 l0_2.length c0_2]) (t := 66) ?hr ?_; (case hd => rfl); (case hg => rfl); (case hr => first | (go_simp; done) | (go_simp; rfl)); intro gb101 hg w7 hbox hb; have n0_ := Aside0.mk (below_step (by repeat first | exact HB.out | apply pw_below_drewN) hb); have n1_ := Aside0.mk (hbox); clear HB; have HB := n0_; have BK101 := n1_; clear n0_ n1_; clear hb hbox hg; have hcz8_0 := (blk_cell BK101.out 0).trans rfl; have hcz8_1 := (blk_cell BK101.out 1).trans rfl; have hcz8_2 := (blk_cell BK101.out 2).trans rfl) | ((with_reducible refine gate_callee (f := 59) rfl ?_); refine gl (some 8) Tryz.func59 #[.slice A0_2 l0_2.length c0_2, .int .i64 a1] ?_; (with_reducible refine (laws_szInt64S.calls _ _ l0_2 a1 t102 _ ?side1 ?side2 A3.out).mono ?_); (case side1 => exact (Kd.C_below HR0_2.out HB.out)); (case side2 => exact HC0_2.out); rintro e w' ⟨rfl, ⟨nd, rfl⟩⟩; refine ⟨_, rfl, ?_⟩))
  go_ret
  exact ⟨by first | rfl | (simp [*, errW_none, errW_some] <;> rfl), by repeat first | exact HB.out | apply pw_below_drewN⟩

/-! ### laws_szBucketS: function 19 -/
def laws_szBucketS.l0 : Nat → List (S66) → Int → Int → Option (Int)
 | 0, _, _, _ => none
 | k + 1, x0, x1, x5 => if x5 < (x0.length : Int) then (if 0 ≤ x5 then ((laws_szBucket.f ((rd_T66 x0 x5).f0) ((rd_T66 x0 x5).f1) ((rd_T66 x0 x5).f2) x1).bind fun t104 => (if t104 < 0 then (some (-1)) else (laws_szBucketS.l0 k x0 t104 (wrap64 (x5 + 1))))) else (none)) else (some x1)
def laws_szBucketS.f (k : Nat) (l0 : List (S66)) (a1 : Int) : Option (Int) := if (wrap64 (a1 - (l0.length : Int))) < 0 then (some (-1)) else (laws_szBucketS.l0 k l0 (wrap64 (a1 - (l0.length : Int))) 0)
set_option maxHeartbeats 8000000 in
set_option maxRecDepth 100000 in
theorem laws_szBucketS.calls (k : Nat) (A0 : Option Addr) (c0 : Nat) (l0 : List (S66)) (a1 : Int) (r : Int) (w : World) (hr0 : Kd.C k66 w A0 l0.length l0) (hc0 : l0.length ≤ c0) (h : laws_szBucketS.f k l0 a1 = some r) :
  Calls Tryz.prog 19 #[.slice A0 l0.length c0, .int .i64 a1] w fun e w' => e = .returned (.int .i64 r) ∧ Below w.heap.size w w' := by
 have hu66 := Tryz.underlying66
 have HR0 := Aside0.mk hr0
 have HC0 := Aside0.mk hc0
 clear hr0 hc0
 have HB := Aside0.mk (Below.refl w.heap.size w)
 have H : (if (wrap64 (a1 - (l0.length : Int))) < 0 then (some (-1)) else (laws_szBucketS.l0 k l0 (wrap64 (a1 - (l0.length : Int))) 0)) = some r := h
 clear h
 by_cases c3 : (wrap64 (a1 - (l0.length : Int))) < 0
 ·rw [if_pos c3] at H
  have c3b0 : decide ((wrap64 (a1 - (l0.length : Int))) < 0) = true := decide_eq_true c3
  clear c3
  obtain rfl := Option.some.inj H
  go_enter Tryz.func19, Tryz.ntmps19
  go_wp2
  go_ret
  exact ⟨by first | rfl | (simp [*, errW_none, errW_some] <;> rfl), by repeat first | exact HB.out | apply pw_below_drewN⟩
 ·rw [if_neg c3] at H
  have c3b0 : decide ((wrap64 (a1 - (l0.length : Int))) < 0) = false := decide_eq_false c3
  clear c3
  have H' := Aside0.mk H
  clear H
  go_enter Tryz.func19, Tryz.ntmps19
  go_wp2
  go_loopg [1, 5] k (fun kq v1 v5 w' => ∃ (x1_1 : Int) (x5_1 : Int), v1 = .int .i64 x1_1 ∧ v5 = .int .i64 x5_1 ∧ Aside0 (laws_szBucketS.l0 kq l0 x1_1 x5_1 = some r) ∧ Aside0 (kq ≤ k) ∧ Aside0 (Below w.heap.size w w'))
  case atStart => exact ⟨(wrap64 (a1 - (l0.length : Int))), (0), (by first | rfl | (simp; done) | (simp [*]; done)), (by first | rfl | (simp; done) | (simp [*]; done)), H', ⟨Nat.le_refl _⟩, ⟨by repeat first | exact HB.out | apply pw_below_drewN⟩⟩
  case round =>
   clear H'
   try clear c1
   try clear p2
   try clear c3
   try clear c3b0
   obtain ⟨x1_1, x5_1, rfl, rfl, HA, HK1, HB⟩ := hrel
   cases gk with
   | zero => exact absurd HA.out (by simp [laws_szBucketS.l0])
   | succ k1 =>
    have H := HA.out
    clear HA
    simp only [laws_szBucketS.l0] at H
    by_cases c4 : x5_1 < (l0.length : Int)
    ·rw [if_pos c4] at H
     have c4b0 : decide (x5_1 < (l0.length : Int)) = true := decide_eq_true c4
     clear c4
     by_cases c5 : 0 ≤ x5_1
     ·rw [if_pos c5] at H
      have c5b0 : decide (0 ≤ x5_1) = true := decide_eq_true c5
      clear c5
      replace H := Option.bind_eq_some_iff.mp H
      obtain ⟨t104, A60, H⟩ := H
      set_option simprocs false in try dsimp only at H
      have A6 := Aside0.mk A60
      clear A60
      by_cases c7 : t104 < 0
      ·rw [if_pos c7] at H
       have c7b0 : decide (t104 < 0) = true := decide_eq_true c7
       clear c7
       obtain rfl := Option.some.inj H
       have p103 : 0 ≤ (x5_1 : Int) := of_decide_eq_true (by assumption)
       have q103 : x5_1 < (l0.length : Int) := of_decide_eq_true (by assumption)
       obtain ⟨ad103, A103_2, c103_2, e103, hx103_0, hx103_1, hx103_2, hl103_2, hi103_2⟩ := at_T66 HR0.out x5_1 p103 q103
       cases e103
       replace hx103_0 := (HB.out.cell (World.block_lt_of_cell? w _ hx103_0)).trans hx103_0
       replace hx103_1 := (HB.out.cell (World.block_lt_of_cell? w _ hx103_1)).trans hx103_1
       replace hx103_2 := (HB.out.cell (World.block_lt_of_cell? w _ hx103_2)).trans hx103_2
       have HR103_2 := Aside0.mk hi103_2
       have HC103_2 := Aside0.mk hl103_2
       clear hi103_2 hl103_2
       replace p103 := eq_true p103
       replace q103 := eq_true q103
       go_wp2_with (first | ((with_reducible refine gate_callee (f := 37) rfl ?_); refine gl (some 23) Tryz.func37 #[.agg #[.int .i64 ((rd_T66 l0 x5_1).f0), .int .i64 ((rd_T66 l0 x5_1).f1), .slice A103_2 ((rd_T66 l0 x5_1).f2).length c103_2], .int .i64 x1_1] ?_; (with_reducible refine (laws_szBucket.calls ((rd_T66 l0 x5_1).f0) ((rd_T66 l0 x5_1).f1) _ _ ((rd_T66 l0 x5_1).f2) x1_1 t104 _ ?side1 ?side2 A6.out).mono ?_); (case side1 => exact (Kd.C_below HR103_2.out HB.out)); (case side2 => exact HC103_2.out); rintro e w8 ⟨rfl, hb⟩; refine ⟨_, rfl, ?_⟩; have n0_ := Aside0.mk (below_step (by repeat first | exact HB.out | apply pw_below_drewN) hb); clear HB; have HB := n0_; clear n0_; (try clear hb); (try clear hb2); (try clear hk); (try clear hi)))
       go_ret
       exact ⟨by first | rfl | (simp [*, errW_none, errW_some] <;> rfl), by repeat first | exact HB.out | apply pw_below_drewN⟩
      ·rw [if_neg c7] at H
       have c7b0 : decide (t104 < 0) = false := decide_eq_false c7
       clear c7
       have H' := Aside0.mk H
       clear H
       have p103 : 0 ≤ (x5_1 : Int) := of_decide_eq_true (by assumption)
       have q103 : x5_1 < (l0.length : Int) := of_decide_eq_true (by assumption)
       obtain ⟨ad103, A103_2, c103_2, e103, hx103_0, hx103_1, hx103_2, hl103_2, hi103_2⟩ := at_T66 HR0.out x5_1 p103 q103
       cases e103
       replace hx103_0 := (HB.out.cell (World.block_lt_of_cell? w _ hx103_0)).trans hx103_0
       replace hx103_1 := (HB.out.cell (World.block_lt_of_cell? w _ hx103_1)).trans hx103_1
       replace hx103_2 := (HB.out.cell (World.block_lt_of_cell? w _ hx103_2)).trans hx103_2
       have HR103_2 := Aside0.mk hi103_2
       have HC103_2 := Aside0.mk hl103_2
       clear hi103_2 hl103_2
       replace p103 := eq_true p103
       replace q103 := eq_true q103
       go_wp2_with (first | ((with_reducible refine gate_callee (f := 37) rfl ?_); refine gl (some 23) Tryz.func37 #[.agg #[.int .i64 ((rd_T66 l0 x5_1).f0), .int .i64 ((rd_T66 l0 x5_1).f1), .slice A103_2 ((rd_T66 l0 x5_1).f2).length c103_2], .int .i64 x1_1] ?_; (with_reducible refine (laws_szBucket.calls ((rd_T66 l0 x5_1).f0) ((rd_T66 l0 x5_1).f1) _ _ ((rd_T66 l0 x5_1).f2) x1_1 t104 _ ?side1 ?side2 A6.out).mono ?_); (case side1 => exact (Kd.C_below HR103_2.out HB.out)); (case side2 => exact HC103_2.out); rintro e w9 ⟨rfl, hb⟩; refine ⟨_, rfl, ?_⟩; have n0_ := Aside0.mk (below_step (by repeat first | exact HB.out | apply pw_below_drewN) hb); clear HB; have HB := n0_; clear n0_; (try clear hb); (try clear hb2); (try clear hk); (try clear hi)))
       go_roundg k1
       case measure => have := HK1.out; omega
       case rel => exact ⟨(t104), (wrap64 (x5_1 + 1)), (by first | rfl | (simp; done) | (simp [*]; done)), (by first | rfl | (simp; done) | (simp [*]; done)), H', ⟨by have := HK1.out; omega⟩, ⟨by repeat first | exact HB.out | apply pw_below_drewN⟩⟩
     ·rw [if_neg c5] at H
      exact absurd H (by simp)
    ·rw [if_neg c4] at H
     have c4b0 : decide (x5_1 < (l0.length : Int)) = false := decide_eq_false c4
     clear c4
     obtain rfl := Option.some.inj H
     go_wp2
     go_ret
     exact ⟨by first | rfl | (simp [*, errW_none, errW_some] <;> rfl), by repeat first | exact HB.out | apply pw_below_drewN⟩

/-! ### laws_szTree: function 5 -/
def laws_szTree.f (k : Nat) (l0_0 : List (S74)) (l0_1 : List (S66)) (a1 : Int) : Option (Int) := (laws_szDeviceS.f l0_0 a1).bind fun t106 => (if t106 < 0 then (some (-1)) else ((laws_szBucketS.f k l0_1 t106).bind fun t107 => (if t107 < 0 then (some (-1)) else (some t107))))
set_option maxHeartbeats 8000000 in
set_option maxRecDepth 100000 in
theorem laws_szTree.calls (k : Nat) (A0_0 : Option Addr) (c0_0 : Nat) (l0_0 : List (S74)) (A0_1 : Option Addr) (c0_1 : Nat) (l0_1 : List (S66)) (a1 : Int) (r : Int) (w : World) (hr0_0 : Kd.C k74 w A0_0 l0_0.length l0_0) (hc0_0 : l0_0.length ≤ c0_0) (hr0_1 : Kd.C k66 w A0_1 l0_1.length l0_1) (hc0_1 : l0_1.length ≤ c0_1) (h : laws_szTree.f k l0_0 l0_1 a1 = some r) :
  Calls Tryz.prog 5 #[.agg #[.slice A0_0 l0_0.length c0_0, .slice A0_1 l0_1.length c0_1], .int .i64 a1] w fun e w' => e = .returned (.int .i64 r) ∧ Below w.heap.size w w' := by
 have hu25 := Tryz.underlying25
 have HR0_0 := Aside0.mk hr0_0
 have HC0_0 := Aside0.mk hc0_0
 clear hr0_0 hc0_0
 have HR0_1 := Aside0.mk hr0_1
 have HC0_1 := Aside0.mk hc0_1
 clear hr0_1 hc0_1
 have HB := Aside0.mk (Below.refl w.heap.size w)
 have H : ((laws_szDeviceS.f l0_0 a1).bind fun t106 => (if t106 < 0 then (some (-1)) else ((laws_szBucketS.f k l0_1 t106).bind fun t107 => (if t107 < 0 then (some (-1)) else (some t107))))) = some r := h
 clear h
 replace H := Option.bind_eq_some_iff.mp H
 obtain ⟨t106, A30, H⟩ := H
 set_option simprocs false in try dsimp only at H
 have A3 := Aside0.mk A30
 clear A30
 by_cases c4 : t106 < 0
 ·rw [if_pos c4] at H
  have c4b0 : decide (t106 < 0) = true := decide_eq_true c4
  clear c4
  obtain rfl := Option.some.inj H
  go_enter Tryz.func5, Tryz.ntmps5
  go_wp2_with (first | ((with_reducible refine gate_dst (N := 2) rfl ?_); refine box_event ?hg (N := 2) ?hd (cs := #[.slice A0_0 l0_0.length c0_0, .slice A0_1 l0_1.length c0_1]) (t := 25) ?hr ?_; (case hd => rfl); (case hg => rfl); (case hr => first | (go_simp; done) | (go_simp; rfl)); intro gb105 hg w5 hbox hb; have n0_ := Aside0.mk (below_step (by repeat first | exact HB.out | apply pw_below_drewN) hb); have n1_ := Aside0.mk (hbox); clear HB; have HB := n0_; have BK105 := n1_; clear n0_ n1_; clear hb hbox hg; have hcz6_0 := (blk_cell BK105.out 0).trans rfl; have hcz6_1 := (blk_cell BK105.out 1).trans rfl) | ((with_reducible refine gate_callee (f := 18) rfl ?_); refine gl (some 8) Tryz.func18 #[.slice A0_0 l0_0.length c0_0, .int .i64 a1] ?_; (with_reducible refine (laws_szDeviceS.calls _ _ l0_0 a1 t106 _ ?side1 ?side2 A3.out).mono ?_); (case side1 => exact (Kd.C_below HR0_0.out HB.out)); (case side2 => exact HC0_0.out); rintro e w' ⟨rfl, ⟨nd, rfl⟩⟩; refine ⟨_, rfl, ?_⟩))
  go_ret
  exact ⟨by first | rfl | (simp [*, errW_none, errW_some] <;> rfl), by repeat first | exact HB.out | apply pw_below_drewN⟩
 ·rw [if_neg c4] at H
  have c4b0 : decide (t106 < 0) = false := decide_eq_false c4
  clear c4
  replace H := Option.bind_eq_some_iff.mp H
  obtain ⟨t107, A70, H⟩ := H
  set_option simprocs false in try dsimp only at H
  have A7 := Aside0.mk A70
  clear A70
  by_cases c8 : t107 < 0
  ·rw [if_pos c8] at H
   have c8b0 : decide (t107 < 0) = true := decide_eq_true c8
   clear c8
   obtain rfl := Option.some.inj H
   go_enter Tryz.func5, Tryz.ntmps5
   go_wp2_with (first | ((with_reducible refine gate_dst (N := 2) rfl ?_); refine box_event ?hg (N := 2) ?hd (cs := #[.slice A0_0 l0_0.length c0_0, .slice A0_1 l0_1.length c0_1]) (t := 25) ?hr ?_; (case hd => rfl); (case hg => rfl); (case hr => first | (go_simp; done) | (go_simp; rfl)); intro gb105 hg w9 hbox hb; have n0_ := Aside0.mk (below_step (by repeat first | exact HB.out | apply pw_below_drewN) hb); have n1_ := Aside0.mk (hbox); clear HB; have HB := n0_; have BK105 := n1_; clear n0_ n1_; clear hb hbox hg; have hcz10_0 := (blk_cell BK105.out 0).trans rfl; have hcz10_1 := (blk_cell BK105.out 1).trans rfl) | ((with_reducible refine gate_callee (f := 18) rfl ?_); refine gl (some 8) Tryz.func18 #[.slice A0_0 l0_0.length c0_0, .int .i64 a1] ?_; (with_reducible refine (laws_szDeviceS.calls _ _ l0_0 a1 t106 _ ?side1 ?side2 A3.out).mono ?_); (case side1 => exact (Kd.C_below HR0_0.out HB.out)); (case side2 => exact HC0_0.out); rintro e w' ⟨rfl, ⟨nd, rfl⟩⟩; refine ⟨_, rfl, ?_⟩) | ((with_reducible refine gate_callee (f := 19) rfl ?_); refine gl (some 14) Tryz.func19 #[.slice A0_1 l0_1.length c0_1, .int .i64 t106] ?_; (with_reducible refine (laws_szBucketS.calls k _ _ l0_1 t106 t107 _ ?side1 ?side2 A7.out).mono ?_); (case side1 => exact (Kd.C_below HR0_1.out (by repeat first | exact HB.out | apply pw_below_drewN))); (case side2 => exact HC0_1.out); rintro e w11 ⟨rfl, hb⟩; refine ⟨_, rfl, ?_⟩; have n0_ := Aside0.mk (blk_below (by exact BK105.out) hb); have n1_ := Aside0.mk (below_step (by repeat first | exact HB.out | apply pw_below_drewN) hb); clear BK105; clear HB; have BK105 := n0_; have HB := n1_; clear n0_ n1_; (try clear hb); (try clear hb2); (try clear hk); (try clear hi)))
   go_ret
   exact ⟨by first | rfl | (simp [*, errW_none, errW_some] <;> rfl), by repeat first | exact HB.out | apply pw_below_drewN⟩
  ·rw [if_neg c8] at H
   have c8b0 : decide (t107 < 0) = false := decide_eq_false c8
   clear c8
   obtain rfl := Option.some.inj H
   go_enter Tryz.func5, Tryz.ntmps5
   go_wp2_with (first | ((with_reducible refine gate_dst (N := 2) rfl ?_); refine box_event ?hg (N := 2) ?hd (cs := #[.slice A0_0 l0_0.length c0_0, .slice A0_1 l0_1.length c0_1]) (t := 25) ?hr ?_; (case hd => rfl); (case hg => rfl); (case hr => first | (go_simp; done) | (go_simp; rfl)); intro gb105 hg w12 hbox hb; have n0_ := Aside0.mk (below_step (by repeat first | exact HB.out | apply pw_below_drewN) hb); have n1_ := Aside0.mk (hbox); clear HB; have HB := n0_; have BK105 := n1_; clear n0_ n1_; clear hb hbox hg; have hcz13_0 := (blk_cell BK105.out 0).trans rfl; have hcz13_1 := (blk_cell BK105.out 1).trans rfl) | ((with_reducible refine gate_callee (f := 18) rfl ?_); refine gl (some 8) Tryz.func18 #[.slice A0_0 l0_0.length c0_0, .int .i64 a1] ?_; (with_reducible refine (laws_szDeviceS.calls _ _ l0_0 a1 t106 _ ?side1 ?side2 A3.out).mono ?_); (case side1 => exact (Kd.C_below HR0_0.out HB.out)); (case side2 => exact HC0_0.out); rintro e w' ⟨rfl, ⟨nd, rfl⟩⟩; refine ⟨_, rfl, ?_⟩) | ((with_reducible refine gate_callee (f := 19) rfl ?_); refine gl (some 14) Tryz.func19 #[.slice A0_1 l0_1.length c0_1, .int .i64 t106] ?_; (with_reducible refine (laws_szBucketS.calls k _ _ l0_1 t106 t107 _ ?side1 ?side2 A7.out).mono ?_); (case side1 => exact (Kd.C_below HR0_1.out (by repeat first | exact HB.out | apply pw_below_drewN))); (case side2 => exact HC0_1.out); rintro e w14 ⟨rfl, hb⟩; refine ⟨_, rfl, ?_⟩; have n0_ := Aside0.mk (blk_below (by exact BK105.out) hb); have n1_ := Aside0.mk (below_step (by repeat first | exact HB.out | apply pw_below_drewN) hb); clear BK105; clear HB; have BK105 := n0_; have HB := n1_; clear n0_ n1_; (try clear hb); (try clear hb2); (try clear hk); (try clear hi)))
   go_ret
   exact ⟨by first | rfl | (simp [*, errW_none, errW_some] <;> rfl), by repeat first | exact HB.out | apply pw_below_drewN⟩

/-! ### laws_toRule: function 8 -/
def laws_toRule.f (a0_0 : Int) (a0_1 : Int) (a0_2 : Int) (a0_3 : Bool) : Option (Int × Int × Int × Bool) := some (a0_0, a0_1, a0_2, a0_3)
set_option maxHeartbeats 8000000 in
set_option maxRecDepth 100000 in
theorem laws_toRule.calls (a0_0 : Int) (a0_1 : Int) (a0_2 : Int) (a0_3 : Bool) (r1 : Int) (r2 : Int) (r3 : Int) (r4 : Bool) (w : World) (h : laws_toRule.f a0_0 a0_1 a0_2 a0_3 = some (r1, r2, r3, r4)) :
  Calls Tryz.prog 8 #[.agg #[.int .i64 a0_0, .int .i64 a0_1, .int .i64 a0_2, .bool a0_3]] w fun e w' => e = .returned (.agg #[.int .i64 r1, .int .i64 r2, .int .i64 r3, .bool r4]) ∧ Below w.heap.size w w' := by
 have hu27 := Tryz.underlying27
 have hu37 := Tryz.underlying37
 have HB := Aside0.mk (Below.refl w.heap.size w)
 have H : (some (a0_0, a0_1, a0_2, a0_3)) = some (r1, r2, r3, r4) := h
 clear h
 simp only [Option.some.injEq, Prod.mk.injEq] at H
 obtain ⟨rfl, rfl, rfl, rfl⟩ := H
 go_enter Tryz.func8, Tryz.ntmps8
 go_wp2_with (first | ((with_reducible refine gate_dst (N := 1) rfl ?_); refine box_event ?hg (N := 1) ?hd (cs := #[.int .i64 a0_0, .int .i64 a0_1, .int .i64 a0_2, .bool a0_3]) (t := 27) ?hr ?_; (case hd => rfl); (case hg => rfl); (case hr => first | (go_simp; done) | (go_simp; rfl)); intro gb324 hg w2 hbox hb; have n0_ := Aside0.mk (below_step (by repeat first | exact HB.out | apply below_alloc | apply pw_below_drewN | apply below_drew1) hb); have n1_ := Aside0.mk (hbox); have n2_ := Aside0.mk ((by rw [hg]; exact (below_size (by repeat first | exact HB.out | apply below_alloc | apply pw_below_drewN | apply below_drew1)) : w.heap.size ≤ gb324)); have n3_ := Aside0.mk ((by rw [hg]; exact (below_size (by repeat first | exact HB.out | apply below_alloc | apply pw_below_drewN | apply below_drew1)) : w.heap.size ≤ gb324)); clear HB; have HB := n0_; have BK324 := n1_; have GW324 := n2_; have GE324 := n3_; clear n0_ n1_ n2_ n3_; clear hb hbox hg) | ((with_reducible refine gate_dst (N := 2) rfl ?_); refine box_event ?hg (N := 2) ?hd (cs := #[.int .i64 0, .int .i64 0, .int .i64 0, .bool false]) (t := 37) ?hr ?_; (case hd => rfl); (case hg => rfl); (case hr => first | (go_simp; done) | (go_simp; rfl)); intro gb325 hg w3 hbox hb; have n0_ := Aside0.mk (blk_below (g := gb324) (o := .cells #[.int .i64 a0_0, .int .i64 a0_1, .int .i64 a0_2, .bool a0_3] 27 (0, 0)) (by (with_reducible repeat first | apply blk_drewN | apply blk_drew | apply blk_alloc); exact BK324.out) hb); have n1_ := Aside0.mk (below_step (by repeat (first | (with_reducible first | exact HB.out | apply below_alloc | apply pw_below_drewN | apply below_drew1 | refine below_set ?_ GE324.out) | exact HB.out)) hb); have n2_ := Aside0.mk (hbox); have n3_ := Aside0.mk ((by rw [hg]; exact (below_size (by repeat (first | (with_reducible first | exact HB.out | apply below_alloc | apply pw_below_drewN | apply below_drew1 | refine below_set ?_ GE324.out) | exact HB.out))) : w.heap.size ≤ gb325)); have n4_ := Aside0.mk ((by rw [hg]; exact (below_size (by repeat (first | (with_reducible first | exact HB.out | apply below_alloc | apply pw_below_drewN | apply below_drew1 | refine below_set ?_ GE324.out) | exact HB.out))) : w.heap.size ≤ gb325)); have n5_ := Aside0.mk ((by rw [hg]; exact Nat.ne_of_lt (blk_lt (g := gb324) (o := .cells #[.int .i64 a0_0, .int .i64 a0_1, .int .i64 a0_2, .bool a0_3] 27 (0, 0)) (by (with_reducible repeat first | apply blk_drewN | apply blk_drew | apply blk_alloc); exact BK324.out)) : gb324 ≠ gb325)); have n6_ := Aside0.mk ((by rw [hg]; exact Nat.ne_of_gt (blk_lt (g := gb324) (o := .cells #[.int .i64 a0_0, .int .i64 a0_1, .int .i64 a0_2, .bool a0_3] 27 (0, 0)) (by (with_reducible repeat first | apply blk_drewN | apply blk_drew | apply blk_alloc); exact BK324.out)) : gb325 ≠ gb324)); clear BK324; clear HB; have BK324 := n0_; have HB := n1_; have BK325 := n2_; have GW325 := n3_; have GE325 := n4_; have NB324_325 := n5_; have NB325_324 := n6_; clear n0_ n1_ n2_ n3_ n4_ n5_ n6_; clear hb hbox hg) | ((with_reducible refine gate_dst (N := 3) rfl ?_); refine box_event ?hg (N := 3) ?hd (cs := #[.int .i64 0, .int .i64 0, .int .i64 0, .bool false]) (t := 37) ?hr ?_; (case hd => rfl); (case hg => rfl); (case hr => first | (go_simp; done) | (go_simp; rfl)); intro gb326 hg w4 hbox hb; have n0_ := Aside0.mk (blk_below (g := gb324) (o := .cells #[.int .i64 a0_0, .int .i64 a0_1, .int .i64 a0_2, .bool a0_3] 27 (0, 0)) (by (with_reducible repeat first | apply blk_drewN | apply blk_drew | apply blk_alloc); exact BK324.out) hb); have n1_ := Aside0.mk (blk_below (g := gb325) (o := .cells #[.int .i64 0, .int .i64 0, .int .i64 0, .bool false] 37 (0, 0)) (by (with_reducible repeat first | apply blk_drewN | apply blk_drew | apply blk_alloc); exact BK325.out) hb); have n2_ := Aside0.mk (below_step (by repeat (first | (with_reducible first | exact HB.out | apply below_alloc | apply pw_below_drewN | apply below_drew1 | refine below_set ?_ GE324.out | refine below_set ?_ GE325.out) | exact HB.out)) hb); have n3_ := Aside0.mk (hbox); have n4_ := Aside0.mk ((by rw [hg]; exact (below_size (by repeat (first | (with_reducible first | exact HB.out | apply below_alloc | apply pw_below_drewN | apply below_drew1 | refine below_set ?_ GE324.out | refine below_set ?_ GE325.out) | exact HB.out))) : w.heap.size ≤ gb326)); have n5_ := Aside0.mk ((by rw [hg]; exact (below_size (by repeat (first | (with_reducible first | exact HB.out | apply below_alloc | apply pw_below_drewN | apply below_drew1 | refine below_set ?_ GE324.out | refine below_set ?_ GE325.out) | exact HB.out))) : w.heap.size ≤ gb326)); have n6_ := Aside0.mk ((by rw [hg]; exact Nat.ne_of_lt (blk_lt (g := gb324) (o := .cells #[.int .i64 a0_0, .int .i64 a0_1, .int .i64 a0_2, .bool a0_3] 27 (0, 0)) (by (with_reducible repeat first | apply blk_drewN | apply blk_drew | apply blk_alloc); exact BK324.out)) : gb324 ≠ gb326)); have n7_ := Aside0.mk ((by rw [hg]; exact Nat.ne_of_gt (blk_lt (g := gb324) (o := .cells #[.int .i64 a0_0, .int .i64 a0_1, .int .i64 a0_2, .bool a0_3] 27 (0, 0)) (by (with_reducible repeat first | apply blk_drewN | apply blk_drew | apply blk_alloc); exact BK324.out)) : gb326 ≠ gb324)); have n8_ := Aside0.mk ((by rw [hg]; exact Nat.ne_of_lt (blk_lt (g := gb325) (o := .cells #[.int .i64 0, .int .i64 0, .int .i64 0, .bool false] 37 (0, 0)) (by (with_reducible repeat first | apply blk_drewN | apply blk_drew | apply blk_alloc); exact BK325.out)) : gb325 ≠ gb326)); have n9_ := Aside0.mk ((by rw [hg]; exact Nat.ne_of_gt (blk_lt (g := gb325) (o := .cells #[.int .i64 0, .int .i64 0, .int .i64 0, .bool false] 37 (0, 0)) (by (with_reducible repeat first | apply blk_drewN | apply blk_drew | apply blk_alloc); exact BK325.out)) : gb326 ≠ gb325)); clear BK324; clear BK325; clear HB; have BK324 := n0_; have BK325 := n1_; have HB := n2_; have BK326 := n3_; have GW326 := n4_; have GE326 := n5_; have NB324_326 := n6_; have NB326_324 := n7_; have NB325_326 := n8_; have NB326_325 := n9_; clear n0_ n1_ n2_ n3_ n4_ n5_ n6_ n7_ n8_ n9_; clear hb hbox hg; have hnb5 := NB324_325.out; have hnc5 := NB325_324.out; have hnb6 := NB324_326.out; have hnc6 := NB326_324.out; have hcz7_0 := (blk_cell BK324.out 0).trans rfl; have hcz7_1 := (blk_cell BK324.out 1).trans rfl; have hcz7_2 := (blk_cell BK324.out 2).trans rfl; have hcz7_3 := (blk_cell BK324.out 3).trans rfl; have hfz7_0 := blk_frozen BK324.out 0; have hfz7_1 := blk_frozen BK324.out 1; have hfz7_2 := blk_frozen BK324.out 2; have hfz7_3 := blk_frozen BK324.out 3; have hnb8 := NB326_325.out; have hnc8 := NB325_326.out; have hcz9_0 := (blk_cell BK326.out 0).trans rfl; have hcz9_1 := (blk_cell BK326.out 1).trans rfl; have hcz9_2 := (blk_cell BK326.out 2).trans rfl; have hcz9_3 := (blk_cell BK326.out 3).trans rfl; have hfz9_0 := blk_frozen BK326.out 0; have hfz9_1 := blk_frozen BK326.out 1; have hfz9_2 := blk_frozen BK326.out 2; have hfz9_3 := blk_frozen BK326.out 3; have hcz10_0 := (blk_cell BK325.out 0).trans rfl; have hcz10_1 := (blk_cell BK325.out 1).trans rfl; have hcz10_2 := (blk_cell BK325.out 2).trans rfl; have hcz10_3 := (blk_cell BK325.out 3).trans rfl; have hfz10_0 := blk_frozen BK325.out 0; have hfz10_1 := blk_frozen BK325.out 1; have hfz10_2 := blk_frozen BK325.out 2; have hfz10_3 := blk_frozen BK325.out 3))
 refine bodyPost_ret (results_cell_row rfl _ _ gb325 37 #[.int .i64 a0_0, .int .i64 a0_1, .int .i64 a0_2, .bool a0_3] (0, 0) _ rfl (by (with_reducible repeat first | apply blk_drewN | apply blk_drew | apply blk_alloc); refine blk_put (cs := #[.int .i64 a0_0, .int .i64 a0_1, .int .i64 a0_2, .bool false]) ?_ 3 _ rfl; (with_reducible repeat first | apply blk_drewN | apply blk_drew | apply blk_alloc); refine blk_put (cs := #[.int .i64 a0_0, .int .i64 a0_1, .int .i64 0, .bool false]) ?_ 2 _ rfl; (with_reducible repeat first | apply blk_drewN | apply blk_drew | apply blk_alloc); refine blk_put (cs := #[.int .i64 a0_0, .int .i64 0, .int .i64 0, .bool false]) ?_ 1 _ rfl; (with_reducible repeat first | apply blk_drewN | apply blk_drew | apply blk_alloc); refine blk_put (cs := #[.int .i64 0, .int .i64 0, .int .i64 0, .bool false]) ?_ 0 _ rfl; (with_reducible repeat first | apply blk_drewN | apply blk_drew | apply blk_alloc); refine blk_far ?_ NB325_326.out _; (with_reducible repeat first | apply blk_drewN | apply blk_drew | apply blk_alloc); refine blk_far ?_ NB325_326.out _; (with_reducible repeat first | apply blk_drewN | apply blk_drew | apply blk_alloc); refine blk_far ?_ NB325_326.out _; (with_reducible repeat first | apply blk_drewN | apply blk_drew | apply blk_alloc); refine blk_far ?_ NB325_326.out _; (with_reducible repeat first | apply blk_drewN | apply blk_drew | apply blk_alloc); exact BK325.out) Tryz.underlying37 rfl (by kernel_rfl)) rfl ?_
 exact ⟨by first | rfl | (simp [*, errW_none, errW_some] <;> rfl), by repeat (first | (with_reducible first | exact HB.out | apply below_alloc | apply pw_below_drewN | apply below_drew1 | refine below_set ?_ GE324.out | refine below_set ?_ GE325.out | refine below_set ?_ GE326.out) | exact HB.out)⟩

/-! ### laws_FnExactPlace: function 4 -/
section
variable {w W : World} {base base' : Nat} {ok ok' : Nat → Prop} {v0 v1 : Value} {D : List S72} {B : List S68}
theorem tree_own (h0 : Kd.R k72 72 w base ok v0 D) (h1 : Kd.S k68 68 w base ok' v1 B) : ∃ P0 P1 : Nat → Prop, Kd.R k72 72 w base P0 v0 D ∧ Kd.S k68 68 w base P1 v1 B ∧ (∀ k, P0 k ∨ P1 k → base ≤ k ∧ k < w.heap.size) ∧ ∀ k, P1 k → ¬ P0 k := by
 refine ⟨_, _, Kd.R_bound h0, Kd.S_bound h1, fun k hk => hk.elim (fun h => ⟨h.2.1, h.2.2.1⟩) (fun h => ⟨h.2.1, h.2.2.1⟩), ?_⟩
 rintro k ⟨_, _, _, q, hq, cells, hc⟩ ⟨_, _, _, q2, hq2, cells2, hc2⟩
 have e := hc.symm.trans hc2
 have hq : q ∈ [68, 2] := hq
 have hq2 : q2 ∈ [72] := hq2
 simp only [List.mem_cons, List.not_mem_nil, or_false] at hq hq2
 injection e with e
 injection e with _ e
 subst e
 omega
theorem tree_reads (h0 : Kd.R k72 72 w base ok v0 D) (h1 : Kd.S k68 68 w base' ok' v1 B) : ∃ A0 c0 A1 c1, v0 = .slice A0 D.length c0 ∧ v1 = .slice A1 B.length c1 ∧ TreeC w A0 c0 D A1 c1 B := by
 obtain ⟨A0, c0, e0, hl0, hC0⟩ := Kd.R_reads h0
 obtain ⟨A1, c1, e1⟩ := Kd.S_slice h1
 subst e0 e1
 obtain ⟨-, hl1, hC1⟩ := Kd.S_reads' h1
 exact ⟨A0, c0, A1, c1, rfl, rfl, ⟨hC0, hl0, hC1, hl1⟩⟩
variable {A0 A1 : Option Addr} {c0 c1 n0 n1 : Nat} {l0 l1 : List Int}
theorem eqInts_own (k : Nat) (r : Bool) (h0 : (Kd.int .i64).R 2 w base ok (.slice A0 n0 c0) l0) (h1 : (Kd.int .i64).R 2 w base' ok' (.slice A1 n1 c1) l1) (h : laws_eqInt64S.f k l0 l1 = some r) : Calls Tryz.prog 10 #[.slice A0 n0 c0, .slice A1 n1 c1] w fun e w' => e = .returned (.bool r) ∧ Below w.heap.size w w' := by
 obtain ⟨rfl, hl0, hC0⟩ := Kd.R_reads' h0
 obtain ⟨rfl, hl1, hC1⟩ := Kd.R_reads' h1
 exact (laws_eqInt64S.calls k A0 c0 l0 A1 c1 l1 r w hC0 hl0 hC1 hl1 h).mono fun e w' h => ⟨h.1, h.2.below⟩
theorem heldInts_own (k : Nat) (a1 r : Int) (h0 : (Kd.int .i64).R 2 w base ok (.slice A0 n0 c0) l0) (h : laws_heldInt64S.f k l0 a1 = some r) : Calls Tryz.prog 14 #[.slice A0 n0 c0, .int .i64 a1] w fun e w' => e = .returned (.int .i64 r) ∧ Below w.heap.size w w' := by
 obtain ⟨rfl, hl0, hC0⟩ := Kd.R_reads' h0
 exact (laws_heldInt64S.calls k A0 c0 l0 a1 r w hC0 hl0 h).mono fun e w' h => ⟨h.1, h.2.below⟩
end
def laws_FnExactPlace.f (k : Nat) (l0_0 : List S74) (l0_1 : List S66) (a1_0 a1_1 a1_2 : Int) (a1_3 : Bool) (a2 a3 : Int) (l4 : List Int) : Option Bool :=
 if (l4.length : Int) > 1048576 then some true else (laws_szTree.f k l0_0 l0_1 1048576).bind fun t => if t < 0 then some true else (laws_toTree.f k l0_0 l0_1).bind fun b => (laws_toInt64S.f k l4).bind fun o => (spec_Place.f k b.1 b.2 a1_0 a1_1 a1_2 a1_3 a2 a3 o).bind fun s => (impl_Place.f k b.1 b.2 a1_0 a1_1 a1_2 a1_3 a2 a3 o).bind fun v => (laws_eqInt64S.f k s.1 s.1).bind fun q => (laws_eqTree.f k b.1 b.2 b.1 b.2).bind fun qt => (laws_eqInt64S.f k o o).bind fun qo => (laws_markTree.f k b.1 b.2 1).bind fun m => (laws_markInt64S.f k o m).bind fun mo => (laws_markInt64S.f k s.1 1).bind fun mi => (laws_heldInt64S.f k mi.2 1).bind fun h => if v.1 = s.1 ∧ v.2 = s.2 ∧ q = true ∧ qt = true ∧ qo = true ∧ 0 ≤ mo.1 ∧ h = mi.1 ∧ 0 ≤ h then some true else none
set_option maxHeartbeats 8000000 in
set_option maxRecDepth 100000 in
theorem laws_FnExactPlace.calls (k : Nat) (A0_0 : Option Addr) (c0_0 : Nat) (l0_0 : List S74) (A0_1 : Option Addr) (c0_1 : Nat) (l0_1 : List S66) (a1_0 a1_1 a1_2 : Int) (a1_3 : Bool) (a2 a3 : Int) (A4 : Option Addr) (c4 : Nat) (l4 : List Int) (r : Bool) (w : World) (hr0_0 : Kd.C k74 w A0_0 l0_0.length l0_0) (hc0_0 : l0_0.length ≤ c0_0) (hr0_1 : Kd.C k66 w A0_1 l0_1.length l0_1) (hc0_1 : l0_1.length ≤ c0_1) (hr4 : Kd.C (Kd.int .i64) w A4 l4.length l4) (hc4 : l4.length ≤ c4) (h : laws_FnExactPlace.f k l0_0 l0_1 a1_0 a1_1 a1_2 a1_3 a2 a3 l4 = some r) :
  Calls Tryz.prog 4 #[.agg #[.slice A0_0 l0_0.length c0_0, .slice A0_1 l0_1.length c0_1], .agg #[.int .i64 a1_0, .int .i64 a1_1, .int .i64 a1_2, .bool a1_3], .int .i64 a2, .int .i64 a3, .slice A4 l4.length c4] w fun e w' => e = .returned (.bool r) ∧ Below w.heap.size w w' := by
 have HA0 := Aside0.mk hr0_0
 have HA1 := Aside0.mk hr0_1
 have HC0 := Aside0.mk hc0_0
 have HC1 := Aside0.mk hc0_1
 have HL := Aside0.mk hr4
 have HD := Aside0.mk hc4
 clear hr0_0 hr0_1 hc0_0 hc0_1 hr4 hc4
 unfold laws_FnExactPlace.f at h
 by_cases cl : (l4.length : Int) > 1048576
 case pos =>
  rw [if_pos cl] at h
  obtain rfl := Option.some.inj h
  have cb := decide_eq_true (show 1048576 < (l4.length : Int) by omega)
  have cn := decide_eq_true (show 1048576 < l4.length by omega)
  clear cl h
  go_enter Tryz.func4, Tryz.ntmps4
  go_wp2_with fail
  go_ret
  exact ⟨rfl, below_alloc (below_alloc (Below.refl _ _) _) _⟩
 rw [if_neg cl] at h
 have cb := decide_eq_false (show ¬ 1048576 < (l4.length : Int) by omega)
 have cn := decide_eq_false (show ¬ 1048576 < l4.length by omega)
 clear cl
 obtain ⟨t1, E1, h'⟩ := Option.bind_eq_some_iff.1 h
 clear h
 replace E1 := Aside0.mk E1
 have H := Aside0.mk h'
 clear h'
 go_enter Tryz.func4, Tryz.ntmps4
 go_wp2_with fail
 clear cb cn
 have BA := Aside0.mk (blk_alloc (blk_new w (.cells #[.slice A0_0 l0_0.length c0_0, .slice A0_1 l0_1.length c0_1] 25)) (.cells #[.int .i64 a1_0, .int .i64 a1_1, .int .i64 a1_2, .bool a1_3] 27))
 have BR := Aside0.mk (blk_new (w.alloc (.cells #[.slice A0_0 l0_0.length c0_0, .slice A0_1 l0_1.length c0_1] 25)) (.cells #[.int .i64 a1_0, .int .i64 a1_1, .int .i64 a1_2, .bool a1_3] 27))
 have HB := Aside0.mk (below_alloc (below_alloc (Below.refl w.heap.size w) (.cells #[.slice A0_0 l0_0.length c0_0, .slice A0_1 l0_1.length c0_1] 25)) (.cells #[.int .i64 a1_0, .int .i64 a1_1, .int .i64 a1_2, .bool a1_3] 27))
 have hs : (w.alloc (.cells #[.slice A0_0 l0_0.length c0_0, .slice A0_1 l0_1.length c0_1] 25)).heap.size = w.heap.size + 1 := by unfold World.alloc; exact Array.size_push _
 rw [hs] at BR
 try rw [hs]
 clear hs
 generalize ((w.alloc (.cells #[.slice A0_0 l0_0.length c0_0, .slice A0_1 l0_1.length c0_1] 25)).alloc (.cells #[.int .i64 a1_0, .int .i64 a1_1, .int .i64 a1_2, .bool a1_3] 27)) = w1 at BA BR HB ⊢
 generalize w.heap.size + 1 = gr at BR ⊢
 (with_reducible refine (laws_szTree.calls k A0_0 c0_0 l0_0 A0_1 c0_1 l0_1 1048576 t1 _ (Kd.C_below HA0.out HB.out) HC0.out (Kd.C_below HA1.out HB.out) HC1.out E1.out).mono ?_)
 rintro e w2 ⟨rfl, hb⟩
 replace BA := Aside0.mk (blk_below BA.out hb)
 replace BR := Aside0.mk (blk_below BR.out hb)
 replace HB := Aside0.mk (below_step HB.out hb)
 clear hb
 have hBA0 := (blk_cell BA.out 0).trans rfl
 have hBA1 := (blk_cell BA.out 1).trans rfl
 have hBR0 := (blk_cell BR.out 0).trans rfl
 have hBR1 := (blk_cell BR.out 1).trans rfl
 have hBR2 := (blk_cell BR.out 2).trans rfl
 have hBR3 := (blk_cell BR.out 3).trans rfl
 by_cases d1 : t1 < 0
 case pos =>
  have HF := Aside0.mk (show r = true from by have := H.out; rw [if_pos d1] at this; exact (Option.some.inj this).symm)
  have db := decide_eq_true d1
  clear d1
  go_wp2_with fail
  go_ret
  exact ⟨by rw [HF.out]; rfl, HB.out⟩
 have h := H.out
 rw [if_neg d1] at h
 clear H
 obtain ⟨⟨D, B⟩, E2, h'⟩ := Option.bind_eq_some_iff.1 h
 clear h
 have h := h'
 clear h'
 obtain ⟨o, E3, h'⟩ := Option.bind_eq_some_iff.1 h
 clear h
 have h := h'
 clear h'
 obtain ⟨⟨s, se⟩, E4, h'⟩ := Option.bind_eq_some_iff.1 h
 clear h
 have h := h'
 clear h'
 obtain ⟨⟨v, ve⟩, E5, h'⟩ := Option.bind_eq_some_iff.1 h
 clear h
 have h := h'
 clear h'
 obtain ⟨q, E6, h'⟩ := Option.bind_eq_some_iff.1 h
 clear h
 have h := h'
 clear h'
 obtain ⟨qt, E7, h'⟩ := Option.bind_eq_some_iff.1 h
 clear h
 have h := h'
 clear h'
 obtain ⟨qo, E8, h'⟩ := Option.bind_eq_some_iff.1 h
 clear h
 have h := h'
 clear h'
 obtain ⟨m, E9, h'⟩ := Option.bind_eq_some_iff.1 h
 clear h
 have h := h'
 clear h'
 obtain ⟨⟨mo, ol⟩, E10, h'⟩ := Option.bind_eq_some_iff.1 h
 clear h
 have h := h'
 clear h'
 obtain ⟨⟨mm, ml⟩, E11, h'⟩ := Option.bind_eq_some_iff.1 h
 clear h
 have h := h'
 clear h'
 obtain ⟨hh, E12, h'⟩ := Option.bind_eq_some_iff.1 h
 clear h
 have h := h'
 clear h'
 by_cases hg : (v, ve).1 = (s, se).1 ∧ (v, ve).2 = (s, se).2 ∧ q = true ∧ qt = true ∧ qo = true ∧ 0 ≤ (mo, ol).1 ∧ hh = (mm, ml).1 ∧ 0 ≤ hh
 case neg => rw [if_neg hg] at h; cases h
 rw [if_pos hg] at h
 obtain rfl := Option.some.inj h
 clear h
 simp only at hg
 obtain ⟨rfl, rfl, rfl, rfl, rfl, hm0, rfl, hh0⟩ := hg
 replace E2 := Aside0.mk E2
 replace E3 := Aside0.mk E3
 replace E4 := Aside0.mk E4
 replace E5 := Aside0.mk E5
 replace E6 := Aside0.mk E6
 replace E7 := Aside0.mk E7
 replace E8 := Aside0.mk E8
 replace E9 := Aside0.mk E9
 replace E10 := Aside0.mk E10
 replace E11 := Aside0.mk E11
 replace E12 := Aside0.mk E12
 have DM := decide_eq_false (show ¬ mo < 0 by omega)
 have DH := decide_eq_false (show ¬ hh < 0 by omega)
 clear hm0 hh0
 have db1 := decide_eq_false d1
 clear d1
 go_wp2_with fail
 clear db1
 have HT := Aside0.mk (fun W (hW : Below w.heap.size w W) => laws_toTree.calls k A0_0 c0_0 l0_0 A0_1 c0_1 l0_1 D B W (Kd.C_below HA0.out hW) HC0.out (Kd.C_below HA1.out hW) HC1.out E2.out)
 have HI := Aside0.mk (fun W (hW : Below w.heap.size w W) => toIntsC.calls k A4 c4 l4 o W (Kd.C_below HL.out hW) HD.out E3.out)
 have HK := Aside0.mk (show ∀ w', Below w2.heap.size w2 w' → (fun w' => w'.cell? ⟨w.heap.size, 0, none⟩ = some (.slice A0_0 l0_0.length c0_0) ∧ w'.cell? ⟨w.heap.size, 1, none⟩ = some (.slice A0_1 l0_1.length c0_1) ∧ w'.cell? ⟨gr, 0, none⟩ = some (.int .i64 a1_0) ∧ w'.cell? ⟨gr, 1, none⟩ = some (.int .i64 a1_1) ∧ w'.cell? ⟨gr, 2, none⟩ = some (.int .i64 a1_2) ∧ w'.cell? ⟨gr, 3, none⟩ = some (.bool a1_3) ∧ Below w2.heap.size w2 w') w' from fun w' h => ⟨(h.cell (blk_lt BA.out)).trans hBA0, (h.cell (blk_lt BA.out)).trans hBA1, (h.cell (blk_lt BR.out)).trans hBR0, (h.cell (blk_lt BR.out)).trans hBR1, (h.cell (blk_lt BR.out)).trans hBR2, (h.cell (blk_lt BR.out)).trans hBR3, h⟩)
 go_region_held3 (fun w' => w'.cell? ⟨w.heap.size, 0, none⟩ = some (.slice A0_0 l0_0.length c0_0) ∧ w'.cell? ⟨w.heap.size, 1, none⟩ = some (.slice A0_1 l0_1.length c0_1) ∧ w'.cell? ⟨gr, 0, none⟩ = some (.int .i64 a1_0) ∧ w'.cell? ⟨gr, 1, none⟩ = some (.int .i64 a1_1) ∧ w'.cell? ⟨gr, 2, none⟩ = some (.int .i64 a1_2) ∧ w'.cell? ⟨gr, 3, none⟩ = some (.bool a1_3) ∧ Below w2.heap.size w2 w') (first | exact HK.out _ hbb | exact HK.out _ (below_drew1 (Below.refl _ _)) | exact HK.out _ (Below.refl _ _)) (first | (go_at_call 7; go_split_ands; (with_reducible refine (HT.out _ (below_step HB.out (show Below w2.heap.size w2 _ by assumption))).mono ?_); rintro e wp ⟨u0, u1, rfl, hz0, hz1, hb⟩; have hbb : Below w2.heap.size w2 _ := below_step (by assumption) hb; obtain ⟨PA, pa, PB, pb, rfl, rfl, TP⟩ := tree_reads hz0 hz1; clear hz0 hz1) | (go_at_call 8; go_split_ands; (with_reducible refine (laws_toRule.calls a1_0 a1_1 a1_2 a1_3 a1_0 a1_1 a1_2 a1_3 _ rfl).mono ?_); rintro e wr ⟨rfl, hb⟩; have hbb : Below w2.heap.size w2 _ := below_step (by assumption) hb; replace TP := TP.below hb) | (go_at_call 16; go_split_ands; (with_reducible refine (HI.out _ (below_step HB.out (show Below w2.heap.size w2 _ by assumption))).mono ?_); rintro e wi ⟨Q0, q0, rfl, TQ, hb⟩; have hbb : Below w2.heap.size w2 _ := below_step (by assumption) hb; replace TP := TP.below hb) | (go_at_call 15; go_split_ands; (with_reducible refine (spec_Place.calls k PA pa D PB pb B a1_0 a1_1 a1_2 a1_3 a2 a3 Q0 q0 o v ve _ TP.d TP.hd TP.b TP.hb TQ.r TQ.h E4.out).mono ?_); rintro e w4 ⟨vw, rfl, hw, hb⟩; have hbb : Below w2.heap.size w2 _ := below_step (by assumption) hb))
 have hb := hbb
 clear hBA0 hBA1 hBR0 hBR1 hBR2 hBR3
 replace BA := Aside0.mk (blk_below BA.out hb)
 replace BR := Aside0.mk (blk_below BR.out hb)
 replace HB := Aside0.mk (below_step HB.out hb)
 clear hb HK
 clear TP TQ
 have hBA0 := (blk_cell BA.out 0).trans rfl
 have hBA1 := (blk_cell BA.out 1).trans rfl
 have hBR0 := (blk_cell BR.out 0).trans rfl
 have hBR1 := (blk_cell BR.out 1).trans rfl
 have hBR2 := (blk_cell BR.out 2).trans rfl
 have hBR3 := (blk_cell BR.out 3).trans rfl
 obtain ⟨WA, wc, rfl⟩ := Kd.R_slice hw
 have HW := Aside0.mk (Kd.R_lower (Kd.R_mono (Kd.R_bound hw) (ok' := fun k => k < w4.heap.size) (fun k hk => hk.2.2.1)) (Nat.zero_le _))
 have hn1 : w.heap.size < w4.heap.size := blk_lt BA.out
 have hnr : gr < w4.heap.size := blk_lt BR.out
 have HN1 := Aside0.mk (Nat.le_refl w4.heap.size)
 clear hw
 obtain ⟨n1, en1⟩ : ∃ n, n = w4.heap.size := ⟨_, rfl⟩
 rw [← en1] at hn1 hnr
 have HN0 := Aside0.mk hn1
 have HNR := Aside0.mk hnr
 replace HN1 := Aside0.mk (show n1 ≤ w4.heap.size by omega)
 replace HW := Aside0.mk (show (Kd.int .i64).R 2 w4 0 (fun k => k < n1) (.slice WA v.length wc) v from by rw [en1]; exact HW.out)
 clear en1 hn1 hnr
 go_wp2_with fail
 (with_reducible refine (HT.out _ HB.out).mono ?_)
 rintro e w5 ⟨v0, v1, rfl, h0, h1, hb⟩
 clear hBA0 hBA1 hBR0 hBR1 hBR2 hBR3
 replace BA := Aside0.mk (blk_below BA.out hb)
 replace BR := Aside0.mk (blk_below BR.out hb)
 replace HB := Aside0.mk (below_step HB.out hb)
 replace HW := Aside0.mk (Kd.R_below HW.out hb)
 have hs5 := hb.size
 clear hb
 have hBA0a := fun o => (blk_cell (blk_alloc BA.out o) 0).trans rfl
 have hBA1a := fun o => (blk_cell (blk_alloc BA.out o) 1).trans rfl
 have hBR0a := fun o => (blk_cell (blk_alloc BR.out o) 0).trans rfl
 have hBR1a := fun o => (blk_cell (blk_alloc BR.out o) 1).trans rfl
 have hBR2a := fun o => (blk_cell (blk_alloc BR.out o) 2).trans rfl
 have hBR3a := fun o => (blk_cell (blk_alloc BR.out o) 3).trans rfl
 have hBA0 := (blk_cell BA.out 0).trans rfl
 have hBA1 := (blk_cell BA.out 1).trans rfl
 have hBR0 := (blk_cell BR.out 0).trans rfl
 have hBR1 := (blk_cell BR.out 1).trans rfl
 have hBR2 := (blk_cell BR.out 2).trans rfl
 have hBR3 := (blk_cell BR.out 3).trans rfl
 obtain ⟨P0, P1, h0', h1', hlt, hne⟩ := tree_own h0 h1
 clear h0 h1
 obtain ⟨XA, xa, XB, xb, rfl, rfl, TX⟩ := tree_reads h0' h1'
 replace TX := Aside0.mk TX
 have HX0 := Aside0.mk h0'
 have HX1 := Aside0.mk h1'
 have HNE := Aside0.mk hne
 replace HX0 := Aside0.mk (Kd.R_lower HX0.out (show w.heap.size ≤ w4.heap.size by have := HN0.out; have := HN1.out; omega))
 replace HX1 := Aside0.mk (Kd.S_lower HX1.out (show w.heap.size ≤ w4.heap.size by have := HN0.out; have := HN1.out; omega))
 have HN3 := Aside0.mk (show n1 ≤ w5.heap.size from Nat.le_trans HN1.out hs5)
 have HLT := Aside0.mk (fun k hk => (⟨Nat.le_trans HN1.out (hlt k hk).1, (hlt k hk).2⟩ : n1 ≤ k ∧ k < w5.heap.size))
 clear h0' h1' hlt hne HN1 hs5
 go_wp2_with fail
 have hb := below_alloc (Below.refl w5.heap.size w5) (.cells #[.slice XA D.length xa, .slice XB B.length xb] 35)
 have BX := Aside0.mk (blk_new w5 (.cells #[.slice XA D.length xa, .slice XB B.length xb] 35))
 clear hBA0 hBA1 hBR0 hBR1 hBR2 hBR3
 clear hBA0a hBA1a hBR0a hBR1a hBR2a hBR3a
 replace BA := Aside0.mk (blk_below BA.out hb)
 replace BR := Aside0.mk (blk_below BR.out hb)
 replace HB := Aside0.mk (below_step HB.out hb)
 replace HW := Aside0.mk (Kd.R_below HW.out hb)
 replace TX := Aside0.mk (TX.out.below hb)
 replace HX0 := Aside0.mk (Kd.R_below HX0.out hb)
 replace HX1 := Aside0.mk (Kd.S_below HX1.out hb)
 clear hb
 generalize (w5.alloc (.cells #[.slice XA D.length xa, .slice XB B.length xb] 35)) = wx at BA BR HB HW TX HX0 HX1 BX ⊢
 generalize w5.heap.size = gx at BX HLT HN3 ⊢
 have hBA0 := (blk_cell BA.out 0).trans rfl
 have hBA1 := (blk_cell BA.out 1).trans rfl
 have hBR0 := (blk_cell BR.out 0).trans rfl
 have hBR1 := (blk_cell BR.out 1).trans rfl
 have hBR2 := (blk_cell BR.out 2).trans rfl
 have hBR3 := (blk_cell BR.out 3).trans rfl
 have hBX0 := (blk_cell BX.out 0).trans rfl
 have hBX1 := (blk_cell BX.out 1).trans rfl
 have hx := blk_lt BX.out
 go_wp2_with fail
 (with_reducible refine (laws_toInt64S.calls k A4 c4 l4 o _ (Kd.C_below HL.out HB.out) HD.out E3.out).mono ?_)
 rintro e w6 ⟨v4, rfl, h4, hb⟩
 clear hBA0 hBA1 hBR0 hBR1 hBR2 hBR3 hBX0 hBX1
 replace BA := Aside0.mk (blk_below BA.out hb)
 replace BR := Aside0.mk (blk_below BR.out hb)
 replace HB := Aside0.mk (below_step HB.out hb)
 replace HW := Aside0.mk (Kd.R_below HW.out hb)
 replace TX := Aside0.mk (TX.out.below hb)
 replace HX0 := Aside0.mk (Kd.R_below HX0.out hb)
 replace HX1 := Aside0.mk (Kd.S_below HX1.out hb)
 replace BX := Aside0.mk (blk_below BX.out hb)
 have hs6 := hb.size
 clear hb
 have hBA0 := (blk_cell BA.out 0).trans rfl
 have hBA1 := (blk_cell BA.out 1).trans rfl
 have hBR0 := (blk_cell BR.out 0).trans rfl
 have hBR1 := (blk_cell BR.out 1).trans rfl
 have hBR2 := (blk_cell BR.out 2).trans rfl
 have hBR3 := (blk_cell BR.out 3).trans rfl
 have hBX0 := (blk_cell BX.out 0).trans rfl
 have hBX1 := (blk_cell BX.out 1).trans rfl
 obtain ⟨XO, xo, rfl⟩ := Kd.R_slice h4
 have hx6 : gx < w6.heap.size := Nat.lt_of_lt_of_le hx hs6
 obtain ⟨n4, en4⟩ : ∃ n, n = w6.heap.size := ⟨_, rfl⟩
 have HN4 := Aside0.mk (show gx < n4 by omega)
 have HX4 := Aside0.mk (Kd.R_lower (Kd.R_mono (Kd.R_bound h4) (ok' := fun k => gx < k ∧ k < n4) (fun k hk => ⟨Nat.lt_of_lt_of_le hx hk.2.1, by rw [en4]; exact hk.2.2.1⟩)) (show w.heap.size ≤ wx.heap.size by have := HN0.out; have := HN3.out; omega))
 have HN5 := Aside0.mk (show n4 ≤ w6.heap.size by omega)
 clear h4 hx6 hs6 en4 hx
 go_wp2_with fail
 have HK := Aside0.mk (show ∀ w', Below w6.heap.size w6 w' → (fun w' => w'.cell? ⟨w.heap.size, 0, none⟩ = some (.slice A0_0 l0_0.length c0_0) ∧ w'.cell? ⟨w.heap.size, 1, none⟩ = some (.slice A0_1 l0_1.length c0_1) ∧ w'.cell? ⟨gr, 0, none⟩ = some (.int .i64 a1_0) ∧ w'.cell? ⟨gr, 1, none⟩ = some (.int .i64 a1_1) ∧ w'.cell? ⟨gr, 2, none⟩ = some (.int .i64 a1_2) ∧ w'.cell? ⟨gr, 3, none⟩ = some (.bool a1_3) ∧ w'.cell? ⟨gx, 0, none⟩ = some (.slice XA D.length xa) ∧ w'.cell? ⟨gx, 1, none⟩ = some (.slice XB B.length xb) ∧ Below w6.heap.size w6 w') w' from fun w' h => ⟨(h.cell (blk_lt BA.out)).trans hBA0, (h.cell (blk_lt BA.out)).trans hBA1, (h.cell (blk_lt BR.out)).trans hBR0, (h.cell (blk_lt BR.out)).trans hBR1, (h.cell (blk_lt BR.out)).trans hBR2, (h.cell (blk_lt BR.out)).trans hBR3, (h.cell (blk_lt BX.out)).trans hBX0, (h.cell (blk_lt BX.out)).trans hBX1, h⟩)
 go_region_held3 (fun w' => w'.cell? ⟨w.heap.size, 0, none⟩ = some (.slice A0_0 l0_0.length c0_0) ∧ w'.cell? ⟨w.heap.size, 1, none⟩ = some (.slice A0_1 l0_1.length c0_1) ∧ w'.cell? ⟨gr, 0, none⟩ = some (.int .i64 a1_0) ∧ w'.cell? ⟨gr, 1, none⟩ = some (.int .i64 a1_1) ∧ w'.cell? ⟨gr, 2, none⟩ = some (.int .i64 a1_2) ∧ w'.cell? ⟨gr, 3, none⟩ = some (.bool a1_3) ∧ w'.cell? ⟨gx, 0, none⟩ = some (.slice XA D.length xa) ∧ w'.cell? ⟨gx, 1, none⟩ = some (.slice XB B.length xb) ∧ Below w6.heap.size w6 w') (first | exact HK.out _ hbb | exact HK.out _ (below_drew1 (Below.refl _ _)) | exact HK.out _ (Below.refl _ _)) (first | (go_at_call 8; go_split_ands; (with_reducible refine (laws_toRule.calls a1_0 a1_1 a1_2 a1_3 a1_0 a1_1 a1_2 a1_3 _ rfl).mono ?_); rintro e wz ⟨rfl, hb⟩; have hbb : Below w6.heap.size w6 _ := below_step (by assumption) hb) | (go_at_call 17; go_split_ands; (with_reducible refine (impl_Place.calls k XA xa D XB xb B a1_0 a1_1 a1_2 a1_3 a2 a3 XO xo o v ve _ (TX.out.below (show Below w6.heap.size w6 _ by assumption)).d TX.out.hd (TX.out.below (show Below w6.heap.size w6 _ by assumption)).b TX.out.hb (Kd.R_reads' (Kd.R_below HX4.out (show Below w6.heap.size w6 _ by assumption))).2.2 (Kd.R_reads' HX4.out).2.1 E5.out).mono ?_); rintro e w7 ⟨vg, rfl, hg', hb⟩; have hbb : Below w6.heap.size w6 _ := below_step (by assumption) hb; have hg := Kd.R_lower (base' := w6.heap.size) hg' (below_size (by assumption)); clear hg'))
 have hb := hbb
 clear hBA0 hBA1 hBR0 hBR1 hBR2 hBR3 hBX0 hBX1
 replace BA := Aside0.mk (blk_below BA.out hb)
 replace BR := Aside0.mk (blk_below BR.out hb)
 replace HB := Aside0.mk (below_step HB.out hb)
 replace HW := Aside0.mk (Kd.R_below HW.out hb)
 replace TX := Aside0.mk (TX.out.below hb)
 replace HX0 := Aside0.mk (Kd.R_below HX0.out hb)
 replace HX1 := Aside0.mk (Kd.S_below HX1.out hb)
 replace BX := Aside0.mk (blk_below BX.out hb)
 replace HX4 := Aside0.mk (Kd.R_below HX4.out hb)
 clear hb HK
 obtain ⟨GA, gc, rfl⟩ := Kd.R_slice hg
 have HG := Aside0.mk (Kd.R_lower (Kd.R_mono (Kd.R_bound hg) (ok' := fun k => n4 ≤ k) (fun k hk => Nat.le_trans HN5.out hk.2.1)) (show w.heap.size ≤ w6.heap.size by have := HN0.out; have := HN3.out; have := HN4.out; have := HN5.out; omega))
 clear hg
 generalize v.length = nv at HW HG ⊢
 have hBA0 := (blk_cell BA.out 0).trans rfl
 have hBA1 := (blk_cell BA.out 1).trans rfl
 have hBR0 := (blk_cell BR.out 0).trans rfl
 have hBR1 := (blk_cell BR.out 1).trans rfl
 have hBR2 := (blk_cell BR.out 2).trans rfl
 have hBR3 := (blk_cell BR.out 3).trans rfl
 have hBX0 := (blk_cell BX.out 0).trans rfl
 have hBX1 := (blk_cell BX.out 1).trans rfl
 go_wp2_with fail
 (with_reducible refine (eqInts_own k true HG.out HW.out E6.out).mono ?_)
 rintro e w8 ⟨rfl, hb⟩
 clear hBA0 hBA1 hBR0 hBR1 hBR2 hBR3 hBX0 hBX1
 replace BA := Aside0.mk (blk_below BA.out hb)
 replace BR := Aside0.mk (blk_below BR.out hb)
 replace HB := Aside0.mk (below_step HB.out hb)
 replace HW := Aside0.mk (Kd.R_below HW.out hb)
 replace TX := Aside0.mk (TX.out.below hb)
 replace HX0 := Aside0.mk (Kd.R_below HX0.out hb)
 replace HX1 := Aside0.mk (Kd.S_below HX1.out hb)
 replace BX := Aside0.mk (blk_below BX.out hb)
 replace HX4 := Aside0.mk (Kd.R_below HX4.out hb)
 replace HG := Aside0.mk (Kd.R_below HG.out hb)
 clear hb
 have hBA0 := (blk_cell BA.out 0).trans rfl
 have hBA1 := (blk_cell BA.out 1).trans rfl
 have hBR0 := (blk_cell BR.out 0).trans rfl
 have hBR1 := (blk_cell BR.out 1).trans rfl
 have hBR2 := (blk_cell BR.out 2).trans rfl
 have hBR3 := (blk_cell BR.out 3).trans rfl
 have hBX0 := (blk_cell BX.out 0).trans rfl
 have hBX1 := (blk_cell BX.out 1).trans rfl
 go_wp2_with fail
 have HK := Aside0.mk (show ∀ w', Below w8.heap.size w8 w' → (fun w' => w'.cell? ⟨w.heap.size, 0, none⟩ = some (.slice A0_0 l0_0.length c0_0) ∧ w'.cell? ⟨w.heap.size, 1, none⟩ = some (.slice A0_1 l0_1.length c0_1) ∧ w'.cell? ⟨gr, 0, none⟩ = some (.int .i64 a1_0) ∧ w'.cell? ⟨gr, 1, none⟩ = some (.int .i64 a1_1) ∧ w'.cell? ⟨gr, 2, none⟩ = some (.int .i64 a1_2) ∧ w'.cell? ⟨gr, 3, none⟩ = some (.bool a1_3) ∧ w'.cell? ⟨gx, 0, none⟩ = some (.slice XA D.length xa) ∧ w'.cell? ⟨gx, 1, none⟩ = some (.slice XB B.length xb) ∧ Below w8.heap.size w8 w') w' from fun w' h => ⟨(h.cell (blk_lt BA.out)).trans hBA0, (h.cell (blk_lt BA.out)).trans hBA1, (h.cell (blk_lt BR.out)).trans hBR0, (h.cell (blk_lt BR.out)).trans hBR1, (h.cell (blk_lt BR.out)).trans hBR2, (h.cell (blk_lt BR.out)).trans hBR3, (h.cell (blk_lt BX.out)).trans hBX0, (h.cell (blk_lt BX.out)).trans hBX1, h⟩)
 go_region_held3 (fun w' => w'.cell? ⟨w.heap.size, 0, none⟩ = some (.slice A0_0 l0_0.length c0_0) ∧ w'.cell? ⟨w.heap.size, 1, none⟩ = some (.slice A0_1 l0_1.length c0_1) ∧ w'.cell? ⟨gr, 0, none⟩ = some (.int .i64 a1_0) ∧ w'.cell? ⟨gr, 1, none⟩ = some (.int .i64 a1_1) ∧ w'.cell? ⟨gr, 2, none⟩ = some (.int .i64 a1_2) ∧ w'.cell? ⟨gr, 3, none⟩ = some (.bool a1_3) ∧ w'.cell? ⟨gx, 0, none⟩ = some (.slice XA D.length xa) ∧ w'.cell? ⟨gx, 1, none⟩ = some (.slice XB B.length xb) ∧ Below w8.heap.size w8 w') (first | exact HK.out _ hbb | exact HK.out _ (below_drew1 (Below.refl _ _)) | exact HK.out _ (Below.refl _ _)) (first | (go_at_call 7; go_split_ands; (with_reducible refine (HT.out _ (below_step HB.out (show Below w8.heap.size w8 _ by assumption))).mono ?_); rintro e wz ⟨u0, u1, rfl, hz0, hz1, hb⟩; have hbb : Below w8.heap.size w8 _ := below_step (by assumption) hb; obtain ⟨ZA, za, ZB, zb, rfl, rfl, TZ⟩ := tree_reads hz0 hz1; clear hz0 hz1) | (go_at_call 11; go_split_ands; (with_reducible refine (laws_eqTree.calls k XA xa D XB xb B ZA za D ZB zb B true _ (TX.out.below (show Below w8.heap.size w8 _ by assumption)).d TX.out.hd (TX.out.below (show Below w8.heap.size w8 _ by assumption)).b TX.out.hb TZ.d TZ.hd TZ.b TZ.hb E7.out).mono ?_); rintro e wy ⟨rfl, hb⟩; have hbb : Below w8.heap.size w8 _ := below_step (by assumption) hb))
 have hb := hbb
 clear hBA0 hBA1 hBR0 hBR1 hBR2 hBR3 hBX0 hBX1
 replace BA := Aside0.mk (blk_below BA.out hb)
 replace BR := Aside0.mk (blk_below BR.out hb)
 replace HB := Aside0.mk (below_step HB.out hb)
 replace HW := Aside0.mk (Kd.R_below HW.out hb)
 replace TX := Aside0.mk (TX.out.below hb)
 replace HX0 := Aside0.mk (Kd.R_below HX0.out hb)
 replace HX1 := Aside0.mk (Kd.S_below HX1.out hb)
 replace BX := Aside0.mk (blk_below BX.out hb)
 replace HX4 := Aside0.mk (Kd.R_below HX4.out hb)
 replace HG := Aside0.mk (Kd.R_below HG.out hb)
 clear hb HK
 clear TZ
 have hBA0 := (blk_cell BA.out 0).trans rfl
 have hBA1 := (blk_cell BA.out 1).trans rfl
 have hBR0 := (blk_cell BR.out 0).trans rfl
 have hBR1 := (blk_cell BR.out 1).trans rfl
 have hBR2 := (blk_cell BR.out 2).trans rfl
 have hBR3 := (blk_cell BR.out 3).trans rfl
 have hBX0 := (blk_cell BX.out 0).trans rfl
 have hBX1 := (blk_cell BX.out 1).trans rfl
 go_wp2_with fail
 (with_reducible refine (laws_toInt64S.calls k A4 c4 l4 o _ (Kd.C_below HL.out HB.out) HD.out E3.out).mono ?_)
 rintro e w9 ⟨vu, rfl, hu, hb⟩
 clear hBA0 hBA1 hBR0 hBR1 hBR2 hBR3 hBX0 hBX1
 replace BA := Aside0.mk (blk_below BA.out hb)
 replace BR := Aside0.mk (blk_below BR.out hb)
 replace HB := Aside0.mk (below_step HB.out hb)
 replace HW := Aside0.mk (Kd.R_below HW.out hb)
 replace TX := Aside0.mk (TX.out.below hb)
 replace HX0 := Aside0.mk (Kd.R_below HX0.out hb)
 replace HX1 := Aside0.mk (Kd.S_below HX1.out hb)
 replace BX := Aside0.mk (blk_below BX.out hb)
 replace HX4 := Aside0.mk (Kd.R_below HX4.out hb)
 replace HG := Aside0.mk (Kd.R_below HG.out hb)
 clear hb
 have hBA0 := (blk_cell BA.out 0).trans rfl
 have hBA1 := (blk_cell BA.out 1).trans rfl
 have hBR0 := (blk_cell BR.out 0).trans rfl
 have hBR1 := (blk_cell BR.out 1).trans rfl
 have hBR2 := (blk_cell BR.out 2).trans rfl
 have hBR3 := (blk_cell BR.out 3).trans rfl
 have hBX0 := (blk_cell BX.out 0).trans rfl
 have hBX1 := (blk_cell BX.out 1).trans rfl
 obtain ⟨UA, uc, rfl⟩ := Kd.R_slice hu
 have HU := Aside0.mk hu
 clear hu
 go_wp2_with fail
 (with_reducible refine (eqInts_own k true HX4.out HU.out E8.out).mono ?_)
 rintro e w10 ⟨rfl, hb⟩
 clear hBA0 hBA1 hBR0 hBR1 hBR2 hBR3 hBX0 hBX1
 replace BA := Aside0.mk (blk_below BA.out hb)
 replace BR := Aside0.mk (blk_below BR.out hb)
 replace HB := Aside0.mk (below_step HB.out hb)
 replace HW := Aside0.mk (Kd.R_below HW.out hb)
 replace TX := Aside0.mk (TX.out.below hb)
 replace HX0 := Aside0.mk (Kd.R_below HX0.out hb)
 replace HX1 := Aside0.mk (Kd.S_below HX1.out hb)
 replace BX := Aside0.mk (blk_below BX.out hb)
 replace HX4 := Aside0.mk (Kd.R_below HX4.out hb)
 replace HG := Aside0.mk (Kd.R_below HG.out hb)
 replace HU := Aside0.mk (Kd.R_below HU.out hb)
 clear hb
 clear HU
 have hBA0 := (blk_cell BA.out 0).trans rfl
 have hBA1 := (blk_cell BA.out 1).trans rfl
 have hBR0 := (blk_cell BR.out 0).trans rfl
 have hBR1 := (blk_cell BR.out 1).trans rfl
 have hBR2 := (blk_cell BR.out 2).trans rfl
 have hBR3 := (blk_cell BR.out 3).trans rfl
 have hBX0 := (blk_cell BX.out 0).trans rfl
 have hBX1 := (blk_cell BX.out 1).trans rfl
 go_wp2_with fail
 (with_reducible refine (laws_markTree.calls k P0 P1 _ _ D B 1 m w _ HB.out HX0.out HX1.out HNE.out E9.out).mono ?_)
 rintro e w11 ⟨rfl, hb, hk⟩
 clear hBA0 hBA1 hBR0 hBR1 hBR2 hBR3 hBX0 hBX1
 replace BA := Aside0.mk (blk_kept BA.out hk (fun hx => by have := HLT.out _ hx; have := HN0.out; omega))
 replace BR := Aside0.mk (blk_kept BR.out hk (fun hx => by have := HLT.out _ hx; have := HNR.out; omega))
 replace HB := Aside0.mk hb
 replace HW := Aside0.mk (Kd.R_step HW.out (fun k_ ho hlt => hk.2 k_ hlt (fun hx => by have := HLT.out _ hx; omega)))
 replace HG := Aside0.mk (Kd.R_step HG.out (fun k_ ho hlt => hk.2 k_ hlt (fun hx => by have := HLT.out _ hx; have := HN4.out; omega)))
 replace HX4 := Aside0.mk (Kd.R_step HX4.out (fun k_ ho hlt => hk.2 k_ hlt (fun hx => by have := HLT.out _ hx; omega)))
 clear hb hk
 clear TX
 clear HX0
 clear HX1
 clear BX
 have hBA0 := (blk_cell BA.out 0).trans rfl
 have hBA1 := (blk_cell BA.out 1).trans rfl
 have hBR0 := (blk_cell BR.out 0).trans rfl
 have hBR1 := (blk_cell BR.out 1).trans rfl
 have hBR2 := (blk_cell BR.out 2).trans rfl
 have hBR3 := (blk_cell BR.out 3).trans rfl
 go_wp2_with fail
 (with_reducible refine (laws_markInt64S.calls k (fun k => gx < k ∧ k < n4) _ o m mo ol w _ HB.out HX4.out E10.out).mono ?_)
 rintro e w12 ⟨rfl, hg4, hb, hk⟩
 clear hBA0 hBA1 hBR0 hBR1 hBR2 hBR3
 replace BA := Aside0.mk (blk_kept BA.out hk (fun hx => by have := HN0.out; have := HN3.out; omega))
 replace BR := Aside0.mk (blk_kept BR.out hk (fun hx => by have := HNR.out; have := HN3.out; omega))
 replace HB := Aside0.mk hb
 replace HW := Aside0.mk (Kd.R_step HW.out (fun k_ ho hlt => hk.2 k_ hlt (fun hx => by have := HN3.out; omega)))
 replace HG := Aside0.mk (Kd.R_step HG.out (fun k_ ho hlt => hk.2 k_ hlt (fun hx => by omega)))
 clear hb hk
 clear hg4 HX4
 have hBA0 := (blk_cell BA.out 0).trans rfl
 have hBA1 := (blk_cell BA.out 1).trans rfl
 have hBR0 := (blk_cell BR.out 0).trans rfl
 have hBR1 := (blk_cell BR.out 1).trans rfl
 have hBR2 := (blk_cell BR.out 2).trans rfl
 have hBR3 := (blk_cell BR.out 3).trans rfl
 go_wp2_with fail
 (with_reducible refine (eqInts_own k true HG.out HW.out E6.out).mono ?_)
 rintro e w13 ⟨rfl, hb⟩
 clear hBA0 hBA1 hBR0 hBR1 hBR2 hBR3
 replace BA := Aside0.mk (blk_below BA.out hb)
 replace BR := Aside0.mk (blk_below BR.out hb)
 replace HB := Aside0.mk (below_step HB.out hb)
 replace HW := Aside0.mk (Kd.R_below HW.out hb)
 replace HG := Aside0.mk (Kd.R_below HG.out hb)
 clear hb
 have hBA0 := (blk_cell BA.out 0).trans rfl
 have hBA1 := (blk_cell BA.out 1).trans rfl
 have hBR0 := (blk_cell BR.out 0).trans rfl
 have hBR1 := (blk_cell BR.out 1).trans rfl
 have hBR2 := (blk_cell BR.out 2).trans rfl
 have hBR3 := (blk_cell BR.out 3).trans rfl
 go_wp2_with fail
 (with_reducible refine (laws_markInt64S.calls k (fun k => n4 ≤ k) _ v 1 hh ml w _ HB.out HG.out E11.out).mono ?_)
 rintro e w14 ⟨rfl, hg2, hb, hk⟩
 clear hBA0 hBA1 hBR0 hBR1 hBR2 hBR3
 replace BA := Aside0.mk (blk_kept BA.out hk (fun hx => by have := HN0.out; have := HN3.out; have := HN4.out; omega))
 replace BR := Aside0.mk (blk_kept BR.out hk (fun hx => by have := HNR.out; have := HN3.out; have := HN4.out; omega))
 replace HB := Aside0.mk hb
 replace HW := Aside0.mk (Kd.R_step HW.out (fun k_ ho hlt => hk.2 k_ hlt (fun hx => by have := HN3.out; have := HN4.out; omega)))
 replace HG := Aside0.mk hg2
 clear hb hk
 clear hg2
 have hBA0 := (blk_cell BA.out 0).trans rfl
 have hBA1 := (blk_cell BA.out 1).trans rfl
 have hBR0 := (blk_cell BR.out 0).trans rfl
 have hBR1 := (blk_cell BR.out 1).trans rfl
 have hBR2 := (blk_cell BR.out 2).trans rfl
 have hBR3 := (blk_cell BR.out 3).trans rfl
 go_wp2_with fail
 (with_reducible refine (heldInts_own k 1 hh HG.out E12.out).mono ?_)
 rintro e w15 ⟨rfl, hb⟩
 clear hBA0 hBA1 hBR0 hBR1 hBR2 hBR3
 replace BA := Aside0.mk (blk_below BA.out hb)
 replace BR := Aside0.mk (blk_below BR.out hb)
 replace HB := Aside0.mk (below_step HB.out hb)
 replace HW := Aside0.mk (Kd.R_below HW.out hb)
 replace HG := Aside0.mk (Kd.R_below HG.out hb)
 clear hb
 have hBA0 := (blk_cell BA.out 0).trans rfl
 have hBA1 := (blk_cell BA.out 1).trans rfl
 have hBR0 := (blk_cell BR.out 0).trans rfl
 have hBR1 := (blk_cell BR.out 1).trans rfl
 have hBR2 := (blk_cell BR.out 2).trans rfl
 have hBR3 := (blk_cell BR.out 3).trans rfl
 go_wp2_with fail
 have HK := Aside0.mk (show ∀ w', Below w15.heap.size w15 w' → (fun w' => w'.cell? ⟨w.heap.size, 0, none⟩ = some (.slice A0_0 l0_0.length c0_0) ∧ w'.cell? ⟨w.heap.size, 1, none⟩ = some (.slice A0_1 l0_1.length c0_1) ∧ w'.cell? ⟨gr, 0, none⟩ = some (.int .i64 a1_0) ∧ w'.cell? ⟨gr, 1, none⟩ = some (.int .i64 a1_1) ∧ w'.cell? ⟨gr, 2, none⟩ = some (.int .i64 a1_2) ∧ w'.cell? ⟨gr, 3, none⟩ = some (.bool a1_3) ∧ Below w15.heap.size w15 w') w' from fun w' h => ⟨(h.cell (blk_lt BA.out)).trans hBA0, (h.cell (blk_lt BA.out)).trans hBA1, (h.cell (blk_lt BR.out)).trans hBR0, (h.cell (blk_lt BR.out)).trans hBR1, (h.cell (blk_lt BR.out)).trans hBR2, (h.cell (blk_lt BR.out)).trans hBR3, h⟩)
 go_region_held3 (fun w' => w'.cell? ⟨w.heap.size, 0, none⟩ = some (.slice A0_0 l0_0.length c0_0) ∧ w'.cell? ⟨w.heap.size, 1, none⟩ = some (.slice A0_1 l0_1.length c0_1) ∧ w'.cell? ⟨gr, 0, none⟩ = some (.int .i64 a1_0) ∧ w'.cell? ⟨gr, 1, none⟩ = some (.int .i64 a1_1) ∧ w'.cell? ⟨gr, 2, none⟩ = some (.int .i64 a1_2) ∧ w'.cell? ⟨gr, 3, none⟩ = some (.bool a1_3) ∧ Below w15.heap.size w15 w') (first | exact HK.out _ hbb | exact HK.out _ (below_drew1 (Below.refl _ _)) | exact HK.out _ (Below.refl _ _)) (first | (go_at_call 7; go_split_ands; (with_reducible refine (HT.out _ (below_step HB.out (show Below w15.heap.size w15 _ by assumption))).mono ?_); rintro e wp ⟨u0, u1, rfl, hz0, hz1, hb⟩; have hbb : Below w15.heap.size w15 _ := below_step (by assumption) hb; obtain ⟨PA, pa, PB, pb, rfl, rfl, TP⟩ := tree_reads hz0 hz1; clear hz0 hz1) | (go_at_call 8; go_split_ands; (with_reducible refine (laws_toRule.calls a1_0 a1_1 a1_2 a1_3 a1_0 a1_1 a1_2 a1_3 _ rfl).mono ?_); rintro e wr ⟨rfl, hb⟩; have hbb : Below w15.heap.size w15 _ := below_step (by assumption) hb; replace TP := TP.below hb) | (go_at_call 16; go_split_ands; (with_reducible refine (HI.out _ (below_step HB.out (show Below w15.heap.size w15 _ by assumption))).mono ?_); rintro e wi ⟨Q0, q0, rfl, TQ, hb⟩; have hbb : Below w15.heap.size w15 _ := below_step (by assumption) hb; replace TP := TP.below hb) | (go_at_call 17; go_split_ands; (with_reducible refine (impl_Place.calls k PA pa D PB pb B a1_0 a1_1 a1_2 a1_3 a2 a3 Q0 q0 o v ve _ TP.d TP.hd TP.b TP.hb TQ.r TQ.h E5.out).mono ?_); rintro e w16 ⟨vh, rfl, hh2, hb⟩; have hbb : Below w15.heap.size w15 _ := below_step (by assumption) hb))
 have hb := hbb
 clear hBA0 hBA1 hBR0 hBR1 hBR2 hBR3
 replace BA := Aside0.mk (blk_below BA.out hb)
 replace BR := Aside0.mk (blk_below BR.out hb)
 replace HB := Aside0.mk (below_step HB.out hb)
 replace HW := Aside0.mk (Kd.R_below HW.out hb)
 replace HG := Aside0.mk (Kd.R_below HG.out hb)
 clear hb HK
 clear TP TQ
 have hBA0 := (blk_cell BA.out 0).trans rfl
 have hBA1 := (blk_cell BA.out 1).trans rfl
 have hBR0 := (blk_cell BR.out 0).trans rfl
 have hBR1 := (blk_cell BR.out 1).trans rfl
 have hBR2 := (blk_cell BR.out 2).trans rfl
 have hBR3 := (blk_cell BR.out 3).trans rfl
 obtain ⟨HA, hc, rfl⟩ := Kd.R_slice hh2
 have HH := Aside0.mk hh2
 clear hh2
 go_wp2_with fail
 (with_reducible refine (eqInts_own k true HH.out HW.out E6.out).mono ?_)
 rintro e w17 ⟨rfl, hb⟩
 clear hBA0 hBA1 hBR0 hBR1 hBR2 hBR3
 replace BA := Aside0.mk (blk_below BA.out hb)
 replace BR := Aside0.mk (blk_below BR.out hb)
 replace HB := Aside0.mk (below_step HB.out hb)
 replace HW := Aside0.mk (Kd.R_below HW.out hb)
 replace HG := Aside0.mk (Kd.R_below HG.out hb)
 replace HH := Aside0.mk (Kd.R_below HH.out hb)
 clear hb
 have hBA0 := (blk_cell BA.out 0).trans rfl
 have hBA1 := (blk_cell BA.out 1).trans rfl
 have hBR0 := (blk_cell BR.out 0).trans rfl
 have hBR1 := (blk_cell BR.out 1).trans rfl
 have hBR2 := (blk_cell BR.out 2).trans rfl
 have hBR3 := (blk_cell BR.out 3).trans rfl
 go_wp2_with fail
 (with_reducible refine (heldInts_own k 1 hh HG.out E12.out).mono ?_)
 rintro e w18 ⟨rfl, hb⟩
 clear hBA0 hBA1 hBR0 hBR1 hBR2 hBR3
 replace BA := Aside0.mk (blk_below BA.out hb)
 replace BR := Aside0.mk (blk_below BR.out hb)
 replace HB := Aside0.mk (below_step HB.out hb)
 replace HW := Aside0.mk (Kd.R_below HW.out hb)
 replace HG := Aside0.mk (Kd.R_below HG.out hb)
 replace HH := Aside0.mk (Kd.R_below HH.out hb)
 clear hb
 have hBA0 := (blk_cell BA.out 0).trans rfl
 have hBA1 := (blk_cell BA.out 1).trans rfl
 have hBR0 := (blk_cell BR.out 0).trans rfl
 have hBR1 := (blk_cell BR.out 1).trans rfl
 have hBR2 := (blk_cell BR.out 2).trans rfl
 have hBR3 := (blk_cell BR.out 3).trans rfl
 go_wp2_with fail
 go_ret
 exact ⟨rfl, HB.out⟩

end Go.Proofs.YtkadeelplnkpgaaGreat.Q

namespace Go.Proofs.YtkadeelplnkpgaaGreat.Pure
open Go.RowKit Go.Proofs.YtkadeelplnkpgaaGreatW.PrintWords Go.Proofs.YtkadeelplnkpgaaGreatW.PrintLast Go.Proofs.YtkadeelplnkpgaaGreatW.PrintMore
set_option linter.unusedVariables false
set_option linter.unusedSimpArgs false
theorem up64 (i n : Nat) (h : i < n) (hn : n ≤ 9223372036854775807) : wrap64 ((i : Int) + 1) = ((i + 1 : Nat) : Int) := by unfold wrap64; omega
/-- A loop over i from 0 to n: an invariant, and what is known of the answer. -/
theorem loop_from {σ ρ : Type} (n : Nat) (L : Nat → σ → Int → Option ρ) (I : Nat → σ → Prop) (Post : ρ → Prop)
  (hs : ∀ (i : Nat) s, i < n → I i s → (∃ r, Post r ∧ Ev (fun k => L k s (i : Int)) r) ∨ ∃ s', I (i + 1) s' ∧ ∀ r, Ev (fun k => L k s' ((i + 1 : Nat) : Int)) r → Ev (fun k => L k s (i : Int)) r)
  (he : ∀ s, I n s → ∃ r, Post r ∧ Ev (fun k => L k s (n : Int)) r) : ∀ (d i : Nat) s, i + d = n → I i s → ∃ r, Post r ∧ Ev (fun k => L k s (i : Int)) r
 | 0, i, s, hd, hI => by
  obtain rfl : i = n := by omega
  exact he s hI
 | d + 1, i, s, hd, hI => by
  rcases hs i s (by omega) hI with h | ⟨s', hI', h⟩
  ·exact h
  ·obtain ⟨r, hr, hE⟩ := loop_from n L I Post hs he d (i + 1) s' (by omega) hI'
   exact ⟨r, hr, h r hE⟩
theorem loop_up {σ ρ : Type} (n : Nat) (L : Nat → σ → Int → Option ρ) (I : Nat → σ → Prop) (Post : ρ → Prop)
  (hs : ∀ (i : Nat) s, i < n → I i s → (∃ r, Post r ∧ Ev (fun k => L k s (i : Int)) r) ∨ ∃ s', I (i + 1) s' ∧ ∀ r, Ev (fun k => L k s' ((i + 1 : Nat) : Int)) r → Ev (fun k => L k s (i : Int)) r)
  (he : ∀ s, I n s → ∃ r, Post r ∧ Ev (fun k => L k s (n : Int)) r) (s : σ) (h0 : I 0 s) : ∃ r, Post r ∧ Ev (fun k => L k s 0) r :=
 loop_from n L I Post hs he n 0 s (by omega) h0
/-- The same where one answer is told. -/
theorem loop_is {σ ρ : Type} (n : Nat) (L : Nat → σ → Int → Option ρ) (I : Nat → σ → Prop) (a : ρ)
  (hs : ∀ (i : Nat) s, i < n → I i s → Ev (fun k => L k s (i : Int)) a ∨ ∃ s', I (i + 1) s' ∧ ∀ r, Ev (fun k => L k s' ((i + 1 : Nat) : Int)) r → Ev (fun k => L k s (i : Int)) r)
  (he : ∀ s, I n s → Ev (fun k => L k s (n : Int)) a) (s : σ) (h0 : I 0 s) : Ev (fun k => L k s 0) a := by
 obtain ⟨r, hr, hE⟩ := loop_up n L I (· = a) (fun i s hi hI => (hs i s hi hI).imp (fun h => ⟨a, rfl, h⟩) id) (fun s hI => ⟨a, rfl, he s hI⟩) s h0
 exact hr ▸ hE
theorem ev_some {α : Type} {g : Nat → Option α} {r : α} (h : ∀ k, g k = some r) : Ev g r := ⟨0, fun k _ => h k⟩
theorem ev_next {α : Type} {g f : Nat → Option α} (h : ∀ k, g (k + 1) = f k) : ∀ r, Ev f r → Ev g r := fun _ k => Ev.step h k
theorem ev_end {α : Type} {g : Nat → Option α} {r : α} (h : ∀ k, g (k + 1) = some r) : Ev g r := Ev.step h (Ev.now r)
theorem ev_of {α : Type} {g : Nat → Option α} {r : α} {K : Nat} (h : ∀ k, K ≤ k → g k = some r) : Ev g r := ⟨K, h⟩
theorem ev_then1 {α : Type} {g : Nat → Option α} {r : α} (h : Ev g r) : Ev (fun k => (g k).bind fun t => some t) r := Ev.bind h (Ev.now r)
/-- what is bound comes to the same -/
theorem ev_bind_some {α β : Type} {a : α} {f : Nat → α → Option β} {r : β} (k : Ev (fun n => f n a) r) : Ev (fun n => (some a).bind (f n)) r := k

theorem take_set {α : Type} (l y : List α) (i : Nat) (v : α) (hl : y.length = l.length) (hi : i < l.length) (hv : v = l[i]) (h : y.take i = l.take i) : (y.set i v).take (i + 1) = l.take (i + 1) := by
 rw [List.take_succ_eq_append_getElem (by rw [List.length_set]; omega), List.take_succ_eq_append_getElem hi]
 congr 1
 ·rw [List.take_set_of_le (by omega)]; exact h
 ·simp [hv]
theorem take_all {α : Type} (l y : List α) (n : Nat) (hl : y.length = n) (hn : l.length = n) (h : y.take n = l.take n) : y = l := by
 rw [List.take_of_length_le (by omega), List.take_of_length_le (by omega)] at h
 exact h
theorem getD_get {α : Type} (l : List α) (i : Nat) (z : α) (h : i < l.length) : l.getD i z = l[i] := by
 rw [List.getD_eq_getElem?_getD, List.getElem?_eq_getElem h]; rfl
theorem map_loop {α β : Type} (L : Nat → List β → Int → Option (List β)) (l : List α) (c : α → β)
  (hs : ∀ (i : Nat) (h : i < l.length) y, y.length = l.length → ∀ r, Ev (fun k => L k (y.set i (c l[i])) ((i + 1 : Nat) : Int)) r → Ev (fun k => L k y (i : Int)) r)
  (he : ∀ k y, L (k + 1) y (l.length : Int) = some y) (y : List β) (hy : y.length = l.length) : Ev (fun k => L k y 0) (l.map c) := by
 refine loop_is l.length L (fun i y => y.length = l.length ∧ y.take i = (l.map c).take i) _ ?_ ?_ y ⟨hy, by simp⟩
 ·intro i s hi ⟨h1, h2⟩
  exact .inr ⟨s.set i (c l[i]), ⟨by rw [List.length_set]; exact h1, take_set (l.map c) s i _ (by simpa using h1) (by simpa using hi) (by simp) h2⟩, hs i hi s h1⟩
 ·intro s ⟨h1, h2⟩
  have e := take_all (l.map c) s l.length h1 (by simp) h2
  exact e ▸ ev_end (fun k => he k s)
theorem eq_loop (n : Nat) (L : Nat → Int → Option Bool) (hs : ∀ i : Nat, i < n → ∀ r, Ev (fun k => L k ((i + 1 : Nat) : Int)) r → Ev (fun k => L k (i : Int)) r) (he : ∀ k, L (k + 1) (n : Int) = some true) : Ev (fun k => L k 0) true :=
 loop_is n (fun k (_ : Unit) i => L k i) (fun _ _ => True) true (fun i _ hi _ => .inr ⟨(), trivial, hs i hi⟩) (fun _ _ => ev_end he) () trivial
theorem same_loop {α : Type} [DecidableEq α] (a b : List α) (hl : a.length = b.length) (L : Nat → Int → Option Bool)
  (hs : ∀ k (i : Nat) (h : i < a.length) (h' : i < b.length), L (k + 1) (i : Int) = if a[i] = b[i] then L k ((i + 1 : Nat) : Int) else some false) (he : ∀ k, L (k + 1) (a.length : Int) = some true) : Ev (fun k => L k 0) (decide (a = b)) := by
 refine loop_is a.length (fun k (_ : Unit) i => L k i) (fun i _ => a.take i = b.take i) _ ?_ ?_ () (by simp)
 ·intro i _ hi hI
  have hi' : i < b.length := by omega
  by_cases c : a[i] = b[i]
  ·refine .inr ⟨(), ?_, ev_next (fun k => ?_)⟩
   ·rw [List.take_succ_eq_append_getElem hi, List.take_succ_eq_append_getElem hi', hI, c]
   ·rw [hs k i hi hi', if_pos c]
  ·left
   rw [decide_eq_false (fun e => c (by subst e; rfl))]
   exact ev_end (fun k => by rw [hs k i hi hi', if_neg c])
 ·intro _ hI
  rw [List.take_length, hl, List.take_length] at hI
  rw [decide_eq_true hI]
  exact ev_end he
/-- numbers from c on -/
def cnt (c n : Nat) : List Int := (List.range n).map fun j => ((c + j : Nat) : Int)
theorem cnt_length (c n : Nat) : (cnt c n).length = n := by simp [cnt]
theorem cnt_get (c n i : Nat) (h : i < (cnt c n).length) : (cnt c n)[i] = ((c + i : Nat) : Int) := by simp [cnt]
theorem mark_loop (n c : Nat) (hc : c + n ≤ 4611686018427387904) (L : Nat → List Int × Int → Int → Option (Int × List Int))
  (hs : ∀ k (i : Nat) x (m : Nat), i < n → x.length = n → m ≤ 4611686018427387904 → L (k + 1) (x, (m : Int)) (i : Int) = L k (x.set i (m : Int), ((m + 1 : Nat) : Int)) ((i + 1 : Nat) : Int))
  (he : ∀ k x m, x.length = n → L (k + 1) (x, m) (n : Int) = some (m, x)) (x : List Int) (hx : x.length = n) : Ev (fun k => L k (x, (c : Int)) 0) (((c + n : Nat) : Int), cnt c n) := by
 refine loop_is n L (fun i s => s.1.length = n ∧ s.2 = ((c + i : Nat) : Int) ∧ s.1.take i = (cnt c n).take i) _ ?_ ?_ (x, (c : Int)) ⟨hx, by simp, by simp⟩
 ·rintro i ⟨x, m⟩ hi ⟨h1, h2, h3⟩
  simp only at h1 h2 h3
  subst h2
  exact .inr ⟨(x.set i ((c + i : Nat) : Int), ((c + i + 1 : Nat) : Int)), ⟨by simpa using h1, rfl, take_set (cnt c n) x i _ (by rw [cnt_length]; exact h1) (by rw [cnt_length]; exact hi) (by rw [cnt_get]) h3⟩, ev_next (fun k => hs k i x (c + i) hi h1 (by omega))⟩
 ·rintro ⟨x, m⟩ ⟨h1, h2, h3⟩
  simp only at h1 h2 h3
  have e := take_all (cnt c n) x n h1 (cnt_length c n) h3
  subst h2 e
  exact ev_end (fun k => he k _ _ h1)
theorem held_loop (n c : Nat) (hc : c + n ≤ 4611686018427387904) (L : Nat → Int → Int → Option Int)
  (hs : ∀ k (i : Nat), i < n → L (k + 1) ((c + i : Nat) : Int) (i : Int) = L k ((c + i + 1 : Nat) : Int) ((i + 1 : Nat) : Int))
  (he : ∀ k m, L (k + 1) m (n : Int) = some m) : Ev (fun k => L k (c : Int) 0) ((c + n : Nat) : Int) := by
 refine loop_is n L (fun i s => s = ((c + i : Nat) : Int)) _ ?_ ?_ (c : Int) (by simp)
 ·rintro i _ hi rfl
  exact .inr ⟨((c + i + 1 : Nat) : Int), rfl, ev_next (fun k => hs k i hi)⟩
 ·rintro _ rfl
  exact ev_end (fun k => he k _)
/-- marking rows of several numbers: how far it counts -/
theorem count_loop {α : Type} (n c w : Nat) (L : Nat → List α × Int → Int → Option (Int × List α))
  (hs : ∀ (i : Nat) x (m : Nat), i < n → x.length = n → m ≤ c + w * n → ∃ x' : List α, x'.length = n ∧ ∀ k, L (k + 1) (x, (m : Int)) (i : Int) = L k (x', ((m + w : Nat) : Int)) ((i + 1 : Nat) : Int))
  (he : ∀ k x m, x.length = n → L (k + 1) (x, m) (n : Int) = some (m, x)) (x : List α) (hx : x.length = n) : ∃ x', Ev (fun k => L k (x, (c : Int)) 0) (((c + w * n : Nat) : Int), x') := by
 obtain ⟨r, hr, hE⟩ := loop_up n L (fun i s => s.1.length = n ∧ s.2 = ((c + w * i : Nat) : Int)) (fun r : Int × List α => r.1 = ((c + w * n : Nat) : Int)) (by
  rintro i ⟨x, m⟩ hi ⟨h1, h2⟩
  simp only at h1 h2
  subst h2
  have hle : w * i ≤ w * n := Nat.mul_le_mul_left _ (by omega)
  obtain ⟨x', g1, g2⟩ := hs i x (c + w * i) hi h1 (by omega)
  exact .inr ⟨(x', ((c + w * i + w : Nat) : Int)), ⟨g1, by simp only [Nat.mul_add, Nat.mul_one, Nat.add_assoc]⟩, ev_next g2⟩) (by
  rintro ⟨x, m⟩ ⟨h1, h2⟩
  simp only at h1 h2
  subst h2
  exact ⟨_, rfl, ev_end (fun k => he k _ _ h1)⟩) (x, (c : Int)) ⟨hx, by simp⟩
 obtain ⟨a, b⟩ := r
 simp only at hr
 subst hr
 exact ⟨b, hE⟩

end Go.Proofs.YtkadeelplnkpgaaGreat.Pure

namespace Go.Proofs.YtkadeelplnkpgaaGreat.Pure
open Go.RowKit Go.Proofs.YtkadeelplnkpgaaGreat.Q Go.Proofs.YtkadeelplnkpgaaGreatW.PrintWords Go.Proofs.YtkadeelplnkpgaaGreatW.PrintLast Go.Proofs.YtkadeelplnkpgaaGreatW.PrintMore
set_option linter.unusedVariables false
set_option linter.unusedSimpArgs false
theorem rd_get (l : List Int) (i : Nat) (h : i < l.length) : rd l (i : Int) = l[i] := by
 unfold rd
 rw [Int.toNat_natCast, getD_get l i 0 h]
theorem toInt64S_ev (l : List Int) (hl : l.length ≤ 1048576) : Ev (fun k => laws_toInt64S.f k l) l := by
 have h := map_loop (fun k y i => laws_toInt64S.l0 k l y i) l id (fun i hi y hy => ev_next (fun k => by
  simp only [laws_toInt64S.l0]
  rw [if_pos (by omega), if_pos (by omega), if_pos (by omega), up64 i l.length hi (by omega), Int.toNat_natCast, rd_get l i hi]
  rfl)) (fun k y => by simp only [laws_toInt64S.l0]; rw [if_neg (by omega)]) (List.replicate ((l.length : Int) : Int).toNat 0) (by simp)
 rw [List.map_id] at h
 refine Ev.congr (fun k => ?_) h
 unfold laws_toInt64S.f
 rw [if_pos (by omega), if_pos (by omega)]
theorem eqInt64S_ev (l : List Int) (hl : l.length ≤ 9223372036854775807) : Ev (fun k => laws_eqInt64S.f k l l) true := by
 refine Ev.congr (fun k => ?_) (eq_loop l.length (fun k i => laws_eqInt64S.l0 k l l i) (fun i hi => ev_next (fun k => by
  simp only [laws_eqInt64S.l0]
  rw [if_pos (by omega), if_pos (by omega), if_pos (by omega), if_pos trivial, up64 i l.length hi hl])) (fun k => by simp only [laws_eqInt64S.l0]; rw [if_neg (by omega)]))
 unfold laws_eqInt64S.f
 rw [if_pos rfl]

end Go.Proofs.YtkadeelplnkpgaaGreat.Pure

namespace Go.Proofs.YtkadeelplnkpgaaGreat.Pure
open Go.RowKit Go.Proofs.YtkadeelplnkpgaaGreat.Q Go.Proofs.YtkadeelplnkpgaaGreat.Opens Go.Proofs.YtkadeelplnkpgaaGreatW.PrintWords Go.Proofs.YtkadeelplnkpgaaGreatW.PrintLast Go.Proofs.YtkadeelplnkpgaaGreatW.PrintMore
set_option linter.unusedVariables false
set_option linter.unusedSimpArgs false
def devOf (x : S74) : S72 := ⟨x.f0, x.f1⟩
def bktOf (x : S66) : S68 := ⟨x.f0, x.f1, x.f2⟩
theorem rd_devL (l : List S74) (i : Nat) (h : i < l.length) : rd_T74 l (i : Int) = l[i] := by
 unfold rd_T74
 rw [Int.toNat_natCast, getD_get l i _ h]
theorem rd_dev (l : List S72) (i : Nat) (h : i < l.length) : rd_T72 l (i : Int) = l[i] := by
 unfold rd_T72
 rw [Int.toNat_natCast, getD_get l i _ h]
theorem rd_bktL (l : List S66) (i : Nat) (h : i < l.length) : rd_T66 l (i : Int) = l[i] := by
 unfold rd_T66
 rw [Int.toNat_natCast, getD_get l i _ h]
theorem rd_bkt (l : List S68) (i : Nat) (h : i < l.length) : rd_T68 l (i : Int) = l[i] := by
 unfold rd_T68
 rw [Int.toNat_natCast, getD_get l i _ h]
theorem toDeviceS_ev (l : List S74) (hl : l.length ≤ 1048576) : Ev (fun k => laws_toDeviceS.f k l) (l.map devOf) := by
 have h := map_loop (fun k y i => laws_toDeviceS.l0 k l y i) l devOf (fun i hi y hy => ev_next (fun k => by
  simp only [laws_toDeviceS.l0, laws_toDevice.f, Option.bind_some]
  rw [if_pos (by omega), if_pos (by omega), if_pos (by omega), up64 i l.length hi (by omega), Int.toNat_natCast, rd_devL l i hi]
  all_goals exact rfl)) (fun k y => by simp only [laws_toDeviceS.l0]; rw [if_neg (by omega)]) (List.replicate ((l.length : Int) : Int).toNat z72) (by simp)
 refine Ev.congr (fun k => ?_) h
 unfold laws_toDeviceS.f
 rw [if_pos (by omega), if_pos (by omega)]
theorem toBucketS_ev (l : List S66) (hl : l.length ≤ 1048576) (hb : ∀ x ∈ l, x.f2.length ≤ 1048576) : Ev (fun k => laws_toBucketS.f k l) (l.map bktOf) := by
 have h := map_loop (fun k y i => laws_toBucketS.l0 k l y i) l bktOf (fun i hi y hy => fun r hr => by
  refine Ev.step (f := ?f) (fun k => ?_) ?_
  rotate_left
  ·simp only [laws_toBucketS.l0]
   rw [if_pos (by omega), if_pos (by omega), rd_bktL l i hi, up64 i l.length hi (by omega), Int.toNat_natCast]
   all_goals exact rfl
  ·refine Ev.bind (a := (l[i].f0, l[i].f1, l[i].f2)) ?_ ?_
   ·unfold laws_toBucket.f
    exact Ev.bind (toInt64S_ev _ (hb _ (List.getElem_mem hi))) (Ev.now _)
   ·refine Ev.congr (fun k => ?_) hr
    rw [if_pos (by omega)]
    rfl) (fun k y => by simp only [laws_toBucketS.l0]; rw [if_neg (by omega)]) (List.replicate ((l.length : Int) : Int).toNat z68) (by simp)
 refine Ev.congr (fun k => ?_) h
 unfold laws_toBucketS.f
 rw [if_pos (by omega), if_pos (by omega)]
theorem eqDeviceS_ev (l : List S72) (hl : l.length ≤ 9223372036854775807) : Ev (fun k => laws_eqDeviceS.f k l l) true := by
 refine Ev.congr (fun k => ?_) (eq_loop l.length (fun k i => laws_eqDeviceS.l0 k l l i) (fun i hi => ev_next (fun k => by
  simp only [laws_eqDeviceS.l0, laws_eqDevice.f, Option.bind_some, if_true]
  rw [if_pos (by omega), if_pos (by omega), if_pos (by omega), up64 i l.length hi hl])) (fun k => by simp only [laws_eqDeviceS.l0]; rw [if_neg (by omega)]))
 unfold laws_eqDeviceS.f
 rw [if_pos rfl]
theorem eqBucketS_ev (l : List S68) (hl : l.length ≤ 9223372036854775807) (hb : ∀ x ∈ l, x.f2.length ≤ 9223372036854775807) : Ev (fun k => laws_eqBucketS.f k l l) true := by
 refine Ev.congr (fun k => ?_) (eq_loop l.length (fun k i => laws_eqBucketS.l0 k l l i) (fun i hi => fun r hr => by
  refine Ev.step (f := ?f) (fun k => ?_) ?_
  rotate_left
  ·simp only [laws_eqBucketS.l0]
   rw [if_pos (by omega), if_pos (by omega), if_pos (by omega), up64 i l.length hi hl, rd_bkt l i hi]
   all_goals exact rfl
  ·refine Ev.bind (a := true) ?_ (Ev.congr (fun k => if_pos rfl) hr)
   unfold laws_eqBucket.f
   simp only [if_true]
   exact Ev.bind (eqInt64S_ev _ (hb _ (List.getElem_mem hi))) (ev_some fun k => if_pos rfl)) (fun k => by simp only [laws_eqBucketS.l0]; rw [if_neg (by omega)]))
 unfold laws_eqBucketS.f
 rw [if_pos rfl]
theorem szInt64S_left (l : List Int) (left : Int) (hl : l.length ≤ 9223372036854775807) (h0 : 0 ≤ left) (h1 : left ≤ 1048576) : laws_szInt64S.f l left = some (if (l.length : Int) ≤ left then left - (l.length : Int) else -1) := by
 have e : wrap64 (left - (l.length : Int)) = left - (l.length : Int) := by unfold wrap64; omega
 unfold laws_szInt64S.f
 rw [e]
 by_cases h : (l.length : Int) ≤ left
 ·rw [if_neg (by omega), if_pos h]
 ·rw [if_pos (by omega), if_neg h]
theorem szDeviceS_left (l : List S74) (left : Int) (hl : l.length ≤ 9223372036854775807) (h0 : 0 ≤ left) (h1 : left ≤ 1048576) : laws_szDeviceS.f l left = some (if (l.length : Int) ≤ left then left - (l.length : Int) else -1) := by
 have e : wrap64 (left - (l.length : Int)) = left - (l.length : Int) := by unfold wrap64; omega
 unfold laws_szDeviceS.f
 rw [e]
 by_cases h : (l.length : Int) ≤ left
 ·rw [if_neg (by omega), if_pos h]
 ·rw [if_pos (by omega), if_neg h]
/-- the sizes are small -/
def Small (d : List S74) (b : List S66) : Prop := d.length ≤ 1048576 ∧ b.length ≤ 1048576 ∧ ∀ x ∈ b, x.f2.length ≤ 1048576
theorem szBucketS_ev (l : List S66) (left : Int) (hl : l.length ≤ 9223372036854775807) (hb : ∀ x ∈ l, x.f2.length ≤ 9223372036854775807) (h0 : 0 ≤ left) (h1 : left ≤ 1048576) :
  ∃ t, (0 ≤ t → t ≤ 1048576 ∧ l.length ≤ 1048576 ∧ ∀ x ∈ l, x.f2.length ≤ 1048576) ∧ Ev (fun k => laws_szBucketS.f k l left) t := by
 have e : wrap64 (left - (l.length : Int)) = left - (l.length : Int) := by unfold wrap64; omega
 unfold laws_szBucketS.f
 simp only [e]
 by_cases h : (left - (l.length : Int)) < 0
 ·simp only [if_pos h]
  exact ⟨-1, by omega, Ev.now _⟩
 ·simp only [if_neg h]
  refine loop_up l.length (fun k s i => laws_szBucketS.l0 k l s i) (fun i s => 0 ≤ s ∧ s ≤ 1048576 ∧ ∀ x ∈ l.take i, x.f2.length ≤ 1048576) _ ?_ ?_ _ ⟨by omega, by omega, by simp⟩
  ·intro i s hi ⟨g0, g1, g2⟩
   have hsz := hb l[i] (List.getElem_mem hi)
   have hz := szInt64S_left l[i].f2 s hsz g0 g1
   have hu : ∀ k, laws_szBucketS.l0 (k + 1) l s i = (laws_szBucket.f l[i].f0 l[i].f1 l[i].f2 s).bind fun t => if t < 0 then some (-1) else laws_szBucketS.l0 k l t ((i + 1 : Nat) : Int) := fun k => by
    simp only [laws_szBucketS.l0]
    rw [if_pos (by omega), if_pos (by omega), rd_bktL l i hi, up64 i l.length hi hl]
   unfold laws_szBucket.f at hu
   by_cases c : (l[i].f2.length : Int) ≤ s
   ·refine .inr ⟨s - (l[i].f2.length : Int), ⟨by omega, by omega, fun x hx => ?_⟩, ev_next (fun k => ?_)⟩
    ·rw [List.take_succ_eq_append_getElem hi] at hx
     rcases List.mem_append.1 hx with hx | hx
     ·exact g2 x hx
     ·simp only [List.mem_singleton] at hx
      subst hx
      omega
    ·rw [hu k, hz, if_pos c]
     simp only [Option.bind_some]
     rw [if_neg (by omega), Option.bind_some, if_neg (by omega)]
   ·refine .inl ⟨-1, by omega, ev_end (fun k => ?_)⟩
    rw [hu k, hz, if_neg c]
    simp
  ·intro s ⟨g0, g1, g2⟩
   rw [List.take_length] at g2
   refine ⟨s, fun _ => ⟨by omega, by omega, g2⟩, ev_end (fun k => ?_)⟩
   simp only [laws_szBucketS.l0]
   rw [if_neg (by omega)]
theorem szTree_ev (d : List S74) (b : List S66) (left : Int) (hd : d.length ≤ 9223372036854775807) (hl : b.length ≤ 9223372036854775807) (hb : ∀ x ∈ b, x.f2.length ≤ 9223372036854775807) (h0 : 0 ≤ left) (h1 : left ≤ 1048576) :
  ∃ t, (0 ≤ t → t ≤ 1048576 ∧ Small d b) ∧ Ev (fun k => laws_szTree.f k d b left) t := by
 unfold laws_szTree.f
 simp only [szDeviceS_left d left hd h0 h1, Option.bind_some]
 by_cases c : (d.length : Int) ≤ left
 ·simp only [if_pos c, show ¬ (left - (d.length : Int) < 0) by omega, if_false]
  obtain ⟨t, ht, hE⟩ := szBucketS_ev b (left - (d.length : Int)) hl hb (by omega) (by omega)
  by_cases c2 : t < 0
  ·exact ⟨-1, by omega, Ev.bind hE (ev_some fun k => if_pos c2)⟩
  ·have := ht (by omega)
   exact ⟨t, fun _ => ⟨this.1, by omega, this.2.1, this.2.2⟩, Ev.bind hE (ev_some fun k => if_neg c2)⟩
 ·simp only [if_neg c]
  exact ⟨-1, by omega, ev_some fun k => by simp⟩
theorem toTree_ev (d : List S74) (b : List S66) (h : Small d b) : Ev (fun k => laws_toTree.f k d b) (d.map devOf, b.map bktOf) := by
 unfold laws_toTree.f
 exact Ev.bind (toDeviceS_ev d h.1) (Ev.bind (toBucketS_ev b h.2.1 h.2.2) (Ev.now _))
theorem eqTree_ev (d : List S74) (b : List S66) (h : Small d b) : Ev (fun k => laws_eqTree.f k (d.map devOf) (b.map bktOf) (d.map devOf) (b.map bktOf)) true := by
 obtain ⟨h1, h2, h3⟩ := h
 unfold laws_eqTree.f
 refine Ev.bind (eqDeviceS_ev _ (by rw [List.length_map]; omega)) ?_
 simp only [if_true]
 refine Ev.bind (eqBucketS_ev _ (by rw [List.length_map]; omega) (fun x hx => ?_)) (ev_some fun k => if_pos rfl)
 obtain ⟨y, hy, rfl⟩ := List.mem_map.1 hx
 have := h3 y hy
 show y.f2.length ≤ _
 omega
/-- the numbers of a law's topology are of their kind -/
theorem wf_of_good (d : List S74) (b : List S66) (hd : good_t22 d) (hb : good_t23 b) : wfTree (d.map devOf) (b.map bktOf) = true := by
 unfold wfTree
 rw [Bool.and_eq_true, List.all_eq_true, List.all_eq_true]
 constructor
 ·intro x hx
  obtain ⟨y, hy, rfl⟩ := List.mem_map.1 hx
  have := hd.2 y hy
  rw [Bool.and_eq_true]
  exact ⟨wf_wfI this.1, wf_wfI this.2⟩
 ·intro x hx
  obtain ⟨y, hy, rfl⟩ := List.mem_map.1 hx
  have := hb.2 y hy
  rw [Bool.and_eq_true, Bool.and_eq_true]
  refine ⟨⟨wf_wfI this.1, wf_wfI this.2.1⟩, ?_⟩
  rw [List.all_eq_true]
  intro z hz
  exact wf_wfI (this.2.2.2 z hz)
theorem small_of_good (d : List S74) (b : List S66) (hd : good_t22 d) (hb : good_t23 b) : d.length ≤ 9223372036854775807 ∧ b.length ≤ 9223372036854775807 ∧ ∀ x ∈ b, x.f2.length ≤ 9223372036854775807 :=
 ⟨hd.1, hb.1, fun x hx => (hb.2 x hx).2.2.1⟩

end Go.Proofs.YtkadeelplnkpgaaGreat.Pure

namespace Go.Proofs.YtkadeelplnkpgaaGreat.Pure
open Go.RowKit Go.Proofs.YtkadeelplnkpgaaGreat.Q Go.Proofs.YtkadeelplnkpgaaGreatW.PrintWords Go.Proofs.YtkadeelplnkpgaaGreatW.PrintLast Go.Proofs.YtkadeelplnkpgaaGreatW.PrintMore
set_option linter.unusedVariables false
set_option linter.unusedSimpArgs false
theorem in_inB (a b c : Int) : spec_l00In.f a b c = some (inB a b c) := between_inB a b c
/-- a loop that asks each place in turn -/
theorem all_loop (n : Nat) (L : Nat → Int → Option Bool) (c : Nat → Bool) (ht : ∀ i : Nat, i < n → c i = true → ∀ r, Ev (fun k => L k ((i + 1 : Nat) : Int)) r → Ev (fun k => L k (i : Int)) r)
  (hf : ∀ i : Nat, i < n → c i = false → Ev (fun k => L k (i : Int)) false) (he : ∀ k, L (k + 1) (n : Int) = some true) : Ev (fun k => L k 0) ((List.range n).all c) := by
 refine loop_is n (fun k (_ : Unit) i => L k i) (fun i _ => ∀ j, j < i → c j = true) _ ?_ ?_ () (fun j hj => absurd hj (Nat.not_lt_zero j))
 ·intro i _ hi hI
  cases hc : c i with
  | true =>
   refine .inr ⟨(), fun j hj => ?_, ht i hi hc⟩
   rcases Nat.lt_succ_iff_lt_or_eq.1 hj with h | h
   ·exact hI j h
   ·rw [h]; exact hc
  | false =>
   left
   have e : (List.range n).all c = false := by
    rw [List.all_eq_false]
    exact ⟨i, by simpa using hi, by simp [hc]⟩
   rw [e]
   exact hf i hi hc
 ·intro _ hI
  have e : (List.range n).all c = true := by
   rw [List.all_eq_true]
   intro j hj
   exact hI j (by simpa using hj)
  rw [e]
  exact ev_end he
theorem has_ev (l : List Int) (x : Int) (hl : l.length ≤ 9223372036854775807) : Ev (fun k => spec_l00Has.f k l x) (l.any fun y => y == x) := by
 refine loop_is l.length (fun k (_ : Unit) i => spec_l00Has.l0 k l x i) (fun i _ => (l.take i).any (fun y => y == x) = false) _ ?_ ?_ () (by simp)
 ·intro i _ hi hI
  have hu : ∀ k, spec_l00Has.l0 (k + 1) l x i = if l[i] = x then some true else spec_l00Has.l0 k l x ((i + 1 : Nat) : Int) := fun k => by
   simp only [spec_l00Has.l0]
   rw [if_pos (by omega), if_pos (by omega), rd_get l i hi, up64 i l.length hi hl]
  by_cases c : l[i] = x
  ·left
   have e : l.any (fun y => y == x) = true := by
    rw [List.any_eq_true]
    exact ⟨l[i], List.getElem_mem hi, by simpa using c⟩
   rw [e]
   exact ev_end (fun k => by rw [hu k, if_pos c])
  ·refine .inr ⟨(), ?_, ev_next (fun k => by rw [hu k, if_neg c])⟩
   rw [List.take_succ_eq_append_getElem hi, List.any_append, hI]
   simpa using c
 ·intro _ hI
  rw [List.take_length] at hI
  rw [hI]
  exact ev_end (fun k => by simp only [spec_l00Has.l0]; rw [if_neg (by omega)])
/-- the index of a device -/
def devAt (D : List S72) (id : Int) : Int := idxFrom (fun x : S72 => x.f0 == id) D 0
theorem idx_step {α : Type} (p : α → Bool) (l : List α) (i : Nat) (hi : i < l.length) : idxFrom p (l.drop i) i = if p l[i] = true then (i : Int) else idxFrom p (l.drop (i + 1)) ((i + 1 : Nat) : Int) := by
 rw [List.drop_eq_getElem_cons hi]
 rfl
theorem specDevice_ev (D : List S72) (B : List S68) (id : Int) (hD : D.length ≤ 9223372036854775807) : Ev (fun k => spec_l06Device.f k D B id) (devAt D id) := by
 refine loop_is D.length (fun k (_ : Unit) i => spec_l06Device.l0 k id i D B) (fun i _ => devAt D id = idxFrom (fun x : S72 => x.f0 == id) (D.drop i) i) _ ?_ ?_ () rfl
 ·intro i _ hi hI
  have hu : ∀ k, spec_l06Device.l0 (k + 1) id i D B = if D[i].f0 = id then some (i : Int) else spec_l06Device.l0 k id ((i + 1 : Nat) : Int) D B := fun k => by
   simp only [spec_l06Device.l0]
   rw [if_pos (by omega), if_pos (by omega), rd_dev D i hi, up64 i D.length hi hD]
  rw [idx_step _ D i hi] at hI
  by_cases c : D[i].f0 = id
  ·left
   rw [if_pos (by simpa using c)] at hI
   rw [hI]
   exact ev_end (fun k => by rw [hu k, if_pos c])
  ·rw [if_neg (by simpa using c)] at hI
   exact .inr ⟨(), hI, ev_next (fun k => by rw [hu k, if_neg c])⟩
 ·intro _ hI
  rw [List.drop_length] at hI
  rw [hI]
  exact ev_end (fun k => by simp only [spec_l06Device.l0]; rw [if_neg (by omega)]; rfl)
theorem specBucket_ev (D : List S72) (B : List S68) (id : Int) (hB : B.length ≤ 9223372036854775807) : Ev (fun k => spec_l06Bucket.f k D B id) (bucketAt B id) := by
 refine loop_is B.length (fun k (_ : Unit) i => spec_l06Bucket.l0 k id i D B) (fun i _ => bucketAt B id = idxFrom (fun x : S68 => x.f0 == id) (B.drop i) i) _ ?_ ?_ () rfl
 ·intro i _ hi hI
  have hu : ∀ k, spec_l06Bucket.l0 (k + 1) id i D B = if B[i].f0 = id then some (i : Int) else spec_l06Bucket.l0 k id ((i + 1 : Nat) : Int) D B := fun k => by
   simp only [spec_l06Bucket.l0]
   rw [if_pos (by omega), if_pos (by omega), rd_bkt B i hi, up64 i B.length hi hB]
  rw [idx_step _ B i hi] at hI
  by_cases c : B[i].f0 = id
  ·left
   rw [if_pos (by simpa using c)] at hI
   rw [hI]
   exact ev_end (fun k => by rw [hu k, if_pos c])
  ·rw [if_neg (by simpa using c)] at hI
   exact .inr ⟨(), hI, ev_next (fun k => by rw [hu k, if_neg c])⟩
 ·intro _ hI
  rw [List.drop_length] at hI
  rw [hI]
  exact ev_end (fun k => by simp only [spec_l06Bucket.l0]; rw [if_neg (by omega)]; rfl)
theorem specKind_ev (D : List S72) (B : List S68) (id : Int) (hD : D.length ≤ 9223372036854775807) (hB : B.length ≤ 9223372036854775807) : Ev (fun k => spec_l06Kind.f k D B id) (kindAt D B id) := by
 unfold spec_l06Kind.f
 have hk : kindAt D B id = if 0 ≤ devAt D id then 0 else if bucketAt B id < 0 then -1 else (rd_T68 B (bucketAt B id)).f1 := rfl
 refine Ev.bind (specDevice_ev D B id hD) ?_
 by_cases c : 0 ≤ devAt D id
 ·rw [hk, if_pos c]
  simp only [show devAt D id ≥ 0 from c, if_true]
  exact Ev.now _
 ·rw [hk, if_neg c]
  simp only [show ¬ (devAt D id ≥ 0) from c, if_false]
  refine Ev.bind (specBucket_ev D B id hB) ?_
  by_cases c2 : bucketAt B id < 0
  ·rw [if_pos c2]
   simp only [show ¬ (bucketAt B id ≥ 0) by omega, if_false]
   exact Ev.now _
  ·rw [if_neg c2]
   have := bucketAt_lt B id (by omega)
   simp only [show bucketAt B id ≥ 0 by omega, show 0 ≤ bucketAt B id by omega, this, if_true]
   exact Ev.now _
/-! numbers, each once -/
theorem mem_addOnce (acc : List Int) (x y : Int) : y ∈ addOnce acc x ↔ y ∈ acc ∨ y = x := by
 unfold addOnce
 split
 ·rename_i h
  rw [List.any_eq_true] at h
  obtain ⟨z, hz, he⟩ := h
  have : z = x := by simpa using he
  subst this
  constructor
  ·exact .inl
  ·rintro (h | rfl)
   ·exact h
   ·exact hz
 ·simp
theorem mem_fold_once : ∀ (S acc : List Int) (y : Int), y ∈ S.foldl addOnce acc ↔ y ∈ acc ∨ y ∈ S
 | [], acc, y => by simp
 | x :: S, acc, y => by
  rw [List.foldl_cons, mem_fold_once S, mem_addOnce]
  simp only [List.mem_cons]
  constructor
  ·rintro ((h | h) | h)
   ·exact .inl h
   ·exact .inr (.inl h)
   ·exact .inr (.inr h)
  ·rintro (h | h | h)
   ·exact .inl (.inl h)
   ·exact .inl (.inr h)
   ·exact .inr h
theorem nodup_addOnce (acc : List Int) (x : Int) (h : acc.Nodup) : (addOnce acc x).Nodup := by
 unfold addOnce
 split
 ·exact h
 ·rename_i hn
  rw [List.nodup_append]
  refine ⟨h, by simp, fun a ha b hb => ?_⟩
  simp only [List.mem_singleton] at hb
  subst hb
  intro e
  subst e
  exact hn (by rw [List.any_eq_true]; exact ⟨a, ha, by simp⟩)
theorem nodup_fold_once : ∀ (S acc : List Int), acc.Nodup → (S.foldl addOnce acc).Nodup
 | [], _, h => h
 | x :: S, acc, h => nodup_fold_once S _ (nodup_addOnce acc x h)
theorem mem_once (S : List Int) (y : Int) : y ∈ onceOf S ↔ y ∈ S := by
 unfold onceOf
 rw [mem_fold_once]
 simp
theorem nodup_once (S : List Int) : (onceOf S).Nodup := nodup_fold_once S [] List.nodup_nil
theorem once_one (S : List Int) : (onceOf S).length ≤ 1 ↔ ∀ x ∈ S, ∀ y ∈ S, x = y := by
 have hm := mem_once S
 have hn := nodup_once S
 generalize onceOf S = T at hm hn
 constructor
 ·intro h x hx y hy
  match T, h with
  | [], _ => have := (hm x).2 hx; simp at this
  | [z], _ =>
   have h1 := (hm x).2 hx
   have h2 := (hm y).2 hy
   simp only [List.mem_singleton] at h1 h2
   rw [h1, h2]
 ·intro h
  match T, hn with
  | [], _ => simp
  | [z], _ => simp
  | z :: z' :: T', hn =>
   have h1 := (hm z).1 (by simp)
   have h2 := (hm z').1 (by simp)
   have e := h z h1 z' h2
   subst e
   simp at hn

/-! devices -/
def devStep (D : List S72) (i : Nat) : Bool := inB (rd_T72 D i).f0 0 15 && inB (rd_T72 D i).f1 0 8 && !(decide (0 < i) && decide ((rd_T72 D i).f0 ≤ (rd_T72 D ((i : Int) - 1)).f0))
def devsB (D : List S72) : Bool := (List.range D.length).all (devStep D) && decide (D.length ≤ 16)
theorem wrap_down (i : Nat) (h : 0 < i) (hn : i ≤ 9223372036854775807) : wrap64 ((i : Int) - 1) = (i : Int) - 1 := by unfold wrap64; omega
theorem spec_devs_ev (D : List S72) (B : List S68) : Ev (fun k => spec_l06Devices.f k D B) (devsB D) := by
 unfold spec_l06Devices.f devsB
 by_cases h : (D.length : Int) > 16
 ·simp only [if_pos h, decide_eq_false (show ¬ (D.length ≤ 16) by omega), Bool.and_false]
  exact Ev.now _
 ·simp only [if_neg h, decide_eq_true (show D.length ≤ 16 by omega), Bool.and_true]
  have hu : ∀ (i : Nat), i < D.length → ∀ k, spec_l06Devices.l0 (k + 1) i D B = if devStep D i = true then spec_l06Devices.l0 k ((i + 1 : Nat) : Int) D B else some false := fun i hi k => by
   simp only [spec_l06Devices.l0]
   rw [if_pos (by omega), if_pos (by omega), in_inB, in_inB, up64 i D.length hi (by omega)]
   simp only [Option.bind_some]
   unfold devStep
   cases inB (rd_T72 D i).f0 0 15 with
   | false => simp
   | true =>
    cases inB (rd_T72 D i).f1 0 8 with
    | false => simp
    | true =>
     by_cases c : 0 < i
     ·rw [if_pos rfl, if_pos rfl, if_pos (by omega), wrap_down i c (by omega), if_pos (by omega), if_pos (by omega)]
      by_cases c2 : (rd_T72 D i).f0 ≤ (rd_T72 D ((i : Int) - 1)).f0 <;> simp [c, c2]
     ·rw [if_pos rfl, if_pos rfl, if_neg (by omega)]
      simp [c]
  exact all_loop D.length (fun k i => spec_l06Devices.l0 k i D B) (devStep D) (fun i hi hc => ev_next (fun k => by rw [hu i hi k, if_pos hc])) (fun i hi hc => ev_end (fun k => by rw [hu i hi k, if_neg (by rw [hc]; decide)])) (fun k => by simp only [spec_l06Devices.l0]; rw [if_neg (by omega)])
theorem isNode_inB (a : Int) : impl_isNode.f a = some (inB a 0 15) := by
 unfold impl_isNode.f
 rw [between_inB]; rfl
theorem impl_devs_ev (D : List S72) (B : List S68) (hD : D.length ≤ 9223372036854775807) : Ev (fun k => impl_Tree_devicesOk.f k D B) (devsB D) := by
 have hu : ∀ (i : Nat), i < D.length → ∀ k, impl_Tree_devicesOk.l0 (k + 1) D D.length i D B = if devStep D i = true then impl_Tree_devicesOk.l0 k D D.length ((i + 1 : Nat) : Int) D B else some false := fun i hi k => by
  simp only [impl_Tree_devicesOk.l0]
  rw [if_pos (by omega), if_pos (by omega), if_pos (by omega), isNode_inB, up64 i D.length hi hD]
  simp only [Option.bind_some, between_inB]
  unfold devStep
  cases inB (rd_T72 D i).f0 0 15 with
  | false => simp
  | true =>
   by_cases c : 0 < i
   ·rw [if_pos rfl, if_pos (by omega), wrap_down i c (by omega), if_pos (by omega), if_pos (by omega)]
    by_cases c2 : (rd_T72 D i).f0 ≤ (rd_T72 D ((i : Int) - 1)).f0
    ·simp [c, c2]
    ·cases inB (rd_T72 D i).f1 0 8 <;> simp [c, c2]
   ·rw [if_pos rfl, if_neg (by omega)]
    cases inB (rd_T72 D i).f1 0 8 <;> simp [c]
 refine loop_is D.length (fun k (_ : Unit) i => impl_Tree_devicesOk.l0 k D D.length i D B) (fun i _ => ∀ j, j < i → devStep D j = true) _ ?_ ?_ () (fun j hj => absurd hj (Nat.not_lt_zero j))
 ·intro i _ hi hI
  cases hc : devStep D i with
  | true =>
   refine .inr ⟨(), fun j hj => ?_, ev_next (fun k => by rw [hu i hi k, if_pos hc])⟩
   rcases Nat.lt_succ_iff_lt_or_eq.1 hj with h | h
   ·exact hI j h
   ·rw [h]; exact hc
  | false =>
   left
   have e : devsB D = false := by
    unfold devsB
    have : (List.range D.length).all (devStep D) = false := by
     rw [List.all_eq_false]
     exact ⟨i, by simpa using hi, by simp [hc]⟩
    rw [this, Bool.false_and]
   rw [e]
   exact ev_end (fun k => by rw [hu i hi k, if_neg (by rw [hc]; decide)])
 ·intro _ hI
  have e : devsB D = decide ((D.length : Int) ≤ 16) := by
   unfold devsB
   have : (List.range D.length).all (devStep D) = true := by
    rw [List.all_eq_true]
    intro j hj
    exact hI j (by simpa using hj)
   rw [this, Bool.true_and]
   exact decide_eq_decide.2 (by omega)
  rw [e]
  exact ev_end (fun k => by simp only [impl_Tree_devicesOk.l0]; rw [if_neg (by omega)])
/-! buckets -/
def bktStep (B : List S68) (i : Nat) : Bool := inB (rd_T68 B i).f0 (-12) (-1) && inB (rd_T68 B i).f1 1 3 && decide ((rd_T68 B i).f2.length ≤ 8) && !(decide (0 < i) && decide ((rd_T68 B ((i : Int) - 1)).f0 ≤ (rd_T68 B i).f0))
def bktsB (B : List S68) : Bool := (List.range B.length).all (bktStep B) && decide (B.length ≤ 12)
theorem spec_bkts_ev (D : List S72) (B : List S68) : Ev (fun k => spec_l06Buckets.f k D B) (bktsB B) := by
 unfold spec_l06Buckets.f bktsB
 by_cases h : (B.length : Int) > 12
 ·simp only [if_pos h, decide_eq_false (show ¬ (B.length ≤ 12) by omega), Bool.and_false]
  exact Ev.now _
 ·simp only [if_neg h, decide_eq_true (show B.length ≤ 12 by omega), Bool.and_true]
  have hu : ∀ (i : Nat), i < B.length → ∀ k, spec_l06Buckets.l0 (k + 1) i D B = if bktStep B i = true then spec_l06Buckets.l0 k ((i + 1 : Nat) : Int) D B else some false := fun i hi k => by
   simp only [spec_l06Buckets.l0]
   rw [if_pos (by omega), if_pos (by omega), in_inB, in_inB, up64 i B.length hi (by omega)]
   simp only [Option.bind_some]
   unfold bktStep
   cases inB (rd_T68 B i).f0 (-12) (-1) with
   | false => simp
   | true =>
    cases inB (rd_T68 B i).f1 1 3 with
    | false => simp
    | true =>
     rw [if_pos rfl, if_pos rfl]
     by_cases c8 : (rd_T68 B i).f2.length ≤ 8
     ·rw [if_neg (by omega)]
      by_cases c : 0 < i
      ·rw [if_pos (by omega), wrap_down i c (by omega), if_pos (by omega), if_pos (by omega)]
       by_cases c2 : (rd_T68 B ((i : Int) - 1)).f0 ≤ (rd_T68 B i).f0 <;> simp [c, c2, c8]
      ·rw [if_neg (by omega)]
       simp [c, c8]
     ·rw [if_pos (by omega)]
      simp [c8]
  exact all_loop B.length (fun k i => spec_l06Buckets.l0 k i D B) (bktStep B) (fun i hi hc => ev_next (fun k => by rw [hu i hi k, if_pos hc])) (fun i hi hc => ev_end (fun k => by rw [hu i hi k, if_neg (by rw [hc]; decide)])) (fun k => by simp only [spec_l06Buckets.l0]; rw [if_neg (by omega)])
/-! nothing twice -/
def onceGo (B : List S68) : Nat → Int → List Int → Bool
 | 0, _, _ => true
 | d + 1, i, u => match useGo u (rd_T68 B i).f2 with | some u' => onceGo B d (i + 1) u' | none => false
def onceTail (B : List S68) (d : Nat) (i : Int) (u items : List Int) : Bool := match useGo u items with | some u' => onceGo B d (i + 1) u' | none => false
def onceB (B : List S68) : Bool := onceGo B B.length 0 []
theorem useGo_cons (u : List Int) (x : Int) (xs : List Int) : useGo u (x :: xs) = if (u.any fun y => y == x) = true then none else useGo (u ++ [x]) xs := rfl
theorem useGo_length : ∀ (items u u' : List Int), useGo u items = some u' → u' = u ++ items
 | [], u, u', h => by simp only [useGo, Option.some.injEq] at h; simp [h]
 | x :: xs, u, u', h => by
  unfold useGo at h
  split at h
  ·cases h
  ·rw [useGo_length xs _ _ h]; simp
theorem spec_once_ev (D : List S72) (B : List S68) (hB : B.length ≤ 12) (hI : ∀ x ∈ B, x.f2.length ≤ 8) : Ev (fun k => spec_l06Once.f k D B) (onceB B) := by
 refine loop_is B.length (fun k (u : List Int) i => spec_l06Once.l0 k u i D B) (fun i u => u.length ≤ 8 * i ∧ onceB B = onceGo B (B.length - i) i u) _ ?_ ?_ [] ⟨by simp, rfl⟩
 ·rintro i u hi ⟨hu, hT⟩
  have hx := hI B[i] (List.getElem_mem hi)
  have hT1 : onceB B = onceTail B (B.length - (i + 1)) i u B[i].f2 := by
   rw [hT, show B.length - i = (B.length - (i + 1)) + 1 from by omega]
   unfold onceTail
   rw [← rd_bkt B i hi]
   rfl
  -- the inner loop
  have hinner : ∀ (r : Bool), (∀ u', useGo u B[i].f2 = some u' → Ev (fun k => spec_l06Once.l0 k u' ((i + 1 : Nat) : Int) D B) r) → (useGo u B[i].f2 = none → r = false) → Ev (fun k => spec_l06Once.l1 k u i 0 D B) r := by
   intro r hgood hbad
   refine loop_is B[i].f2.length (fun k (v : List Int) j => spec_l06Once.l1 k v i j D B) (fun j v => v.length = u.length + j ∧ useGo u B[i].f2 = useGo v (B[i].f2.drop j)) _ ?_ ?_ u ⟨by simp, by simp⟩
   ·rintro j v hj ⟨hv, hG⟩
    have hd : B[i].f2.drop j = B[i].f2[j] :: B[i].f2.drop (j + 1) := List.drop_eq_getElem_cons hj
    have hstep : ∀ q, Ev (fun k => if (v.any fun y => y == B[i].f2[j]) = true then some false else (if v.length < 17592186044416 then spec_l06Once.l1 k (v ++ [B[i].f2[j]]) i ((j + 1 : Nat) : Int) D B else none)) q → Ev (fun k => spec_l06Once.l1 k v i j D B) q := fun q hq => by
     refine Ev.step (f := ?f) (fun k => ?_) ?_
     rotate_left
     ·simp only [spec_l06Once.l1]
      rw [if_pos (by omega), if_pos (by omega), rd_bkt B i hi, if_pos (by omega), if_pos (by omega), rd_get _ j hj, up64 j B[i].f2.length hj (by omega)]
      all_goals exact rfl
     ·exact Ev.bind (has_ev v _ (by omega)) hq
    rw [hd] at hG
    rw [useGo_cons] at hG
    by_cases c : (v.any fun y => y == B[i].f2[j]) = true
    ·left
     rw [if_pos c] at hG
     rw [hbad hG]
     exact hstep _ (ev_some fun k => if_pos c)
    ·rw [if_neg c] at hG
     exact .inr ⟨v ++ [B[i].f2[j]], ⟨by simp; omega, hG⟩, fun q hq => hstep q (Ev.congr (fun k => by rw [if_neg c, if_pos (by omega)]) hq)⟩
   ·rintro v ⟨hv, hG⟩
    rw [List.drop_length] at hG
    refine Ev.step (fun k => ?_) (hgood v hG)
    simp only [spec_l06Once.l1]
    rw [if_pos (by omega), if_pos (by omega), rd_bkt B i hi, if_neg (by omega), up64 i B.length hi (by omega)]
  have hout : ∀ q, Ev (fun k => spec_l06Once.l1 k u i 0 D B) q → Ev (fun k => spec_l06Once.l0 k u i D B) q := fun q hq => Ev.step (fun k => by
   simp only [spec_l06Once.l0]
   rw [if_pos (by omega)]) hq
  cases hc : useGo u B[i].f2 with
  | none =>
   left
   have e : onceB B = false := by rw [hT1]; unfold onceTail; rw [hc]
   rw [e]
   refine hout _ (hinner false (fun u' h => ?_) (fun _ => rfl))
   rw [hc] at h; cases h
  | some u' =>
   have hl := useGo_length _ _ _ hc
   refine .inr ⟨u', ⟨by rw [hl, List.length_append]; omega, ?_⟩, fun q hq => hout q (hinner q (fun v h => ?_) (fun h => ?_))⟩
   ·rw [hT1]; unfold onceTail; rw [hc]; rfl
   ·rw [hc] at h
    obtain rfl := Option.some.inj h
    exact hq
   ·rw [hc] at h; cases h
 ·rintro u ⟨hu, hT⟩
  rw [hT, Nat.sub_self]
  exact ev_end (fun k => by simp only [spec_l06Once.l0]; rw [if_neg (by omega)]; rfl)

/-! what lies in a bucket -/
def fitOne (D : List S72) (B : List S68) (kd : Int) (items : List Int) (x : Int) : Bool := if kd < 3 then kindAt D B x == kd - 1 else kindAt D B x == kindAt D B (rd items 0) && (kindAt D B x == 1 || kindAt D B x == 2)
def fitsB (D : List S72) (B : List S68) (kd : Int) (items : List Int) : Bool := (List.range items.length).all fun j => fitOne D B kd items (rd items j)
theorem spec_fits_ev (D : List S72) (B : List S68) (hD : D.length ≤ 9223372036854775807) (hB : B.length ≤ 9223372036854775807) (id kd : Int) (items : List Int) (h1 : 1 ≤ kd) (h3 : kd ≤ 3) (hl : items.length ≤ 9223372036854775807) : Ev (fun k => spec_l06Fits.f k D B id kd items) (fitsB D B kd items) := by
 have hmain : ∀ (j : Nat), j < items.length → ∀ r, (fitOne D B kd items (rd items j) = true → Ev (fun k => spec_l06Fits.l0 k ((j + 1 : Nat) : Int) D B id kd items) r) → (fitOne D B kd items (rd items j) = false → r = false) → Ev (fun k => spec_l06Fits.l0 k j D B id kd items) r := by
  intro j hj r hgood hbad
  have hw : wrap64 (kd - 1) = kd - 1 := by unfold wrap64; omega
  refine Ev.step (f := ?f) (fun k => ?_) ?_
  rotate_left
  ·simp only [spec_l06Fits.l0]
   rw [if_pos (by omega), if_pos (by omega)]
   all_goals exact rfl
  ·refine Ev.bind (specKind_ev D B _ hD hB) ?_
   by_cases ck : kd < 3
   ·simp only [if_pos ck, hw]
    refine Ev.step (f := ?g) (fun k => ?_) ?_
    rotate_left
    ·simp only [spec_l06Fits.j1]
     exact rfl
    ·unfold fitOne at hgood hbad
     rw [if_pos ck] at hgood hbad
     by_cases c : kindAt D B (rd items j) = kd - 1
     ·refine Ev.congr (fun k => ?_) (hgood (by simpa using c))
      rw [if_neg (by simp [c]), if_neg (by omega), up64 j items.length hj hl]
     ·have e := hbad (by simpa using c)
      subst e
      refine ev_some (fun k => ?_)
      rw [if_pos (by simpa using c)]
   ·simp only [if_neg ck]
    refine Ev.step (f := ?g2) (fun k => ?_) ?_
    rotate_left
    ·simp only [spec_l06Fits.j1]
     exact rfl
    ·simp only [Bool.false_eq_true, if_false, show kd = 3 by omega, if_true, show (0 : Int) < (items.length : Int) by omega]
     unfold fitOne at hgood hbad
     rw [if_neg ck] at hgood hbad
     refine Ev.bind (specKind_ev D B _ hD hB) ?_
     by_cases c0 : kindAt D B (rd items j) = kindAt D B (rd items 0)
     ·by_cases c1 : kindAt D B (rd items j) = 1
      ·refine Ev.congr (fun k => ?_) (hgood (by simp [← c0, c1]))
       rw [if_pos c0, if_pos c1, up64 j items.length hj hl, show kd = 3 by omega]
      ·by_cases c2 : kindAt D B (rd items j) = 2
       ·refine Ev.congr (fun k => ?_) (hgood (by simp [← c0, c2]))
        rw [if_pos c0, if_neg c1, if_pos c2, up64 j items.length hj hl, show kd = 3 by omega]
       ·have e := hbad (by simp [c1, c2])
        subst e
        exact ev_some fun k => by rw [if_pos c0, if_neg c1, if_neg c2]
     ·have e := hbad (by simp [c0])
      subst e
      exact ev_some fun k => by rw [if_neg c0]
 exact all_loop items.length (fun k j => spec_l06Fits.l0 k j D B id kd items) (fun j => fitOne D B kd items (rd items j)) (fun j hj hc r hr => hmain j hj r (fun _ => hr) (fun h => by rw [hc] at h; cases h)) (fun j hj hc => hmain j hj false (fun h => by rw [hc] at h; cases h) (fun _ => rfl)) (fun k => by simp only [spec_l06Fits.l0]; rw [if_neg (by omega)])
theorem range_all (items : List Int) (p : Int → Bool) : ((List.range items.length).all fun j => p (rd items j)) = items.all p := by
 rw [Bool.eq_iff_iff, List.all_eq_true, List.all_eq_true]
 constructor
 ·intro h x hx
  obtain ⟨j, hj, rfl⟩ := List.mem_iff_getElem.1 hx
  have := h j (by simpa using hj)
  rwa [rd_get items j hj] at this
 ·intro h j hj
  have hj' : j < items.length := by simpa using hj
  rw [rd_get items j hj']
  exact h _ (List.getElem_mem hj')
theorem fits_items (D : List S72) (B : List S68) (kd : Int) (items : List Int) (h1 : 1 ≤ kd) (h3 : kd ≤ 3) : fitsB D B kd items = itemsOkB D B kd items := by
 unfold fitsB itemsOkB
 rw [range_all items (fitOne D B kd items)]
 have hw : wrap64 (kd - 1) = kd - 1 := by unfold wrap64; omega
 rw [hw]
 match items with
 | [] => simp
 | x :: xs =>
  rw [if_neg (by simp)]
  have ho := once_one ((x :: xs).map (kindAt D B))
  have hhead : rd (x :: xs) 0 = x := rfl
  unfold fitOne
  rw [hhead]
  have hm : ∀ y, y ∈ (x :: xs).map (kindAt D B) ↔ ∃ z ∈ x :: xs, kindAt D B z = y := fun y => List.mem_map
  generalize hS : (x :: xs).map (kindAt D B) = S at ho hm
  by_cases c1 : 1 < (onceOf S).length
  ·rw [if_pos c1]
   rw [Bool.eq_false_iff]
   intro hall
   rw [List.all_eq_true] at hall
   refine absurd (ho.2 ?_) (by omega)
   intro a ha b hb
   obtain ⟨p, hp, rfl⟩ := (hm a).1 ha
   obtain ⟨q, hq, rfl⟩ := (hm b).1 hb
   have h1 := hall p hp
   have h2 := hall q hq
   by_cases ck : kd < 3
   ·rw [if_pos ck] at h1 h2
    rw [eq_of_beq h1, eq_of_beq h2]
   ·rw [if_neg ck, Bool.and_eq_true] at h1 h2
    rw [eq_of_beq h1.1, eq_of_beq h2.1]
  ·rw [if_neg c1]
   have hsame := ho.1 (by omega)
   have hx : kindAt D B x ∈ S := (hm _).2 ⟨x, by simp, rfl⟩
   have hall : ∀ z ∈ x :: xs, kindAt D B z = kindAt D B x := fun z hz => hsame _ ((hm _).2 ⟨z, hz, rfl⟩) _ hx
   have hany : ∀ v : Int, (S.any fun y => y == v) = (kindAt D B x == v) := fun v => by
    rw [Bool.eq_iff_iff, List.any_eq_true]
    constructor
    ·rintro ⟨y, hy, e⟩
     rw [hsame _ hx y hy]; exact e
    ·intro e
     exact ⟨_, hx, e⟩
   rw [hany, hany, hany]
   by_cases ck : kd < 3
   ·rw [if_neg (show ¬ kd = 3 by omega), Bool.eq_iff_iff, List.all_eq_true]
    constructor
    ·intro h
     have := h x (by simp)
     rwa [if_pos ck] at this
    ·intro h z hz
     rw [if_pos ck, hall z hz]; exact h
   ·rw [if_pos (show kd = 3 by omega), Bool.eq_iff_iff, List.all_eq_true]
    constructor
    ·intro h
     have := h x (by simp)
     rw [if_neg ck, Bool.and_eq_true] at this
     exact this.2
    ·intro h z hz
     rw [if_neg ck, hall z hz, Bool.and_eq_true]
     exact ⟨by simp, h⟩
/-! the whole -/
def allB (D : List S72) (B : List S68) : Nat → Int → Bool
 | 0, _ => true
 | d + 1, i => bktB D B i && allB D B d (i + 1)
theorem treeGo_parts (D : List S72) (B : List S68) : ∀ (d : Nat) (i : Int) (u : List Int), treeGo D B d i u = (allB D B d i && onceGo B d i u)
 | 0, _, _ => rfl
 | d + 1, i, u => by
  have ht : treeGo D B (d + 1) i u = if bktB D B i = true then (match useGo u (rd_T68 B i).f2 with | some u' => treeGo D B d (i + 1) u' | none => false) else false := rfl
  have ho : onceGo B (d + 1) i u = match useGo u (rd_T68 B i).f2 with | some u' => onceGo B d (i + 1) u' | none => false := rfl
  have ha : allB D B (d + 1) i = (bktB D B i && allB D B d (i + 1)) := rfl
  rw [ht, ho, ha]
  cases bktB D B i with
  | false => rfl
  | true =>
   cases useGo u (rd_T68 B i).f2 with
   | none => simp
   | some u' => simp [treeGo_parts D B d (i + 1) u']
theorem allB_all (D : List S72) (B : List S68) : ∀ (d i : Nat), allB D B d i = true ↔ ∀ j, i ≤ j → j < i + d → bktB D B j = true
 | 0, i => by simp [allB]; intro j h1 h2; omega
 | d + 1, i => by
  have ha : allB D B (d + 1) i = (bktB D B i && allB D B d ((i + 1 : Nat) : Int)) := rfl
  rw [ha, Bool.and_eq_true, allB_all D B d (i + 1)]
  constructor
  ·rintro ⟨h1, h2⟩ j hj1 hj2
   by_cases e : j = i
   ·subst e; exact h1
   ·exact h2 j (by omega) (by omega)
  ·intro h
   exact ⟨h i (by omega) (by omega), fun j h1 h2 => h j (by omega) (by omega)⟩
theorem bktB_parts (D : List S72) (B : List S68) (i : Nat) : bktB D B i = (bktStep B i && itemsOkB D B (rd_T68 B i).f1 (rd_T68 B i).f2) := by
 unfold bktB bktStep
 have e : decide ((0 : Int) < (i : Int)) = decide (0 < i) := decide_eq_decide.2 (by omega)
 rw [e]
 cases inB (rd_T68 B i).f0 (-12) (-1) <;> cases inB (rd_T68 B i).f1 1 3 <;> cases decide (0 < i) <;> cases decide ((rd_T68 B ((i : Int) - 1)).f0 ≤ (rd_T68 B i).f0) <;> cases decide ((rd_T68 B i).f2.length ≤ 8) <;> rfl
/-- is a topology valid? -/
def treeOkB (D : List S72) (B : List S68) : Bool := devsB D && (decide (B.length ≤ 12) && treeB D B)
theorem fits_all_ev (D : List S72) (B : List S68) (hD : D.length ≤ 16) (hB : B.length ≤ 12) (hS : ∀ j, j < B.length → bktStep B j = true) : Ev (fun k => spec_l06OK.l0 k 0 D B) ((List.range B.length).all fun i => fitsB D B (rd_T68 B i).f1 (rd_T68 B i).f2) := by
 have hst : ∀ (i : Nat), i < B.length → (1 ≤ (rd_T68 B i).f1 ∧ (rd_T68 B i).f1 ≤ 3) ∧ (rd_T68 B i).f2.length ≤ 8 := fun i hi => by
  have := hS i hi
  unfold bktStep inB at this
  simp only [Bool.and_eq_true, decide_eq_true_eq] at this
  exact ⟨this.1.1.2, this.1.2⟩
 have hu : ∀ (i : Nat), i < B.length → ∀ r, Ev (fun k => if fitsB D B (rd_T68 B i).f1 (rd_T68 B i).f2 = true then spec_l06OK.l0 k ((i + 1 : Nat) : Int) D B else some false) r → Ev (fun k => spec_l06OK.l0 k i D B) r := fun i hi r hr => by
  obtain ⟨⟨h1, h3⟩, h8⟩ := hst i hi
  refine Ev.step (f := ?f) (fun k => ?_) ?_
  rotate_left
  ·simp only [spec_l06OK.l0]
   rw [if_pos (by omega), if_pos (by omega), up64 i B.length hi (by omega)]
   all_goals exact rfl
  ·exact Ev.bind (spec_fits_ev D B (by omega) (by omega) _ _ _ h1 h3 (by omega)) hr
 exact all_loop B.length (fun k i => spec_l06OK.l0 k i D B) _ (fun i hi hc r hr => hu i hi r (Ev.congr (fun k => by rw [if_pos hc]) hr)) (fun i hi hc => hu i hi false (ev_some fun k => by rw [if_neg (by rw [hc]; decide)])) (fun k => by simp only [spec_l06OK.l0]; rw [if_neg (by omega)])
theorem spec_ok_ev (D : List S72) (B : List S68) : Ev (fun k => spec_l06OK.f k D B) (treeOkB D B) := by
 unfold spec_l06OK.f
 refine Ev.bind (spec_devs_ev D B) ?_
 have hj : ∀ r, r = false → Ev (fun k => spec_l06OK.j0 k true D B) r := fun r hr => by
  subst hr
  exact ev_end fun k => by simp only [spec_l06OK.j0]; rw [if_pos trivial]
 unfold treeOkB
 cases hd : devsB D with
 | false =>
  simp only [Bool.false_eq_true, if_false, Bool.false_and]
  exact hj _ rfl
 | true =>
  simp only [if_true, Bool.true_and]
  refine Ev.bind (spec_bkts_ev D B) ?_
  have hparts : treeB D B = (allB D B B.length 0 && onceB B) := treeGo_parts D B B.length 0 []
  have hall := allB_all D B B.length 0
  rw [show ((0 : Nat) : Int) = 0 from rfl] at hall
  have hD : D.length ≤ 16 := by
   unfold devsB at hd
   rw [Bool.and_eq_true] at hd
   exact of_decide_eq_true hd.2
  cases hb : bktsB B with
  | false =>
   simp only [Bool.false_eq_true, if_false]
   refine hj _ ?_
   by_cases c : B.length ≤ 12
   ·have : allB D B B.length 0 = false := by
     rw [Bool.eq_false_iff]
     intro h
     have h2 := hall.1 h
     have : bktsB B = true := by
      unfold bktsB
      rw [decide_eq_true c, Bool.and_true, List.all_eq_true]
      intro j hj
      have := h2 j (by omega) (by simpa using hj)
      rw [bktB_parts, Bool.and_eq_true] at this
      exact this.1
     rw [this] at hb; cases hb
    rw [hparts, this]; simp
   ·rw [decide_eq_false c, Bool.false_and]
  | true =>
   unfold bktsB at hb
   rw [Bool.and_eq_true, List.all_eq_true] at hb
   have h12 := of_decide_eq_true hb.2
   have hS : ∀ j, j < B.length → bktStep B j = true := fun j hj => hb.1 j (by simpa using hj)
   have h8 : ∀ x ∈ B, x.f2.length ≤ 8 := fun x hx => by
    obtain ⟨j, hj, rfl⟩ := List.mem_iff_getElem.1 hx
    have := hS j hj
    unfold bktStep at this
    simp only [Bool.and_eq_true, decide_eq_true_eq] at this
    rw [rd_bkt B j hj] at this
    exact this.1.2
   simp only [if_true]
   refine Ev.bind (spec_once_ev D B h12 h8) ?_
   rw [decide_eq_true h12, Bool.true_and, hparts]
   cases onceB B with
   | false =>
    rw [Bool.and_false]
    exact hj _ rfl
   | true =>
    rw [Bool.and_true]
    refine Ev.step (f := ?f) (fun k => ?_) ?_
    rotate_left
    ·simp only [spec_l06OK.j0]
     exact rfl
    ·simp only [Bool.not_true, Bool.false_eq_true, if_false]
     have hf := fits_all_ev D B hD h12 hS
     have e : ((List.range B.length).all fun i => fitsB D B (rd_T68 B i).f1 (rd_T68 B i).f2) = allB D B B.length 0 := by
      rw [Bool.eq_iff_iff, hall, List.all_eq_true]
      have hk : ∀ j, j < B.length → (fitsB D B (rd_T68 B j).f1 (rd_T68 B j).f2 = true ↔ bktB D B j = true) := fun j hj => by
       have hs := hS j hj
       rw [bktB_parts, hs, Bool.true_and]
       unfold bktStep inB at hs
       simp only [Bool.and_eq_true, decide_eq_true_eq] at hs
       rw [fits_items D B _ _ hs.1.1.2.1 hs.1.1.2.2]
      constructor
      ·intro h j _ hj
       exact (hk j (by omega)).1 (h j (by simp; omega))
      ·intro h j hj
       have hj' : j < B.length := by simpa using hj
       exact (hk j hj').2 (h j (by omega) (by omega))
     rw [e] at hf
     exact hf
theorem impl_ok_ev (D : List S72) (B : List S68) (hD : D.length ≤ 9223372036854775807) (hw : wfTree D B = true) : Ev (fun k => impl_TreeOk.f k D B) (treeOkB D B) := by
 unfold impl_TreeOk.f treeOkB
 simp only [if_pos hw]
 refine Ev.bind (impl_devs_ev D B hD) ?_
 cases devsB D <;> simp <;> first | exact Ev.now _ | exact ev_some fun k => rfl

/-- what a valid topology holds -/
structure Valid (D : List S72) (B : List S68) : Prop where
 dev : D.length ≤ 16
 bkt : B.length ≤ 12
 devs : ∀ i (h : i < D.length), 0 ≤ D[i].f0 ∧ D[i].f0 ≤ 15 ∧ 0 ≤ D[i].f1 ∧ D[i].f1 ≤ 8
 bkts : ∀ i (h : i < B.length), (-12 ≤ B[i].f0 ∧ B[i].f0 ≤ -1) ∧ (1 ≤ B[i].f1 ∧ B[i].f1 ≤ 3) ∧ B[i].f2.length ≤ 8
 down : ∀ i (h : i + 1 < B.length), B[i + 1].f0 < B[i].f0
 up : ∀ i (h : i + 1 < D.length), D[i].f0 < D[i + 1].f0
 fits : ∀ i (h : i < B.length), ∀ x ∈ B[i].f2, fitOne D B B[i].f1 B[i].f2 x = true
 once : onceB B = true
theorem valid_of (D : List S72) (B : List S68) (h : treeOkB D B = true) : Valid D B := by
 unfold treeOkB at h
 rw [Bool.and_eq_true, Bool.and_eq_true] at h
 obtain ⟨hd, h12, ht⟩ := h
 have h12 := of_decide_eq_true h12
 unfold devsB at hd
 rw [Bool.and_eq_true, List.all_eq_true] at hd
 have h16 := of_decide_eq_true hd.2
 have hparts : treeB D B = (allB D B B.length 0 && onceB B) := treeGo_parts D B B.length 0 []
 rw [hparts, Bool.and_eq_true] at ht
 have hall := (allB_all D B B.length 0).1 ht.1
 have hS : ∀ j, j < B.length → bktStep B j = true ∧ itemsOkB D B (rd_T68 B j).f1 (rd_T68 B j).f2 = true := fun j hj => by
  have := hall j (by omega) (by omega)
  rw [bktB_parts, Bool.and_eq_true] at this
  exact this
 have hdv : ∀ j, j < D.length → devStep D j = true := fun j hj => hd.1 j (by simpa using hj)
 have hk : ∀ i (h : i < B.length), (-12 ≤ B[i].f0 ∧ B[i].f0 ≤ -1) ∧ (1 ≤ B[i].f1 ∧ B[i].f1 ≤ 3) ∧ B[i].f2.length ≤ 8 := fun i h => by
  have := (hS i h).1
  unfold bktStep inB at this
  simp only [Bool.and_eq_true, decide_eq_true_eq] at this
  rw [rd_bkt B i h] at this
  exact ⟨this.1.1.1, this.1.1.2, this.1.2⟩
 refine ⟨h16, h12, ?_, hk, ?_, ?_, ?_, ht.2⟩
 ·intro i h
  have := hdv i h
  unfold devStep inB at this
  simp only [Bool.and_eq_true, decide_eq_true_eq] at this
  rw [rd_dev D i h] at this
  exact ⟨this.1.1.1, this.1.1.2, this.1.2.1, this.1.2.2⟩
 ·intro i h
  have := (hS (i + 1) h).1
  unfold bktStep at this
  rw [show (((i + 1 : Nat) : Int) - 1) = (i : Int) from by omega, rd_bkt B i (by omega), rd_bkt B (i + 1) h] at this
  simp at this
  omega
 ·intro i h
  have := hdv (i + 1) h
  unfold devStep at this
  rw [show (((i + 1 : Nat) : Int) - 1) = (i : Int) from by omega, rd_dev D i (by omega), rd_dev D (i + 1) h] at this
  simp at this
  omega
 ·intro i h x hx
  have h2 := (hS i h).2
  rw [rd_bkt B i h] at h2
  have hb := (hk i h).2.1
  rw [← fits_items D B _ _ hb.1 hb.2] at h2
  unfold fitsB at h2
  rw [range_all B[i].f2 (fitOne D B B[i].f1 B[i].f2), List.all_eq_true] at h2
  exact h2 x hx
theorem idx_none {α : Type} (p : α → Bool) (l : List α) (h : ∀ x ∈ l, p x = false) : ∀ (d i : Nat), i + d = l.length → idxFrom p (l.drop i) i = -1
 | 0, i, hd => by
  rw [List.drop_of_length_le (by omega)]; rfl
 | d + 1, i, hd => by
  rw [idx_step p l i (by omega), if_neg (by rw [h _ (List.getElem_mem (by omega))]; decide)]
  exact idx_none p l h d (i + 1) (by omega)
theorem idx_first {α : Type} (p : α → Bool) (l : List α) (n : Nat) (hn : n < l.length) (hp : p l[n] = true) (hb : ∀ j (h : j < n), p l[j] = false) : ∀ (d i : Nat), i + d = n → idxFrom p (l.drop i) i = (n : Int)
 | 0, i, hd => by
  obtain rfl : i = n := by omega
  rw [idx_step p l i hn, if_pos hp]
 | d + 1, i, hd => by
  rw [idx_step p l i (by omega), if_neg (by rw [hb i (by omega)]; decide)]
  exact idx_first p l n hn hp hb d (i + 1) (by omega)
/-- the index found is one that answers -/
theorem idx_hit {α : Type} (p : α → Bool) (l : List α) : ∀ (d i : Nat), i + d = l.length → idxFrom p (l.drop i) i = -1 ∨ ∃ n, ∃ (h : n < l.length), idxFrom p (l.drop i) i = (n : Int) ∧ p l[n] = true
 | 0, i, hd => by
  left
  rw [List.drop_of_length_le (by omega)]; rfl
 | d + 1, i, hd => by
  rw [idx_step p l i (by omega)]
  by_cases c : p (l[i]'(by omega)) = true
  ·rw [if_pos c]
   exact .inr ⟨i, by omega, rfl, c⟩
  ·rw [if_neg c]
   exact idx_hit p l d (i + 1) (by omega)
theorem bucketAt_hit (B : List S68) (id : Int) : bucketAt B id = -1 ∨ ∃ n, ∃ (h : n < B.length), bucketAt B id = (n : Int) ∧ B[n].f0 = id := by
 rcases idx_hit (fun x : S68 => x.f0 == id) B B.length 0 (by omega) with h | ⟨n, hn, h1, h2⟩
 ·exact .inl h
 ·exact .inr ⟨n, hn, h1, by simpa using h2⟩
theorem devAt_hit (D : List S72) (id : Int) : devAt D id = -1 ∨ ∃ n, ∃ (h : n < D.length), devAt D id = (n : Int) ∧ D[n].f0 = id := by
 rcases idx_hit (fun x : S72 => x.f0 == id) D D.length 0 (by omega) with h | ⟨n, hn, h1, h2⟩
 ·exact .inl h
 ·exact .inr ⟨n, hn, h1, by simpa using h2⟩
theorem down_lt {D : List S72} {B : List S68} (V : Valid D B) : ∀ (d i : Nat) (h : i + d + 1 < B.length), B[i + d + 1].f0 < B[i].f0
 | 0, i, h => V.down i h
 | d + 1, i, h => by
  have h1 := down_lt V d i (by omega)
  have h2 := V.down (i + d + 1) h
  exact Int.lt_trans h2 h1
theorem down_of {D : List S72} {B : List S68} (V : Valid D B) (i j : Nat) (hij : i < j) (h : j < B.length) : B[j].f0 < B[i].f0 := by
 obtain ⟨d, rfl⟩ : ∃ d, j = i + d + 1 := ⟨j - i - 1, by omega⟩
 exact down_lt V d i h
theorem bucketAt_own {D : List S72} {B : List S68} (V : Valid D B) (n : Nat) (hn : n < B.length) : bucketAt B B[n].f0 = (n : Int) :=
 idx_first (fun x : S68 => x.f0 == B[n].f0) B n hn (by simp) (fun j hj => by
  have := down_of V j n hj hn
  have : ¬ B[j].f0 = B[n].f0 := by omega
  simpa using this) n 0 (by omega)
theorem devAt_none {D : List S72} {B : List S68} (V : Valid D B) (id : Int) (h : id < 0) : devAt D id = -1 := by
 rcases devAt_hit D id with e | ⟨n, hn, _, e⟩
 ·exact e
 ·have := V.devs n hn
  omega
theorem kindAt_own {D : List S72} {B : List S68} (V : Valid D B) (n : Nat) (hn : n < B.length) : kindAt D B B[n].f0 = B[n].f1 := by
 have hk : kindAt D B B[n].f0 = if 0 ≤ devAt D B[n].f0 then 0 else if bucketAt B B[n].f0 < 0 then -1 else (rd_T68 B (bucketAt B B[n].f0)).f1 := rfl
 rw [hk, devAt_none V _ (by have := V.bkts n hn; omega), bucketAt_own V n hn, if_neg (by omega), if_neg (by omega), rd_bkt B n hn]
theorem kindAt_le {D : List S72} {B : List S68} (V : Valid D B) (id : Int) : -1 ≤ kindAt D B id ∧ kindAt D B id ≤ 3 := by
 have hk : kindAt D B id = if 0 ≤ devAt D id then 0 else if bucketAt B id < 0 then -1 else (rd_T68 B (bucketAt B id)).f1 := rfl
 rw [hk]
 split
 ·omega
 ·split
  ·omega
  ·rcases bucketAt_hit B id with e | ⟨n, hn, e, _⟩
   ·omega
   ·rw [e, rd_bkt B n hn]
    have := V.bkts n hn
    omega
/-- a kind of a bucket is a bucket's -/
theorem kindAt_bucket {D : List S72} {B : List S68} (V : Valid D B) (id : Int) (h : 1 ≤ kindAt D B id) : ∃ n, ∃ (h : n < B.length), bucketAt B id = (n : Int) ∧ B[n].f0 = id ∧ id < 0 ∧ kindAt D B id = B[n].f1 := by
 have hk : kindAt D B id = if 0 ≤ devAt D id then 0 else if bucketAt B id < 0 then -1 else (rd_T68 B (bucketAt B id)).f1 := rfl
 rw [hk] at h
 split at h
 ·omega
 ·split at h
  ·omega
  ·rcases bucketAt_hit B id with e | ⟨n, hn, e, e2⟩
   ·omega
   ·refine ⟨n, hn, e, e2, ?_, ?_⟩
    ·have := V.bkts n hn; omega
    ·rw [← e2]; exact kindAt_own V n hn
/-- what lies in a bucket is of a lower kind -/
theorem item_kind {D : List S72} {B : List S68} (V : Valid D B) (n : Nat) (hn : n < B.length) (x : Int) (hx : x ∈ B[n].f2) : 0 ≤ kindAt D B x ∧ kindAt D B x < B[n].f1 := by
 have h := V.fits n hn x hx
 have hb := (V.bkts n hn).2.1
 unfold fitOne at h
 by_cases c : B[n].f1 < 3
 ·rw [if_pos c] at h
  have := eq_of_beq h
  omega
 ·rw [if_neg c, Bool.and_eq_true, Bool.or_eq_true] at h
  rcases h.2 with h | h
  ·have := eq_of_beq h; omega
  ·have := eq_of_beq h; omega

/-- the first place that answers -/
def firstR {ρ : Type} (c : Nat → Bool) (g : Nat → ρ) (z : ρ) : Nat → Nat → ρ
 | 0, _ => z
 | d + 1, i => if c i = true then g i else firstR c g z d (i + 1)
theorem first_loop {ρ : Type} (n : Nat) (L : Nat → Int → Option ρ) (c : Nat → Bool) (g : Nat → ρ) (z : ρ) (ht : ∀ i : Nat, i < n → c i = true → Ev (fun k => L k (i : Int)) (g i))
  (hf : ∀ i : Nat, i < n → c i = false → ∀ r, Ev (fun k => L k ((i + 1 : Nat) : Int)) r → Ev (fun k => L k (i : Int)) r) (he : ∀ k, L (k + 1) (n : Int) = some z) : Ev (fun k => L k 0) (firstR c g z n 0) := by
 refine loop_is n (fun k (_ : Unit) i => L k i) (fun i _ => firstR c g z n 0 = firstR c g z (n - i) i) _ ?_ ?_ () rfl
 ·intro i _ hi hI
  have hs : firstR c g z (n - i) i = if c i = true then g i else firstR c g z (n - (i + 1)) (i + 1) := by
   rw [show n - i = (n - (i + 1)) + 1 from by omega]; rfl
  rw [hs] at hI
  cases hc : c i with
  | true =>
   left
   rw [hc, if_pos rfl] at hI
   rw [hI]
   exact ht i hi hc
  | false =>
   rw [hc, if_neg (by decide)] at hI
   exact .inr ⟨(), hI, hf i hi hc⟩
 ·intro _ hI
  rw [hI, Nat.sub_self]
  exact ev_end he
theorem idx64_ev (l : List Int) (x : Int) (hl : l.length ≤ 9223372036854775807) : Ev (fun k => slices_Contains_int64_int64.f k l x) (l.any fun y => y == x) := by
 have h : ∃ r, (decide (r ≥ 0) = l.any fun y => y == x) ∧ Ev (fun k => slices_Index_int64_int64.l0 k l x l.length 0) r := by
  refine loop_up l.length (fun k (_ : Unit) i => slices_Index_int64_int64.l0 k l x l.length i) (fun i _ => (l.take i).any (fun y => y == x) = false) (fun r => decide (r ≥ 0) = l.any fun y => y == x) ?_ ?_ () (by simp)
  ·intro i _ hi hI
   have hu : ∀ k, slices_Index_int64_int64.l0 (k + 1) l x l.length i = if x = l[i] then some (i : Int) else slices_Index_int64_int64.l0 k l x l.length ((i + 1 : Nat) : Int) := fun k => by
    simp only [slices_Index_int64_int64.l0]
    rw [if_pos (by omega), if_pos (by omega), if_pos (by omega), rd_get l i hi, up64 i l.length hi hl]
   by_cases c : x = l[i]
   ·refine .inl ⟨(i : Int), ?_, ev_end (fun k => by rw [hu k, if_pos c])⟩
    have e : l.any (fun y => y == x) = true := by
     rw [List.any_eq_true]
     exact ⟨l[i], List.getElem_mem hi, by simpa using c.symm⟩
    rw [e]; simp
   ·refine .inr ⟨(), ?_, ev_next (fun k => by rw [hu k, if_neg c])⟩
    rw [List.take_succ_eq_append_getElem hi, List.any_append, hI]
    simpa using fun e => c e.symm
  ·intro _ hI
   rw [List.take_length] at hI
   exact ⟨-1, by rw [hI]; rfl, ev_end (fun k => by simp only [slices_Index_int64_int64.l0]; rw [if_neg (by omega)])⟩
 obtain ⟨r, hr, hE⟩ := h
 unfold slices_Contains_int64_int64.f slices_Index_int64_int64.f
 rw [← hr]
 exact Ev.bind hE (Ev.now _)
/-- the bucket of a kind above -/
def aboveN (B : List S68) : Nat → Int → Int → Int
 | 0, _, _ => 0
 | n + 1, id, kd => firstR (fun i => (rd_T68 B i).f2.any fun y => y == id) (fun i => if (rd_T68 B i).f1 = kd then (rd_T68 B i).f0 else aboveN B n (rd_T68 B i).f0 kd) 0 B.length 0
theorem above_kind {D : List S72} {B : List S68} (V : Valid D B) (i : Nat) (hi : i < B.length) (id : Int) (hc : ((rd_T68 B i).f2.any fun y => y == id) = true) : kindAt D B id < kindAt D B B[i].f0 := by
 rw [rd_bkt B i hi, List.any_eq_true] at hc
 obtain ⟨x, hx, e⟩ := hc
 obtain rfl := eq_of_beq e
 rw [kindAt_own V i hi]
 exact (item_kind V i hi x hx).2
theorem spec_above_ev {D : List S72} {B : List S68} (V : Valid D B) (kd : Int) : ∀ (n : Nat) (id : Int), 3 < kindAt D B id + n → Ev (fun k => spec_l06Above.f k D B id kd) (aboveN B n id kd)
 | 0, id, h => by have := kindAt_le V id; omega
 | n + 1, id, h => by
  have hB := V.bkt
  refine Ev.step (f := fun k => spec_l06Above.l0 k id kd 0 D B) (fun k => rfl) ?_
  have hu : ∀ (i : Nat), i < B.length → ∀ r, Ev (fun k => if ((rd_T68 B i).f2.any fun y => y == id) = true then (if (rd_T68 B i).f1 = kd then some (rd_T68 B i).f0 else ((spec_l06Above.f k D B (rd_T68 B i).f0 kd).bind fun t => some t)) else spec_l06Above.l0 k id kd ((i + 1 : Nat) : Int) D B) r → Ev (fun k => spec_l06Above.l0 k id kd i D B) r := fun i hi r hr => by
   refine Ev.step (f := ?f) (fun k => ?_) ?_
   rotate_left
   ·simp only [spec_l06Above.l0]
    rw [if_pos (by omega), if_pos (by omega), up64 i B.length hi (by omega)]
    all_goals exact rfl
   ·refine Ev.bind (has_ev _ id ?_) hr
    rw [rd_bkt B i hi]
    have := V.bkts i hi
    omega
  refine first_loop B.length (fun k i => spec_l06Above.l0 k id kd i D B) _ _ 0 (fun i hi hc => hu i hi _ ?_) (fun i hi hc r hr => hu i hi _ (Ev.congr (fun k => by rw [if_neg (by rw [hc]; decide)]) hr)) (fun k => by simp only [spec_l06Above.l0]; rw [if_neg (by omega)])
  simp only [if_pos hc]
  by_cases c : (rd_T68 B i).f1 = kd
  ·simp only [if_pos c]
   exact Ev.now _
  ·simp only [if_neg c]
   refine ev_then1 (spec_above_ev V kd n _ ?_)
   have := above_kind V i hi id hc
   rw [rd_bkt B i hi]
   omega
theorem impl_above_ev {D : List S72} {B : List S68} (V : Valid D B) (kd : Int) : ∀ (n : Nat) (id : Int), 3 < kindAt D B id + n → Ev (fun k => impl_Tree_above.f k D B id kd) (aboveN B n id kd)
 | 0, id, h => by have := kindAt_le V id; omega
 | n + 1, id, h => by
  have hB := V.bkt
  refine Ev.step (f := fun k => impl_Tree_above.l0 k id kd B B.length 0 D B) (fun k => rfl) ?_
  have hu : ∀ (i : Nat), i < B.length → ∀ r, Ev (fun k => if ((rd_T68 B i).f2.any fun y => y == id) = true then (if (rd_T68 B i).f1 = kd then some (rd_T68 B i).f0 else ((impl_Tree_above.f k D B (rd_T68 B i).f0 kd).bind fun t => some t)) else impl_Tree_above.l0 k id kd B B.length ((i + 1 : Nat) : Int) D B) r → Ev (fun k => impl_Tree_above.l0 k id kd B B.length i D B) r := fun i hi r hr => by
   refine Ev.step (f := ?f) (fun k => ?_) ?_
   rotate_left
   ·simp only [impl_Tree_above.l0]
    rw [if_pos (by omega), if_pos (by omega), if_pos (by omega), up64 i B.length hi (by omega)]
    all_goals exact rfl
   ·refine Ev.bind (idx64_ev _ id ?_) hr
    rw [rd_bkt B i hi]
    have := V.bkts i hi
    omega
  refine first_loop B.length (fun k i => impl_Tree_above.l0 k id kd B B.length i D B) _ _ 0 (fun i hi hc => hu i hi _ ?_) (fun i hi hc r hr => hu i hi _ (Ev.congr (fun k => by rw [if_neg (by rw [hc]; decide)]) hr)) (fun k => by simp only [impl_Tree_above.l0]; rw [if_neg (by omega)])
  simp only [if_pos hc]
  by_cases c : (rd_T68 B i).f1 = kd
  ·simp only [if_pos c]
   exact Ev.now _
  ·simp only [if_neg c]
   refine ev_then1 (impl_above_ev V kd n _ ?_)
   have := above_kind V i hi id hc
   rw [rd_bkt B i hi]
   omega
def aboveB (B : List S68) (id kd : Int) : Int := aboveN B 5 id kd
theorem spec_above {D : List S72} {B : List S68} (V : Valid D B) (id kd : Int) : Ev (fun k => spec_l06Above.f k D B id kd) (aboveB B id kd) := spec_above_ev V kd 5 id (by have := kindAt_le V id; omega)
theorem impl_above {D : List S72} {B : List S68} (V : Valid D B) (id kd : Int) : Ev (fun k => impl_Tree_above.f k D B id kd) (aboveB B id kd) := impl_above_ev V kd 5 id (by have := kindAt_le V id; omega)

/-- the domain of a device; 0: none -/
def domN (B : List S68) (kd id : Int) : Int := if kd = 0 then id else aboveB B id kd
theorem spec_domain {D : List S72} {B : List S68} (V : Valid D B) (kd id : Int) : Ev (fun k => spec_l08Domain.f k D B kd id) (domN B kd id) := by
 unfold spec_l08Domain.f domN
 by_cases c : kd = 0
 ·simp only [if_pos c]
  exact Ev.now _
 ·simp only [if_neg c]
  exact ev_then1 (spec_above V id kd)
/-- the domain and whether there is one, as the program tells it -/
def domP (D : List S72) (B : List S68) (kd id : Int) : Int × Bool := if devAt D id < 0 then (0, false) else if kd = 0 then (id, true) else (aboveB B id kd, (aboveB B id kd != 0))
theorem impl_domain {D : List S72} {B : List S68} (V : Valid D B) (kd id : Int) : Ev (fun k => impl_Tree_domain.f k D B kd id) (domP D B kd id) := by
 unfold impl_Tree_domain.f impl_Tree_device.f domP
 simp only [Option.bind_some]
 have e : idxFrom (fun x : S72 => x.f0 == id) D 0 = devAt D id := rfl
 rw [e]
 by_cases c : devAt D id < 0
 ·simp only [if_pos c]
  exact Ev.now _
 ·simp only [if_neg c]
  by_cases c2 : kd = 0
  ·simp only [if_pos c2]
   exact Ev.now _
  ·simp only [if_neg c2]
   exact Ev.bind (impl_above V id kd) (Ev.now _)
theorem firstR_prop {ρ : Type} (P : ρ → Prop) (c : Nat → Bool) (g : Nat → ρ) (z : ρ) (N : Nat) (hz : P z) (hg : ∀ i, i < N → c i = true → P (g i)) : ∀ d i, i + d ≤ N → P (firstR c g z d i)
 | 0, i, _ => hz
 | d + 1, i, h => by
  unfold firstR
  cases e : c i with
  | true => rw [if_pos rfl]; exact hg i (by omega) e
  | false => rw [if_neg (by decide)]; exact firstR_prop P c g z N hz hg d (i + 1) (by omega)
theorem aboveN_range {D : List S72} {B : List S68} (V : Valid D B) (kd : Int) : ∀ (n : Nat) (id : Int), -12 ≤ aboveN B n id kd ∧ aboveN B n id kd ≤ 0
 | 0, id => by simp [aboveN]
 | n + 1, id => by
  unfold aboveN
  refine firstR_prop (fun x : Int => -12 ≤ x ∧ x ≤ 0) _ _ 0 B.length (by omega) (fun i hi _ => ?_) B.length 0 (by omega)
  by_cases c : (rd_T68 B i).f1 = kd
  ·rw [if_pos c, rd_bkt B i hi]
   have := V.bkts i hi
   omega
  ·rw [if_neg c]
   exact aboveN_range V kd n _
theorem aboveB_range {D : List S72} {B : List S68} (V : Valid D B) (kd id : Int) : -12 ≤ aboveB B id kd ∧ aboveB B id kd ≤ 0 := aboveN_range V kd 5 id
/-- what is found is a device: its Id -/
theorem dev_range {D : List S72} {B : List S68} (V : Valid D B) (id : Int) (h : ¬ devAt D id < 0) : 0 ≤ id ∧ id ≤ 15 := by
 rcases devAt_hit D id with e | ⟨n, hn, e, e2⟩
 ·omega
 ·have := V.devs n hn
  omega
theorem domP_range {D : List S72} {B : List S68} (V : Valid D B) (kd id : Int) : -12 ≤ (domP D B kd id).1 ∧ (domP D B kd id).1 ≤ 15 := by
 unfold domP
 split
 ·simp
 ·rename_i c
  have := dev_range V id c
  have := aboveB_range V kd id
  split <;> simp only <;> omega
theorem domP_wf {D : List S72} {B : List S68} (V : Valid D B) (kd id : Int) : wfI (domP D B kd id).1 = true := by
 have := domP_range V kd id
 unfold wfI
 exact decide_eq_true (by omega)
theorem domP_ok {D : List S72} {B : List S68} (V : Valid D B) (kd id : Int) (h : (domP D B kd id).2 = true) : 0 ≤ id ∧ (domP D B kd id).1 = domN B kd id ∧ ¬ devAt D id < 0 := by
 unfold domP at h ⊢
 by_cases c : devAt D id < 0
 ·rw [if_pos c] at h; cases h
 ·have := dev_range V id c
  refine ⟨this.1, ?_, c⟩
  rw [if_neg c]
  unfold domN
  split <;> rfl

end Go.Proofs.YtkadeelplnkpgaaGreat.Pure

namespace Go.Proofs.YtkadeelplnkpgaaGreat.Pure
open Go.RowKit Go.Proofs.YtkadeelplnkpgaaGreatW.PrintWords Go.Proofs.YtkadeelplnkpgaaGreatW.PrintLast Go.Proofs.YtkadeelplnkpgaaGreatW.PrintMore
set_option linter.unusedVariables false
set_option linter.unusedSimpArgs false
def Rise (l : List Int) : Prop := l.Pairwise (· < ·)
theorem rise_ext : ∀ (a b : List Int), Rise a → Rise b → (∀ x, x ∈ a ↔ x ∈ b) → a = b
 | [], [], _, _, _ => rfl
 | [], y :: b, _, _, h => absurd ((h y).2 (by simp)) (by simp)
 | x :: a, [], _, _, h => absurd ((h x).1 (by simp)) (by simp)
 | x :: a, y :: b, ha, hb, h => by
  obtain ⟨ha1, ha2⟩ := List.pairwise_cons.1 ha
  obtain ⟨hb1, hb2⟩ := List.pairwise_cons.1 hb
  have hxy : x = y := by
   rcases List.mem_cons.1 ((h x).1 (by simp)) with e | e
   ·exact e
   ·rcases List.mem_cons.1 ((h y).2 (by simp)) with e2 | e2
    ·exact e2.symm
    ·have := ha1 y e2
     have := hb1 x e
     omega
  subst hxy
  congr 1
  refine rise_ext a b ha2 hb2 (fun z => ⟨fun hz => ?_, fun hz => ?_⟩)
  ·rcases List.mem_cons.1 ((h z).1 (List.mem_cons_of_mem _ hz)) with e | e
   ·have := ha1 z hz
    omega
   ·exact e
  ·rcases List.mem_cons.1 ((h z).2 (List.mem_cons_of_mem _ hz)) with e | e
   ·have := hb1 z hz
    omega
   ·exact e
/-- a number put to its place, once -/
def putR : List Int → Int → List Int
 | [], n => [n]
 | x :: xs, n => if x < n then x :: putR xs n else if x = n then x :: xs else n :: x :: xs
theorem mem_putR (y n : Int) : ∀ l, y ∈ putR l n ↔ y = n ∨ y ∈ l
 | [] => by simp [putR]
 | x :: xs => by
  unfold putR
  by_cases c : x < n
  ·rw [if_pos c, List.mem_cons, mem_putR y n xs, List.mem_cons]
   constructor
   ·rintro (h | h | h)
    ·exact .inr (.inl h)
    ·exact .inl h
    ·exact .inr (.inr h)
   ·rintro (h | h | h)
    ·exact .inr (.inl h)
    ·exact .inl h
    ·exact .inr (.inr h)
  ·rw [if_neg c]
   by_cases c2 : x = n
   ·rw [if_pos c2]
    subst c2
    simp
   ·rw [if_neg c2]
    simp
theorem rise_putR (n : Int) : ∀ l, Rise l → Rise (putR l n)
 | [], _ => by simp [putR, Rise]
 | x :: xs, h => by
  obtain ⟨h1, h2⟩ := List.pairwise_cons.1 h
  unfold putR
  by_cases c : x < n
  ·rw [if_pos c]
   refine List.pairwise_cons.2 ⟨fun y hy => ?_, rise_putR n xs h2⟩
   rcases (mem_putR y n xs).1 hy with rfl | hy
   ·exact c
   ·exact h1 y hy
  ·rw [if_neg c]
   by_cases c2 : x = n
   ·rw [if_pos c2]; exact h
   ·rw [if_neg c2]
    refine List.pairwise_cons.2 ⟨fun y hy => ?_, h⟩
    rcases List.mem_cons.1 hy with rfl | hy
    ·omega
    ·have := h1 y hy
     omega
theorem putR_length (n : Int) : ∀ l, (putR l n).length ≤ l.length + 1
 | [] => by simp [putR]
 | x :: xs => by
  unfold putR
  have := putR_length n xs
  split
  ·simp; omega
  ·split <;> simp
theorem fold_putR : ∀ (l acc : List Int), Rise acc → Rise (l.foldl putR acc) ∧ (∀ y, y ∈ l.foldl putR acc ↔ y ∈ acc ∨ y ∈ l) ∧ (l.foldl putR acc).length ≤ acc.length + l.length
 | [], acc, h => ⟨h, by simp, by simp⟩
 | x :: l, acc, h => by
  obtain ⟨h1, h2, h3⟩ := fold_putR l (putR acc x) (rise_putR x acc h)
  refine ⟨h1, fun y => ?_, ?_⟩
  ·rw [List.foldl_cons, h2 y, mem_putR, List.mem_cons]
   constructor
   ·rintro ((h | h) | h)
    ·exact .inr (.inl h)
    ·exact .inl h
    ·exact .inr (.inr h)
   ·rintro (h | h | h)
    ·exact .inl (.inr h)
    ·exact .inl (.inl h)
    ·exact .inr h
  ·have := putR_length x acc
   rw [List.foldl_cons]
   simp only [List.length_cons]
   omega
theorem sortI_mem (l : List Int) (x : Int) : x ∈ sortI l ↔ x ∈ l := List.mem_mergeSort
theorem sortI_nodup (l : List Int) (h : l.Nodup) : (sortI l).Nodup := (List.mergeSort_perm l _).nodup_iff.2 h
theorem sortI_rise (l : List Int) (h : l.Nodup) : Rise (sortI l) := by
 have h1 : (sortI l).Pairwise fun a b => decide (a ≤ b) = true := List.pairwise_mergeSort (fun a b c => by simp only [decide_eq_true_eq]; omega) (fun a b => by simp only [Bool.or_eq_true, decide_eq_true_eq]; omega) l
 have h2 : (sortI l).Pairwise (· ≠ ·) := sortI_nodup l h
 exact (List.pairwise_and_iff.2 ⟨h1, h2⟩).imp (fun {a b} h => by have h1 := of_decide_eq_true h.1; have h2 := h.2; omega)
/-- put in one by one, or sorted at the end -/
theorem fold_sort (l : List Int) (h : l.Nodup) : l.foldl putR [] = sortI l := by
 obtain ⟨h1, h2, _⟩ := fold_putR l [] (by simp [Rise])
 exact rise_ext _ _ h1 (sortI_rise l h) (fun x => by rw [h2 x, sortI_mem]; simp)
theorem flatMap_length {α β : Type} (g : α → List β) (c : Nat) : ∀ l : List α, (∀ x ∈ l, (g x).length ≤ c) → (l.flatMap g).length ≤ l.length * c
 | [], _ => by simp
 | x :: xs, h => by
  rw [List.flatMap_cons, List.length_append, List.length_cons, Nat.add_mul, Nat.one_mul]
  have := flatMap_length g c xs (fun y hy => h y (List.mem_cons_of_mem _ hy))
  have := h x (by simp)
  omega

end Go.Proofs.YtkadeelplnkpgaaGreat.Pure

namespace Go.Proofs.YtkadeelplnkpgaaGreat.Pure
open Go.RowKit Go.Proofs.YtkadeelplnkpgaaGreat.Q Go.Proofs.YtkadeelplnkpgaaGreatW.PrintWords Go.Proofs.YtkadeelplnkpgaaGreatW.PrintLast Go.Proofs.YtkadeelplnkpgaaGreatW.PrintMore
set_option linter.unusedVariables false
set_option linter.unusedSimpArgs false
/-- the devices below a thing, rising -/
def underN (B : List S68) : Nat → Int → List Int
 | 0, id => [id]
 | n + 1, id => if bucketAt B id < 0 then [id] else sortI ((rd_T68 B (bucketAt B id)).f2.flatMap (underN B n))
theorem bucket_kind {D : List S72} {B : List S68} (V : Valid D B) (id : Int) (h : ¬ bucketAt B id < 0) : ∃ j, ∃ (hj : j < B.length), bucketAt B id = (j : Int) ∧ B[j].f0 = id ∧ kindAt D B id = B[j].f1 ∧ rd_T68 B (bucketAt B id) = B[j] := by
 rcases bucketAt_hit B id with e | ⟨j, hj, e, e2⟩
 ·omega
 ·exact ⟨j, hj, e, e2, by rw [← e2]; exact kindAt_own V j hj, by rw [e]; exact rd_bkt B j hj⟩
theorem kind_dev {D : List S72} {B : List S68} (id : Int) (h : bucketAt B id < 0) (hk : 0 ≤ kindAt D B id) : 0 ≤ devAt D id ∧ kindAt D B id = 0 := by
 have e : kindAt D B id = if 0 ≤ devAt D id then 0 else if bucketAt B id < 0 then -1 else (rd_T68 B (bucketAt B id)).f1 := rfl
 by_cases c : 0 ≤ devAt D id
 ·exact ⟨c, by rw [e, if_pos c]⟩
 ·rw [e, if_neg c, if_pos h] at hk
  omega
theorem kind_zero {D : List S72} {B : List S68} (V : Valid D B) (id : Int) (h : kindAt D B id = 0) : bucketAt B id < 0 := by
 by_cases c : bucketAt B id < 0
 ·exact c
 ·obtain ⟨j, hj, _, _, e, _⟩ := bucket_kind V id c
  have := V.bkts j hj
  omega
theorem underN_length {D : List S72} {B : List S68} (V : Valid D B) : ∀ (n : Nat) (id : Int), (underN B n id).length ≤ 8 ^ n
 | 0, id => by simp [underN]
 | n + 1, id => by
  unfold underN
  by_cases c : bucketAt B id < 0
  ·rw [if_pos c]
   exact Nat.one_le_pow _ _ (by omega)
  ·rw [if_neg c, sortI_length]
   obtain ⟨j, hj, _, _, _, e⟩ := bucket_kind V id c
   rw [e]
   have h8 := (V.bkts j hj).2.2
   have h1 := flatMap_length (underN B n) (8 ^ n) B[j].f2 (fun x _ => underN_length V n x)
   have h2 : B[j].f2.length * 8 ^ n ≤ 8 * 8 ^ n := Nat.mul_le_mul_right _ h8
   rw [Nat.pow_succ, Nat.mul_comm]
   exact Nat.le_trans h1 h2
theorem useGo_nodup : ∀ (items u u' : List Int), useGo u items = some u' → u.Nodup → u'.Nodup
 | [], u, u', h, hn => by
  simp only [useGo, Option.some.injEq] at h
  subst h
  exact hn
 | x :: xs, u, u', h, hn => by
  rw [useGo_cons] at h
  by_cases c : (u.any fun y => y == x) = true
  ·rw [if_pos c] at h; cases h
  ·rw [if_neg c] at h
   refine useGo_nodup xs (u ++ [x]) u' h ?_
   rw [List.nodup_append]
   refine ⟨hn, by simp, fun a ha b hb e => ?_⟩
   simp only [List.mem_singleton] at hb
   subst hb
   subst e
   exact c (List.any_eq_true.2 ⟨a, ha, by simp⟩)
theorem onceGo_nodup (B : List S68) : ∀ (d i : Nat) (u : List Int), i + d = B.length → onceGo B d (i : Int) u = true → u.Nodup → (u ++ (B.drop i).flatMap (·.f2)).Nodup
 | 0, i, u, hd, _, hn => by
  rw [List.drop_of_length_le (by omega)]
  simpa using hn
 | d + 1, i, u, hd, h, hn => by
  have hi : i < B.length := by omega
  unfold onceGo at h
  rw [rd_bkt B i hi] at h
  cases hu : useGo u B[i].f2 with
  | none => rw [hu] at h; cases h
  | some u' =>
   rw [hu] at h
   have h' : onceGo B d (((i + 1 : Nat)) : Int) u' = true := h
   have := onceGo_nodup B d (i + 1) u' (by omega) h' (useGo_nodup _ _ _ hu hn)
   rw [useGo_length _ _ _ hu] at this
   rw [List.drop_eq_getElem_cons hi, List.flatMap_cons, ← List.append_assoc]
   exact this
theorem once_all {D : List S72} {B : List S68} (V : Valid D B) : (B.flatMap (·.f2)).Nodup := by
 have := onceGo_nodup B B.length 0 [] (by omega) V.once (by simp)
 simpa using this
theorem items_nodup {D : List S72} {B : List S68} (V : Valid D B) (j : Nat) (hj : j < B.length) : B[j].f2.Nodup := (List.pairwise_flatMap.1 (once_all V)).1 _ (List.getElem_mem hj)
theorem items_apart {D : List S72} {B : List S68} (V : Valid D B) (i j : Nat) (hi : i < B.length) (hj : j < B.length) (x : Int) (h1 : x ∈ B[i].f2) (h2 : x ∈ B[j].f2) : i = j := by
 have h := (List.pairwise_flatMap.1 (once_all V)).2
 rw [List.pairwise_iff_getElem] at h
 rcases Nat.lt_trichotomy i j with c | c | c
 ·exact absurd rfl (h i j hi hj c x h1 x h2)
 ·exact c
 ·exact absurd rfl (h j i hj hi c x h2 x h1)
/-- the kinds of a bucket's things are all the same -/
theorem item_kinds {D : List S72} {B : List S68} (V : Valid D B) (j : Nat) (hj : j < B.length) (x y : Int) (hx : x ∈ B[j].f2) (hy : y ∈ B[j].f2) : kindAt D B x = kindAt D B y := by
 have h1 := V.fits j hj x hx
 have h2 := V.fits j hj y hy
 unfold fitOne at h1 h2
 by_cases c : B[j].f1 < 3
 ·rw [if_pos c] at h1 h2
  rw [eq_of_beq h1, eq_of_beq h2]
 ·rw [if_neg c, Bool.and_eq_true] at h1 h2
  rw [eq_of_beq h1.1, eq_of_beq h2.1]
theorem under_apart {D : List S72} {B : List S68} (V : Valid D B) (x : Int) : ∀ (n : Nat) (a b : Int), kindAt D B a = kindAt D B b → 0 ≤ kindAt D B a → kindAt D B a ≤ 2 → x ∈ underN B n a → x ∈ underN B n b → a = b
 | 0, a, b, _, _, _, ha, hb => by
  simp only [underN, List.mem_singleton] at ha hb
  rw [← ha, hb]
 | n + 1, a, b, hk, h0, h2, ha, hb => by
  unfold underN at ha hb
  by_cases c : bucketAt B a < 0
  ·have ka := (kind_dev a c h0).2
   have cb := kind_zero V b (by rw [← hk]; exact ka)
   rw [if_pos c] at ha
   rw [if_pos cb] at hb
   simp only [List.mem_singleton] at ha hb
   rw [← ha, hb]
  ·obtain ⟨i, hi, _, ea, ka, ra⟩ := bucket_kind V a c
   have hki := V.bkts i hi
   have cb : ¬ bucketAt B b < 0 := fun cb => by
    have := (kind_dev b cb (by rw [← hk]; exact h0)).2
    omega
   obtain ⟨j, hj, _, eb, kb, rb⟩ := bucket_kind V b cb
   rw [if_neg c, ra, sortI_mem, List.mem_flatMap] at ha
   rw [if_neg cb, rb, sortI_mem, List.mem_flatMap] at hb
   obtain ⟨y, hy, hxy⟩ := ha
   obtain ⟨z, hz, hxz⟩ := hb
   have fy := V.fits i hi y hy
   have fz := V.fits j hj z hz
   unfold fitOne at fy fz
   rw [if_pos (by omega)] at fy fz
   have fy := eq_of_beq fy
   have fz := eq_of_beq fz
   have hyz := under_apart V x n y z (by omega) (by omega) (by omega) hxy hxz
   subst hyz
   have hij := items_apart V i j hi hj y hy hz
   subst hij
   rw [← ea, ← eb]
theorem under_nodup {D : List S72} {B : List S68} (V : Valid D B) : ∀ (n : Nat) (id : Int), (underN B n id).Nodup
 | 0, id => by simp [underN]
 | n + 1, id => by
  unfold underN
  by_cases c : bucketAt B id < 0
  ·rw [if_pos c]; simp
  ·rw [if_neg c]
   obtain ⟨j, hj, _, _, _, e⟩ := bucket_kind V id c
   rw [e]
   refine sortI_nodup _ (List.pairwise_flatMap.2 ⟨fun a _ => under_nodup V n a, ?_⟩)
   refine List.Pairwise.imp_of_mem (fun {a b} ha hb hab x hx y hy hxy => ?_) (items_nodup V j hj)
   subst hxy
   have ka := item_kind V j hj a ha
   have := (V.bkts j hj).2.1
   exact hab (under_apart V x n a b (item_kinds V j hj a b ha hb) ka.1 (by omega) hx hy)
/-- the things of a bucket, their devices one behind the other: none twice -/
theorem flat_nodup {D : List S72} {B : List S68} (V : Valid D B) (n : Nat) (j : Nat) (hj : j < B.length) : (B[j].f2.flatMap (underN B n)).Nodup := by
 refine List.pairwise_flatMap.2 ⟨fun a _ => under_nodup V n a, ?_⟩
 refine List.Pairwise.imp_of_mem (fun {a b} ha hb hab x hx y hy hxy => ?_) (items_nodup V j hj)
 subst hxy
 have ka := item_kind V j hj a ha
 have := (V.bkts j hj).2.1
 exact hab (under_apart V x n a b (item_kinds V j hj a b ha hb) ka.1 (by omega) hx hy)
theorem under_dev {D : List S72} {B : List S68} (V : Valid D B) : ∀ (n : Nat) (id : Int), 0 ≤ kindAt D B id → kindAt D B id < n → ∀ x ∈ underN B n id, 0 ≤ devAt D x
 | 0, id, h0, h1, _, _ => by omega
 | n + 1, id, h0, h1, x, hx => by
  unfold underN at hx
  by_cases c : bucketAt B id < 0
  ·rw [if_pos c] at hx
   simp only [List.mem_singleton] at hx
   subst hx
   exact (kind_dev x c h0).1
  ·rw [if_neg c] at hx
   obtain ⟨j, hj, _, _, ek, e⟩ := bucket_kind V id c
   rw [e, sortI_mem, List.mem_flatMap] at hx
   obtain ⟨y, hy, hxy⟩ := hx
   have ky := item_kind V j hj y hy
   exact under_dev V n y ky.1 (by omega) x hxy

/-- what the reference's put has come to -/
def PutAt (l : List Int) (n : Int) (i : Nat) (s : List Int × Bool) : Prop := s.1 ++ (if s.2 = true then l.drop i else putR (l.drop i) n) = putR l n ∧ s.1.length ≤ i + (if s.2 = true then 1 else 0)
theorem spec_put_ev (l : List Int) (n : Int) (hl : l.length ≤ 17592186044414) : Ev (fun k => spec_l00Put.f k l n) (putR l n) := by
 refine loop_is l.length (fun k (s : List Int × Bool) i => spec_l00Put.l0 k l n s.1 s.2 i) (PutAt l n) _ ?_ ?_ ([], false) ⟨rfl, by simp⟩
 ·rintro i ⟨out, done⟩ hi ⟨h1, h2⟩
  simp only at h1 h2
  rw [List.drop_eq_getElem_cons hi] at h1
  cases done with
  | true =>
   simp only [if_true] at h1 h2
   refine .inr ⟨(out ++ [l[i]], true), ⟨by simpa using h1, by simp; omega⟩, fun r hr => Ev.step (f := fun k => spec_l00Put.j1 k l n out true i false) (fun k => ?_) (Ev.step (fun k => ?_) hr)⟩
   ·simp only [spec_l00Put.l0]
    rw [if_pos (by omega)]
    rfl
   ·simp only [spec_l00Put.j1, Bool.false_eq_true, if_false]
    rw [if_pos (by omega), if_pos (by omega), if_pos (by omega), up64 i l.length hi (by omega), rd_get l i hi]
  | false =>
   simp only [Bool.false_eq_true, if_false] at h1 h2
   simp only [putR] at h1
   have hstep : ∀ r, Ev (fun k => spec_l00Put.j1 k l n out false i (decide (l[i] ≥ n))) r → Ev (fun k => spec_l00Put.l0 k l n out false i) r := fun r hr => Ev.step (fun k => by
    simp only [spec_l00Put.l0]
    simp only [Bool.false_eq_true, if_false]
    rw [if_pos (by omega), if_pos (by omega), rd_get l i hi]) hr
   by_cases c : l[i] < n
   ·rw [if_pos c] at h1
    refine .inr ⟨(out ++ [l[i]], false), ⟨by simpa using h1, by simp; omega⟩, fun r hr => hstep r ?_⟩
    rw [decide_eq_false (by omega)]
    refine Ev.step (fun k => ?_) hr
    simp only [spec_l00Put.j1, Bool.false_eq_true, if_false]
    rw [if_pos (by omega), if_pos (by omega), if_pos (by omega), up64 i l.length hi (by omega), rd_get l i hi]
   ·rw [if_neg c] at h1
    by_cases c2 : l[i] = n
    ·rw [if_pos c2] at h1
     refine .inr ⟨(out ++ [l[i]], true), ⟨by simpa using h1, by simp; omega⟩, fun r hr => hstep r ?_⟩
     rw [decide_eq_true (by omega)]
     refine Ev.step (fun k => ?_) hr
     simp only [spec_l00Put.j1, if_true]
     rw [if_pos (by omega), if_pos (by omega), rd_get l i hi, if_neg (by omega), if_pos (by omega), up64 i l.length hi (by omega)]
    ·rw [if_neg c2] at h1
     refine .inr ⟨(out ++ [n] ++ [l[i]], true), ⟨by simpa using h1, ?_⟩, fun r hr => hstep r ?_⟩
     ·simp only [List.length_append, List.length_singleton, if_true]; omega
     ·rw [decide_eq_true (by omega)]
      refine Ev.step (fun k => ?_) hr
      simp only [spec_l00Put.j1, if_true]
      rw [if_pos (by omega), if_pos (by omega), rd_get l i hi, if_pos (by omega), if_pos (by omega)]
      simp only [Option.bind_some]
      rw [if_pos (by rw [List.length_append, List.length_singleton]; omega), up64 i l.length hi (by omega)]
 ·rintro ⟨out, done⟩ ⟨h1, h2⟩
  simp only at h1 h2
  rw [List.drop_length] at h1
  cases done with
  | true =>
   refine ev_end (fun k => ?_)
   simp only [spec_l00Put.l0]
   rw [if_neg (by omega)]
   simp only [if_true, List.append_nil] at h1 ⊢
   rw [h1]
  | false =>
   refine ev_end (fun k => ?_)
   simp only [spec_l00Put.l0]
   simp only [Bool.false_eq_true, if_false, putR] at h1 h2 ⊢
   rw [if_neg (by omega), if_pos (by omega)]
   rw [h1]
theorem kind_neg {D : List S72} {B : List S68} (V : Valid D B) (id : Int) (h : kindAt D B id < 0) : bucketAt B id < 0 := by
 by_cases c : bucketAt B id < 0
 ·exact c
 ·obtain ⟨j, hj, _, _, e, _⟩ := bucket_kind V id c
  have := V.bkts j hj
  omega
theorem under_flat {D : List S72} {B : List S68} (V : Valid D B) (n : Nat) (j : Nat) (hj : j < B.length) (i : Nat) : ((B[j].f2.take i).flatMap (underN B n)).length ≤ 8 * 8 ^ n := by
 have h8 := (V.bkts j hj).2.2
 have h1 := flatMap_length (underN B n) (8 ^ n) (B[j].f2.take i) (fun x _ => underN_length V n x)
 exact Nat.le_trans h1 (Nat.mul_le_mul_right _ (by rw [List.length_take]; omega))
theorem underL_ev {D : List S72} {B : List S68} (V : Valid D B) (n : Nat) (j : Nat) (hj : j < B.length) (hn : 8 * 8 ^ n ≤ 1048576) (g : Nat → Int → Option (List Int)) (hg : ∀ x ∈ B[j].f2, Ev (fun k => g k x) (underN B n x)) : ∀ (d i : Nat), i + d = B[j].f2.length → Ev (fun k => underL (g k) ((B[j].f2.take i).flatMap (underN B n)) (B[j].f2.drop i)) (B[j].f2.flatMap (underN B n))
 | 0, i, hd => by
  rw [List.drop_of_length_le (by omega), List.take_of_length_le (by omega)]
  exact Ev.now _
 | d + 1, i, hd => by
  have hi : i < B[j].f2.length := by omega
  have h := underL_ev V n j hj hn g hg d (i + 1) (by omega)
  have hb := under_flat V n j hj (i + 1)
  rw [List.drop_eq_getElem_cons hi]
  simp only [underL]
  refine Ev.bind (hg _ (List.getElem_mem hi)) ?_
  rw [List.take_succ_eq_append_getElem hi, List.flatMap_append, List.flatMap_singleton] at h hb
  rw [List.length_append] at hb
  simp only [if_pos (Nat.le_trans hb hn)]
  exact h
theorem impl_under_ev {D : List S72} {B : List S68} (V : Valid D B) : ∀ (n : Nat) (id : Int), n ≤ 5 → kindAt D B id < n → Ev (fun k => impl_Tree_nodesUnder.f k D B id) (underN B n id)
 | 0, id, _, h => by
  refine ev_end (fun k => ?_)
  simp only [impl_Tree_nodesUnder.f]
  rw [if_pos (kind_neg V id (by omega))]
  rfl
 | n + 1, id, h5, h => by
  by_cases c : bucketAt B id < 0
  ·refine ev_end (fun k => ?_)
   simp only [impl_Tree_nodesUnder.f, underN]
   rw [if_pos c, if_pos c]
  ·obtain ⟨j, hj, _, _, ek, e⟩ := bucket_kind V id c
   have hn : 8 * 8 ^ n ≤ 1048576 := by
    have := Nat.pow_le_pow_right (n := 8) (by omega) (show n ≤ 4 by omega)
    omega
   have hL := underL_ev V n j hj hn (fun k x => impl_Tree_nodesUnder.f k D B x) (fun x hx => impl_under_ev V n x (by omega) (by have := item_kind V j hj x hx; omega)) B[j].f2.length 0 (by omega)
   refine Ev.step (f := ?f) (fun k => ?_) ?_
   rotate_left
   ·simp only [impl_Tree_nodesUnder.f]
    rw [if_neg c, e]
    all_goals exact rfl
   ·simp only [underN]
    rw [if_neg c, e]
    simp only [Option.map_eq_bind]
    exact Ev.bind hL (Ev.now _)
theorem spec_under_ev {D : List S72} {B : List S68} (V : Valid D B) : ∀ (n : Nat) (id : Int), n ≤ 5 → kindAt D B id < n → Ev (fun k => spec_l06Under.f k D B id) (underN B n id) := fun n id h5 h => by
 have hB := V.bkt
 refine Ev.step (f := fun k => (spec_l06Bucket.f k D B id).bind fun t => if t < 0 then some [id] else spec_l06Under.l0 k t [] 0 D B) (fun k => rfl) ?_
 refine Ev.bind (specBucket_ev D B id (by omega)) ?_
 by_cases c : bucketAt B id < 0
 ·simp only [if_pos c]
  have e : underN B n id = [id] := by cases n with
   | zero => rfl
   | succ n => simp only [underN, if_pos c]
  rw [e]
  exact Ev.now _
 ·simp only [if_neg c]
  obtain ⟨j, hj, ej, _, ek, e⟩ := bucket_kind V id c
  cases n with
  | zero => have := V.bkts j hj; omega
  | succ n =>
   have hu : underN B (n + 1) id = (B[j].f2.flatMap (underN B n)).foldl putR [] := by
    rw [fold_sort _ (flat_nodup V n j hj)]
    simp only [underN, if_neg c, e]
   have hn : 8 * 8 ^ n ≤ 1048576 := by
    have := Nat.pow_le_pow_right (n := 8) (by omega) (show n ≤ 4 by omega)
    omega
   rw [hu, ej]
   have h8 := (V.bkts j hj).2.2
   refine loop_is B[j].f2.length (fun k (s : List Int) i => spec_l06Under.l0 k j s i D B) (fun i s => s = ((B[j].f2.take i).flatMap (underN B n)).foldl putR []) _ ?_ ?_ [] (by simp)
   ·rintro i s hi rfl
    refine .inr ⟨_, rfl, fun r hr => Ev.step (f := ?f) (fun k => ?_) ?_⟩
    rotate_left
    ·simp only [spec_l06Under.l0]
     rw [if_pos (by omega), if_pos (by omega), rd_bkt B j hj, if_pos (by omega), if_pos (by omega), rd_get _ i hi]
     all_goals exact rfl
    ·refine Ev.bind (spec_under_ev V n _ (by omega) (by have := item_kind V j hj _ (List.getElem_mem hi); omega)) ?_
     rw [List.take_succ_eq_append_getElem hi, List.flatMap_append, List.flatMap_singleton, List.foldl_append] at hr
     have hb : (((B[j].f2.take i).flatMap (underN B n)).foldl putR []).length ≤ 1048576 := by
      have := (fold_putR ((B[j].f2.take i).flatMap (underN B n)) [] (by simp [Rise])).2.2
      have h2 := under_flat V n j hj i
      simp only [List.length_nil] at this
      omega
     have hr0 := (fold_putR ((B[j].f2.take i).flatMap (underN B n)) [] (by simp [Rise])).1
     have ht : (underN B n B[j].f2[i]).length ≤ 1048576 := by have := underN_length V n B[j].f2[i]; omega
     generalize ((B[j].f2.take i).flatMap (underN B n)).foldl putR [] = acc at hr hb hr0 ⊢
     generalize underN B n B[j].f2[i] = t at hr ht ⊢
     refine loop_is t.length (fun k (s : List Int) u => spec_l06Under.l1 k j s i t u D B) (fun u s => s = (t.take u).foldl putR acc) _ ?_ ?_ acc (by simp)
     ·rintro u s hu rfl
      refine .inr ⟨_, rfl, fun r hr => Ev.step (f := ?f2) (fun k => ?_) ?_⟩
      rotate_left
      ·simp only [spec_l06Under.l1]
       rw [if_pos (by omega), if_pos (by omega), rd_get _ u hu, up64 u t.length hu (by omega)]
       all_goals exact rfl
      ·have hl : ((t.take u).foldl putR acc).length ≤ 17592186044414 := by
        have := (fold_putR (t.take u) acc hr0).2.2
        rw [List.length_take] at this
        omega
       refine Ev.bind (spec_put_ev _ _ hl) ?_
       rw [List.take_succ_eq_append_getElem hu, List.foldl_append] at hr
       exact hr
     ·rintro s rfl
      refine Ev.step (fun k => ?_) hr
      simp only [spec_l06Under.l1]
      rw [if_neg (by omega), up64 i B[j].f2.length hi (by omega), List.take_length]
   ·rintro s rfl
    refine ev_end (fun k => ?_)
    simp only [spec_l06Under.l0]
    rw [if_pos (by omega), if_pos (by omega), rd_bkt B j hj, if_neg (by omega), List.take_length]

/-- the weight of a device -/
def wOne (D : List S72) (x : Int) : Int := (rd_T72 D (devAt D x)).f1
/-- the weight of a thing: of all devices below it -/
def wL (D : List S72) (l : List Int) : Int := l.foldl (fun s x => s + wOne D x) 0
def weightN (D : List S72) (B : List S68) (id : Int) : Int := wL D (underN B 5 id)
theorem wOne_range {D : List S72} {B : List S68} (V : Valid D B) (x : Int) (h : 0 ≤ devAt D x) : (0 ≤ wOne D x ∧ wOne D x ≤ 8) ∧ devAt D x < (D.length : Int) := by
 rcases devAt_hit D x with e | ⟨n, hn, e, _⟩
 ·omega
 ·unfold wOne
  rw [e, rd_dev D n hn]
  have := V.devs n hn
  omega
theorem wL_take {D : List S72} (l : List Int) (i : Nat) (h : i < l.length) : wL D (l.take (i + 1)) = wL D (l.take i) + wOne D l[i] := by
 unfold wL
 rw [List.take_succ_eq_append_getElem h, List.foldl_append]
 rfl
theorem wL_range {D : List S72} {B : List S68} (V : Valid D B) (l : List Int) (h : ∀ x ∈ l, 0 ≤ devAt D x) : ∀ i, i ≤ l.length → 0 ≤ wL D (l.take i) ∧ wL D (l.take i) ≤ 8 * i
 | 0, _ => by simp [wL]
 | i + 1, hi => by
  have h1 := wL_range V l h i (by omega)
  have h2 := wOne_range V l[i] (h _ (List.getElem_mem (by omega)))
  rw [wL_take l i (by omega)]
  omega
theorem impl_sum_ev {D : List S72} {B : List S68} (V : Valid D B) (l : List Int) (hl : l.length ≤ 1048576) (h : ∀ x ∈ l, 0 ≤ devAt D x) : Ev (fun k => impl_Tree_weight.l0 k 0 l l.length 0 D B) (wL D l) := by
 refine loop_is l.length (fun k (s : Int) i => impl_Tree_weight.l0 k s l l.length i D B) (fun i s => s = wL D (l.take i)) _ ?_ ?_ 0 rfl
 ·rintro i s hi rfl
  refine .inr ⟨_, rfl, fun r hr => Ev.step (fun k => ?_) hr⟩
  have h1 := wL_range V l h i (by omega)
  have h2 := wOne_range V l[i] (h _ (List.getElem_mem hi))
  have h3 := h _ (List.getElem_mem hi)
  have e : impl_Tree_device.f D B (rd l i) = some (devAt D l[i]) := by rw [rd_get l i hi]; rfl
  simp only [impl_Tree_weight.l0]
  rw [if_pos (by omega), if_pos (by omega), if_pos (by omega), e]
  simp only [Option.bind_some]
  rw [if_pos h3, if_pos h2.2, up64 i l.length hi (by omega), wL_take l i hi]
  have e2 : wrap64 (wL D (l.take i) + (rd_T72 D (devAt D l[i])).f1) = wL D (l.take i) + wOne D l[i] := by
   have : (rd_T72 D (devAt D l[i])).f1 = wOne D l[i] := rfl
   rw [this]
   unfold wrap64
   omega
  rw [e2]
 ·rintro s rfl
  refine ev_end (fun k => ?_)
  simp only [impl_Tree_weight.l0]
  rw [if_neg (by omega), List.take_length]
theorem spec_sum_ev {D : List S72} {B : List S68} (V : Valid D B) (l : List Int) (hl : l.length ≤ 1048576) (h : ∀ x ∈ l, 0 ≤ devAt D x) : Ev (fun k => spec_l06Weight.l0 k l 0 0 D B) (wL D l) := by
 have hD := V.dev
 refine loop_is l.length (fun k (s : Int) i => spec_l06Weight.l0 k l s i D B) (fun i s => s = wL D (l.take i)) _ ?_ ?_ 0 rfl
 ·rintro i s hi rfl
  have h1 := wL_range V l h i (by omega)
  have h2 := wOne_range V l[i] (h _ (List.getElem_mem hi))
  have h3 := h _ (List.getElem_mem hi)
  refine .inr ⟨_, rfl, fun r hr => Ev.step (f := ?f) (fun k => ?_) ?_⟩
  rotate_left
  ·simp only [spec_l06Weight.l0]
   rw [if_pos (by omega), if_pos (by omega), rd_get l i hi, up64 i l.length hi (by omega)]
   all_goals exact rfl
  ·refine Ev.bind (specDevice_ev D B l[i] (by omega)) ?_
   simp only [if_pos h3, if_pos h2.2]
   have e2 : wrap64 (wL D (l.take i) + (rd_T72 D (devAt D l[i])).f1) = wL D (l.take i) + wOne D l[i] := by
    have : (rd_T72 D (devAt D l[i])).f1 = wOne D l[i] := rfl
    rw [this]
    unfold wrap64
    omega
   rw [wL_take l i hi] at hr
   rw [e2]
   exact hr
 ·rintro s rfl
  refine ev_end (fun k => ?_)
  simp only [spec_l06Weight.l0]
  rw [if_neg (by omega), List.take_length]
theorem under5 {D : List S72} {B : List S68} (V : Valid D B) (id : Int) : (underN B 5 id).length ≤ 1048576 := by
 have := underN_length V 5 id
 omega
theorem impl_weight_ev {D : List S72} {B : List S68} (V : Valid D B) (id : Int) (h : 0 ≤ kindAt D B id) : Ev (fun k => impl_Tree_weight.f k D B id) (weightN D B id) := by
 have hk := kindAt_le V id
 unfold impl_Tree_weight.f
 exact Ev.bind (impl_under_ev V 5 id (by omega) (by omega)) (impl_sum_ev V _ (under5 V id) (under_dev V 5 id h (by omega)))
theorem spec_weight_ev {D : List S72} {B : List S68} (V : Valid D B) (id : Int) (h : 0 ≤ kindAt D B id) : Ev (fun k => spec_l06Weight.f k D B id) (weightN D B id) := by
 have hk := kindAt_le V id
 unfold spec_l06Weight.f
 exact Ev.bind (spec_under_ev V 5 id (by omega) (by omega)) (spec_sum_ev V _ (under5 V id) (under_dev V 5 id h (by omega)))
theorem weight_range {D : List S72} {B : List S68} (V : Valid D B) (id : Int) (h : 0 ≤ kindAt D B id) : 0 ≤ weightN D B id ∧ weightN D B id ≤ 8388608 := by
 have hk := kindAt_le V id
 have := wL_range V _ (under_dev V 5 id h (by omega)) (underN B 5 id).length (by omega)
 rw [List.take_length] at this
 have := under5 V id
 unfold weightN
 omega

end Go.Proofs.YtkadeelplnkpgaaGreat.Pure

namespace Go.Proofs.YtkadeelplnkpgaaGreat.Pure
open Go.RowKit Go.Proofs.YtkadeelplnkpgaaGreatW.PrintWords Go.Proofs.YtkadeelplnkpgaaGreatW.PrintLast Go.Proofs.YtkadeelplnkpgaaGreatW.PrintMore
set_option linter.unusedVariables false
set_option linter.unusedSimpArgs false
theorem and32 (x : Int) : Go.bits .and .i64 x 4294967295 = x % 4294967296 := by
 have h : (BitVec.ofInt 64 x &&& BitVec.ofInt 64 4294967295).toNat = (x % 4294967296).toNat := by
  rw [BitVec.toNat_and]
  have e1 : (BitVec.ofInt 64 4294967295).toNat = 2 ^ 32 - 1 := by decide
  have e2 : (BitVec.ofInt 64 x).toNat = (x % 18446744073709551616).toNat := by simp [BitVec.toNat_ofInt]
  rw [e1, e2, Nat.and_two_pow_sub_one_eq_mod]
  omega
 show IntKind.i64.wrap ((BitVec.ofInt 64 x &&& BitVec.ofInt 64 4294967295).toNat : Int) = _
 rw [h, IntKind.wrap_i64]
 omega
theorem xor64 (a b : Nat) (ha : a < 2 ^ 63) (hb : b < 2 ^ 63) : Go.bits .xor .i64 (a : Int) (b : Int) = ((a ^^^ b : Nat) : Int) := by
 have hx : a ^^^ b < 2 ^ 63 := Nat.xor_lt_two_pow ha hb
 have h : (BitVec.ofInt 64 (a : Int) ^^^ BitVec.ofInt 64 (b : Int)).toNat = a ^^^ b := by
  rw [BitVec.toNat_xor, BitVec.ofInt_natCast, BitVec.ofInt_natCast, BitVec.toNat_ofNat, BitVec.toNat_ofNat, Nat.mod_eq_of_lt (by omega), Nat.mod_eq_of_lt (by omega)]
 show IntKind.i64.wrap ((BitVec.ofInt 64 (a : Int) ^^^ BitVec.ofInt 64 (b : Int)).toNat : Int) = _
 rw [h, IntKind.wrap_i64]
 omega
theorem xor32 (a b : Nat) (ha : a < 2 ^ 32) (hb : b < 2 ^ 32) : Go.bits .xor .u32 (a : Int) (b : Int) = ((a ^^^ b : Nat) : Int) := by
 have hx : a ^^^ b < 2 ^ 32 := Nat.xor_lt_two_pow ha hb
 have h : (BitVec.ofInt 32 (a : Int) ^^^ BitVec.ofInt 32 (b : Int)).toNat = a ^^^ b := by
  rw [BitVec.toNat_xor, BitVec.ofInt_natCast, BitVec.ofInt_natCast, BitVec.toNat_ofNat, BitVec.toNat_ofNat, Nat.mod_eq_of_lt (by omega), Nat.mod_eq_of_lt (by omega)]
 show IntKind.u32.wrap ((BitVec.ofInt 32 (a : Int) ^^^ BitVec.ofInt 32 (b : Int)).toNat : Int) = _
 rw [h, IntKind.wrap_u32]
 omega
theorem xor_same (a b : Int) (ha : 0 ≤ a) (ha' : a < 4294967296) (hb : 0 ≤ b) (hb' : b < 4294967296) : Go.bits .xor .i64 a b = Go.bits .xor .u32 a b ∧ 0 ≤ Go.bits .xor .u32 a b ∧ Go.bits .xor .u32 a b < 4294967296 := by
 obtain ⟨n, rfl⟩ := Int.eq_ofNat_of_zero_le ha
 obtain ⟨m, rfl⟩ := Int.eq_ofNat_of_zero_le hb
 have h1 : n < 2 ^ 32 := by omega
 have h2 : m < 2 ^ 32 := by omega
 have hx : n ^^^ m < 2 ^ 32 := Nat.xor_lt_two_pow h1 h2
 rw [xor64 n m (by omega) (by omega), xor32 n m h1 h2]
 exact ⟨rfl, by omega, by omega⟩

/-- two calls that return the same number: comparing them says true -/
theorem eq_then (x y : Option Int) (h : Int) (hx : x = some h) (hy : y = some h) : (x.bind fun t115 => (y.bind fun t116 => (if t116 = t115 then (some true) else (some false)))) = some true := by
 subst hx hy
 simp
theorem eq_then2 (x y : Option (Int × Int)) (h : Int × Int) (hx : x = some h) (hy : y = some h) : (x.bind fun b1 => (y.bind fun b2 => (if b2.1 = b1.1 then (if b2.2 = b1.2 then (some true) else (some false)) else (some false)))) = some true := by
 subst hx hy
 simp
theorem eq_thenB (x y : Option Bool) (h : Bool) (hx : x = some h) (hy : y = some h) : (x.bind fun t1 => (y.bind fun t2 => (if (t2 != t1) = true then (some false) else (some true)))) = some true := by
 subst hx hy
 simp

end Go.Proofs.YtkadeelplnkpgaaGreat.Pure

namespace Go.Proofs.YtkadeelplnkpgaaGreat.Pure
open Go.RowKit Go.Proofs.YtkadeelplnkpgaaGreat.Q Go.Proofs.YtkadeelplnkpgaaGreatW.PrintWords Go.Proofs.YtkadeelplnkpgaaGreatW.PrintLast Go.Proofs.YtkadeelplnkpgaaGreatW.PrintMore
set_option linter.unusedVariables false
set_option linter.unusedSimpArgs false
def mixA (h x : Int) : Int := (Go.bits .xor .u32 h (x % 4294967296) * 16777619) % 4294967296
def mixB (a : Int) : Int := (Go.bits .xor .u32 a (a / 32768) * 1540483477) % 4294967296
def mixC (b : Int) : Int := Go.bits .xor .u32 b (b / 8192)
def mixStep (h x : Int) : Int := mixC (mixB (mixA h x))
def mixL (l : List Int) (h : Int) : Int := l.foldl mixStep h
theorem mixA_range (h x : Int) : 0 ≤ mixA h x ∧ mixA h x < 4294967296 := by unfold mixA; omega
theorem mixB_range (a : Int) : 0 ≤ mixB a ∧ mixB a < 4294967296 := by unfold mixB; omega
theorem mixC_range (b : Int) (h0 : 0 ≤ b) (h1 : b < 4294967296) : 0 ≤ mixC b ∧ mixC b < 4294967296 := (xor_same b (b / 8192) h0 h1 (by omega) (by omega)).2
theorem mixStep_range (h x : Int) : 0 ≤ mixStep h x ∧ mixStep h x < 4294967296 := mixC_range _ (mixB_range _).1 (mixB_range _).2
theorem mixL_range : ∀ (l : List Int) (h : Int), 0 ≤ h → h < 4294967296 → 0 ≤ mixL l h ∧ mixL l h < 4294967296
 | [], _, h0, h1 => ⟨h0, h1⟩
 | x :: l, h, _, _ => mixL_range l (mixStep h x) (mixStep_range h x).1 (mixStep_range h x).2
theorem mixL_drop (l : List Int) (i : Int) (h0 : 0 ≤ i) (h1 : i < l.length) (h : Int) : mixL (l.drop i.toNat) h = mixL (l.drop (i + 1).toNat) (mixStep h (rd l i)) := by
 obtain ⟨n, rfl⟩ := Int.eq_ofNat_of_zero_le h0
 have hl : n < l.length := by omega
 have e : ((n : Int) + 1).toNat = n + 1 := by omega
 have er : rd l n = l[n] := by
  unfold rd
  rw [Int.toNat_natCast, List.getD_eq_getElem?_getD, List.getElem?_eq_getElem hl]; rfl
 rw [e, er, Int.toNat_natCast, List.drop_eq_getElem_cons hl]
 rfl
theorem wrap_small (x : Int) (h0 : 0 ≤ x) (h1 : x < 4294967296) : wrap64 x = x := by unfold wrap64; omega
theorem wrap_next (i : Int) (h0 : 0 ≤ i) (h1 : i < 9223372036854775807) : wrap64 (i + 1) = i + 1 := by unfold wrap64; omega
theorem wrap_mod (x : Int) : wrap64 x % 4294967296 = x % 4294967296 := by unfold wrap64; omega

theorem impl_mix (l : List Int) (hm : (l.length : Int) ≤ 9223372036854775807) (d : Nat) : ∀ (k : Nat) (h i : Int), 0 ≤ h → h < 4294967296 → 0 ≤ i → i ≤ l.length → (l.length : Int) - i = d → d < k →
  impl_Mix.l0 k h l (l.length : Int) i = some (mixL (l.drop i.toNat) h) := by
 induction d with
 | zero =>
  intro k h i a0 a1 h0 h1 hd hk
  obtain ⟨k, rfl⟩ : ∃ m, k = m + 1 := ⟨k - 1, by omega⟩
  simp only [impl_Mix.l0]
  rw [if_neg (by omega), wrap_small h a0 a1, List.drop_of_length_le (by omega)]
  rfl
 | succ d ih =>
  intro k h i a0 a1 h0 h1 hd hk
  obtain ⟨k, rfl⟩ : ∃ m, k = m + 1 := ⟨k - 1, by omega⟩
  have hlt : i < (l.length : Int) := by omega
  rw [mixL_drop l i h0 hlt h, ← ih k _ (i + 1) (mixStep_range h (rd l i)).1 (mixStep_range h (rd l i)).2 (by omega) (by omega) (by omega) (by omega)]
  simp only [impl_Mix.l0]
  rw [if_pos hlt, if_pos h0, if_pos hlt, wrap_next i h0 (by omega)]
  rfl
theorem spec_mix (l : List Int) (hm : (l.length : Int) ≤ 9223372036854775807) (d : Nat) : ∀ (k : Nat) (h i : Int), 0 ≤ h → h < 4294967296 → 0 ≤ i → i ≤ l.length → (l.length : Int) - i = d → d < k →
  spec_l01Mix.l0 k l h i = some (mixL (l.drop i.toNat) h) := by
 induction d with
 | zero =>
  intro k h i a0 a1 h0 h1 hd hk
  obtain ⟨k, rfl⟩ : ∃ m, k = m + 1 := ⟨k - 1, by omega⟩
  simp only [spec_l01Mix.l0]
  rw [if_neg (by omega), List.drop_of_length_le (by omega)]
  rfl
 | succ d ih =>
  intro k h i a0 a1 h0 h1 hd hk
  obtain ⟨k, rfl⟩ : ∃ m, k = m + 1 := ⟨k - 1, by omega⟩
  have hlt : i < (l.length : Int) := by omega
  rw [mixL_drop l i h0 hlt h, ← ih k _ (i + 1) (mixStep_range h (rd l i)).1 (mixStep_range h (rd l i)).2 (by omega) (by omega) (by omega) (by omega)]
  simp only [spec_l01Mix.l0, spec_l01Low.f, Option.bind_some]
  rw [if_pos hlt, if_pos h0, wrap_next i h0 (by omega), and32, and32, and32, wrap_mod, wrap_mod]
  have x1 := (xor_same h (rd l i % 4294967296) a0 a1 (by omega) (by omega)).1
  rw [x1]
  have x2 := mixA_range h (rd l i)
  have x3 := (xor_same (mixA h (rd l i)) (mixA h (rd l i) / 32768) x2.1 x2.2 (by omega) (by omega)).1
  have x4 := mixB_range (mixA h (rd l i))
  have x5 := (xor_same (mixB (mixA h (rd l i))) (mixB (mixA h (rd l i)) / 8192) x4.1 x4.2 (by omega) (by omega)).1
  show spec_l01Mix.l0 k l (Go.bits .xor .i64 ((Go.bits .xor .i64 (mixA h (rd l i)) (mixA h (rd l i) / 32768) * 1540483477) % 4294967296) (((Go.bits .xor .i64 (mixA h (rd l i)) (mixA h (rd l i) / 32768) * 1540483477) % 4294967296) / 8192)) (i + 1) = _
  rw [x3]
  show spec_l01Mix.l0 k l (Go.bits .xor .i64 (mixB (mixA h (rd l i))) (mixB (mixA h (rd l i)) / 8192)) (i + 1) = _
  rw [x5]
  rfl
/-- the hash of a list of words -/
def hash (l : List Int) : Int := mixL l 2166136261
theorem hash_range (l : List Int) : 0 ≤ hash l ∧ hash l < 4294967296 := mixL_range l _ (by decide) (by decide)
theorem impl_Mix_hash (l : List Int) (hm : (l.length : Int) ≤ 9223372036854775807) (k : Nat) (hk : l.length < k) : impl_Mix.f k l = some (hash l) :=
 impl_mix l hm l.length k _ 0 (by decide) (by decide) (by omega) (by omega) (by omega) hk
theorem spec_Mix_hash (l : List Int) (hm : (l.length : Int) ≤ 9223372036854775807) (k : Nat) (hk : l.length < k) : spec_l01Mix.f k l = some (hash l) :=
 spec_mix l hm l.length k _ 0 (by decide) (by decide) (by omega) (by omega) (by omega) hk

end Go.Proofs.YtkadeelplnkpgaaGreat.Pure

namespace Go.Proofs.YtkadeelplnkpgaaGreat.Pure
open Go.RowKit Go.Proofs.YtkadeelplnkpgaaGreat.Q Go.Proofs.YtkadeelplnkpgaaGreatW.PrintWords Go.Proofs.YtkadeelplnkpgaaGreatW.PrintLast
set_option linter.unusedVariables false
set_option linter.unusedSimpArgs false
theorem four_short (a b c d : Int) : (([a, b, c, d] : List Int).length : Int) ≤ 9223372036854775807 := by
 simp only [List.length_cons, List.length_nil]; omega
theorem spec_ticket7 (a0 a1 a2 a3 : Int) (k : Nat) (hk : 4 < k) : spec_l07Ticket.f k a0 a1 a2 a3 = some (hash [a2, a3, a0, a1]) := by
 unfold spec_l07Ticket.f
 rw [spec_Mix_hash _ (four_short a2 a3 a0 a1) k hk]
 simp only [Option.bind_some]
theorem impl_ticket (a0 a1 a2 a3 : Int) (k : Nat) (hk : 4 < k) : impl_TicketOf.f k a0 a1 a2 a3 = some (hash [a2, a3, a0, a1]) := by
 unfold impl_TicketOf.f
 rw [impl_Mix_hash _ (four_short a2 a3 a0 a1) k hk]
 simp only [Option.bind_some]

end Go.Proofs.YtkadeelplnkpgaaGreat.Pure

namespace Go.Proofs.YtkadeelplnkpgaaGreat.Pure
open Go.RowKit Go.Proofs.YtkadeelplnkpgaaGreat.Q Go.Proofs.YtkadeelplnkpgaaGreatW.PrintWords Go.Proofs.YtkadeelplnkpgaaGreatW.PrintLast Go.Proofs.YtkadeelplnkpgaaGreatW.PrintMore
set_option linter.unusedVariables false
set_option linter.unusedSimpArgs false
theorem rd_item (l : List S109) (i : Nat) (h : i < l.length) : rd_T109 l (i : Int) = l[i] := by
 unfold rd_T109
 rw [Int.toNat_natCast, getD_get l i _ h]
/-- the ticket of a unit of an item -/
def ticket (id u seed try_ : Int) : Int := hash [seed, try_, id, u]
/-- the highest of the first tickets; -1 of none -/
def bestN (id seed try_ : Int) : Nat → Int
 | 0 => -1
 | n + 1 => max (bestN id seed try_ n) (ticket id n seed try_)
def bestOf (x : S109) (seed try_ : Int) : Int := bestN x.f0 seed try_ x.f1.toNat
theorem ticket_range (id u seed try_ : Int) : 0 ≤ ticket id u seed try_ ∧ ticket id u seed try_ < 4294967296 := hash_range _
theorem bestN_range (id seed try_ : Int) : ∀ n, -1 ≤ bestN id seed try_ n ∧ bestN id seed try_ n < 4294967296 ∧ (0 < n → 0 ≤ bestN id seed try_ n)
 | 0 => by simp [bestN]
 | n + 1 => by
  have h := bestN_range id seed try_ n
  have h2 := ticket_range id n seed try_
  simp only [bestN]
  omega
theorem mx_max (a b : Int) : mx a b = max a b := by unfold mx; omega
theorem l00Max_is (a b : Int) : spec_l00Max.f a b = some (max a b) := by
 unfold spec_l00Max.f
 by_cases h : a > b
 ·rw [if_pos h]; congr 1; omega
 ·rw [if_neg h]; congr 1; omega
theorem impl_best_ev (id wt seed try_ : Int) (hw : wt ≤ 4611686018427387904) : Ev (fun k => impl_Item_best.f k id wt seed try_) (bestN id seed try_ wt.toNat) := by
 by_cases h0 : 0 ≤ wt
 ·obtain ⟨n, rfl⟩ := Int.eq_ofNat_of_zero_le h0
  rw [Int.toNat_natCast]
  refine loop_is n (fun k s i => impl_Item_best.l0 k seed try_ s n i id n) (fun i s => s = bestN id seed try_ i) _ ?_ ?_ (-1) rfl
  ·rintro i s hi rfl
   refine .inr ⟨bestN id seed try_ (i + 1), rfl, fun r hr => Ev.step (f := ?f) (fun k => ?_) ?_⟩
   rotate_left
   ·simp only [impl_Item_best.l0, mx_max]
    rw [if_pos (by omega), up64 i n hi (by omega)]
    all_goals exact rfl
   ·exact Ev.bind (ev_of (K := 5) fun k hk => impl_ticket id i seed try_ k (by omega)) hr
  ·rintro s rfl
   exact ev_end (fun k => by simp only [impl_Item_best.l0]; rw [if_neg (by omega)])
 ·have e : wt.toNat = 0 := by omega
  rw [e]
  exact ev_end (fun k => by simp only [impl_Item_best.f, impl_Item_best.l0]; rw [if_neg (by omega)]; rfl)
theorem spec_best_ev (id wt seed try_ : Int) (hw : wt ≤ 4611686018427387904) : Ev (fun k => spec_l07Best.f k id wt seed try_) (bestN id seed try_ wt.toNat) := by
 by_cases h0 : 0 ≤ wt
 ·obtain ⟨n, rfl⟩ := Int.eq_ofNat_of_zero_le h0
  rw [Int.toNat_natCast]
  refine loop_is n (fun k s i => spec_l07Best.l0 k seed try_ s i id n) (fun i s => s = bestN id seed try_ i) _ ?_ ?_ (-1) rfl
  ·rintro i s hi rfl
   refine .inr ⟨bestN id seed try_ (i + 1), rfl, fun r hr => Ev.step (f := ?f) (fun k => ?_) ?_⟩
   rotate_left
   ·simp only [spec_l07Best.l0, l00Max_is, Option.bind_some]
    rw [if_pos (by omega), up64 i n hi (by omega)]
    all_goals exact rfl
   ·exact Ev.bind (ev_of (K := 5) fun k hk => spec_ticket7 id i seed try_ k (by omega)) hr
  ·rintro s rfl
   exact ev_end (fun k => by simp only [spec_l07Best.l0]; rw [if_neg (by omega)])
 ·have e : wt.toNat = 0 := by omega
  rw [e]
  exact ev_end (fun k => by simp only [spec_l07Best.f, spec_l07Best.l0]; rw [if_neg (by omega)]; rfl)
/-- who has the highest ticket, the first of several: the ticket and the Id -/
def pickStep (seed try_ : Int) (s : Int × Int) (x : S109) : Int × Int := if bestOf x seed try_ > s.1 then (bestOf x seed try_, x.f0) else s
def pickL (l : List S109) (seed try_ : Int) : Int × Int := l.foldl (pickStep seed try_) (-1, 0)
def chooseL (l : List S109) (seed try_ : Int) : Int × Bool := ((pickL l seed try_).2, decide ((pickL l seed try_).1 ≥ 0))
/-- no weight is out of all bounds -/
def WtOk (l : List S109) : Prop := ∀ x ∈ l, x.f1 ≤ 4611686018427387904
theorem pick_take (l : List S109) (i : Nat) (h : i < l.length) (seed try_ : Int) : (l.take (i + 1)).foldl (pickStep seed try_) (-1, 0) = pickStep seed try_ ((l.take i).foldl (pickStep seed try_) (-1, 0)) l[i] := by
 rw [List.take_succ_eq_append_getElem h, List.foldl_append]
 rfl
theorem impl_choose_ev (l : List S109) (hl : l.length ≤ 1048576) (hw : WtOk l) (seed try_ : Int) : Ev (fun k => impl_choose.f k l seed try_) (chooseL l seed try_) := by
 refine loop_is l.length (fun k (s : Int × Int) i => impl_choose.l0 k seed try_ s.1 s.2 l l.length i) (fun i s => s = (l.take i).foldl (pickStep seed try_) (-1, 0)) _ ?_ ?_ (-1, 0) rfl
 ·rintro i s hi rfl
  refine .inr ⟨_, rfl, fun r hr => Ev.step (f := ?f) (fun k => ?_) ?_⟩
  rotate_left
  ·simp only [impl_choose.l0]
   rw [if_pos (by omega), if_pos (by omega), if_pos (by omega), up64 i l.length hi (by omega), rd_item l i hi]
   all_goals exact rfl
  ·rw [pick_take l i hi] at hr
   generalize List.foldl (pickStep seed try_) (-1, 0) (l.take i) = s at hr ⊢
   refine Ev.bind (impl_best_ev _ _ seed try_ (hw _ (List.getElem_mem hi))) ?_
   unfold pickStep bestOf at hr
   by_cases c : bestN l[i].f0 seed try_ l[i].f1.toNat > s.1
   ·rw [if_pos c] at hr
    refine Ev.congr (fun k => ?_) hr
    exact if_pos c
   ·rw [if_neg c] at hr
    refine Ev.congr (fun k => ?_) hr
    exact if_neg c
 ·rintro s rfl
  refine ev_end (fun k => ?_)
  simp only [impl_choose.l0]
  rw [if_neg (by omega), List.take_length]
  rfl
theorem spec_choose_ev (l : List S109) (hl : l.length ≤ 1048576) (hw : WtOk l) (seed try_ : Int) : Ev (fun k => spec_l07Choose.f k l seed try_) (chooseL l seed try_) := by
 refine loop_is l.length (fun k (s : Int × Int) i => spec_l07Choose.l0 k l seed try_ s.1 s.2 i) (fun i s => s = (l.take i).foldl (pickStep seed try_) (-1, 0)) _ ?_ ?_ (-1, 0) rfl
 ·rintro i s hi rfl
  refine .inr ⟨_, rfl, fun r hr => Ev.step (f := ?f) (fun k => ?_) ?_⟩
  rotate_left
  ·simp only [spec_l07Choose.l0]
   rw [if_pos (by omega), if_pos (by omega), up64 i l.length hi (by omega), rd_item l i hi]
   all_goals exact rfl
  ·rw [pick_take l i hi] at hr
   generalize List.foldl (pickStep seed try_) (-1, 0) (l.take i) = s at hr ⊢
   refine Ev.bind (spec_best_ev _ _ seed try_ (hw _ (List.getElem_mem hi))) ?_
   unfold pickStep bestOf at hr
   by_cases c : bestN l[i].f0 seed try_ l[i].f1.toNat > s.1
   ·rw [if_pos c] at hr
    refine Ev.congr (fun k => ?_) hr
    exact if_pos c
   ·rw [if_neg c] at hr
    refine Ev.congr (fun k => ?_) hr
    exact if_neg c
 ·rintro s rfl
  refine ev_end (fun k => ?_)
  simp only [spec_l07Choose.l0]
  rw [if_neg (by omega), List.take_length]
  rfl

/-- a thing with its weight -/
def itemOf (D : List S72) (B : List S68) (x : Int) : S109 := ⟨x, weightN D B x⟩
/-- the choice among a bucket's things -/
def chooseV (D : List S72) (B : List S68) (id seed try_ : Int) : Int × Bool := if bucketAt B id < 0 then (0, false) else chooseL ((rd_T68 B (bucketAt B id)).f2.map (itemOf D B)) seed try_
theorem items_wt {D : List S72} {B : List S68} (V : Valid D B) (j : Nat) (hj : j < B.length) : WtOk (B[j].f2.map (itemOf D B)) := by
 intro x hx
 obtain ⟨y, hy, rfl⟩ := List.mem_map.1 hx
 have h := (weight_range V y (item_kind V j hj y hy).1).2
 have : (itemOf D B y).f1 = weightN D B y := rfl
 omega
theorem itemsW_ev (g : Nat → Int → Option Int) (c : Int → S109) (l : List Int) (hl : l.length ≤ 1048576) (hc : ∀ x, (c x).f0 = x) (hg : ∀ x ∈ l, Ev (fun k => g k x) (c x).f1) : ∀ (d i : Nat), i + d = l.length → Ev (fun k => itemsW (g k) ((l.take i).map c) (l.drop i)) (l.map c)
 | 0, i, hd => by
  rw [List.drop_of_length_le (by omega), List.take_of_length_le (by omega)]
  exact Ev.now _
 | d + 1, i, hd => by
  have hi : i < l.length := by omega
  have h := itemsW_ev g c l hl hc hg d (i + 1) (by omega)
  rw [List.drop_eq_getElem_cons hi]
  simp only [itemsW]
  refine Ev.bind (hg _ (List.getElem_mem hi)) ?_
  rw [List.take_succ_eq_append_getElem hi, List.map_append] at h
  simp only [if_pos (show ((l.take i).map c).length < 1048576 by rw [List.length_map, List.length_take]; omega)]
  have e : (⟨l[i], (c l[i]).f1⟩ : S109) = c l[i] := by
   have := hc l[i]
   cases hx : c l[i] with
   | mk a b => rw [hx] at this; simp only at this; rw [← this]
  rw [e]
  exact h
theorem impl_chooseIn_ev {D : List S72} {B : List S68} (V : Valid D B) (id seed try_ : Int) : Ev (fun k => impl_Tree_chooseIn.f k D B id seed try_) (chooseV D B id seed try_) := by
 unfold impl_Tree_chooseIn.f chooseV
 by_cases c : bucketAt B id < 0
 ·simp only [if_pos c]
  exact Ev.now _
 ·simp only [if_neg c]
  obtain ⟨j, hj, ej, _, ek, e⟩ := bucket_kind V id c
  rw [e]
  have h8 := (V.bkts j hj).2.2
  exact Ev.bind (itemsW_ev (fun k x => impl_Tree_weight.f k D B x) (itemOf D B) B[j].f2 (by omega) (fun _ => rfl) (fun x hx => impl_weight_ev V x (item_kind V j hj x hx).1) B[j].f2.length 0 (by omega)) (impl_choose_ev _ (by rw [List.length_map]; omega) (items_wt V j hj) seed try_)
theorem spec_in_ev {D : List S72} {B : List S68} (V : Valid D B) (id seed try_ : Int) : Ev (fun k => spec_l07In.f k D B id seed try_) (chooseV D B id seed try_) := by
 have hB := V.bkt
 unfold spec_l07In.f chooseV
 refine Ev.bind (specBucket_ev D B id (by omega)) ?_
 by_cases c : bucketAt B id < 0
 ·simp only [if_pos c]
  exact Ev.now _
 ·simp only [if_neg c]
  obtain ⟨j, hj, ej, _, ek, e⟩ := bucket_kind V id c
  rw [e, ej]
  have h8 := (V.bkts j hj).2.2
  refine loop_is B[j].f2.length (fun k (s : List S109) i => spec_l07In.l0 k seed try_ j s i D B) (fun i s => s = (B[j].f2.take i).map (itemOf D B)) _ ?_ ?_ [] rfl
  ·rintro i s hi rfl
   refine .inr ⟨_, rfl, fun r hr => Ev.step (f := ?f) (fun k => ?_) ?_⟩
   rotate_left
   ·simp only [spec_l07In.l0]
    rw [if_pos (by omega), if_pos (by omega), rd_bkt B j hj, if_pos (by omega), if_pos (by omega), rd_get _ i hi, up64 i B[j].f2.length hi (by omega)]
    all_goals exact rfl
   ·refine Ev.bind (spec_weight_ev V _ (item_kind V j hj _ (List.getElem_mem hi)).1) ?_
    simp only [if_pos (show ((B[j].f2.take i).map (itemOf D B)).length < 8796093022208 by rw [List.length_map, List.length_take]; omega)]
    rw [List.take_succ_eq_append_getElem hi, List.map_append] at hr
    exact hr
  ·rintro s rfl
   refine Ev.step (f := ?f3) (fun k => ?_) ?_
   rotate_left
   ·simp only [spec_l07In.l0]
    rw [if_pos (by omega), if_pos (by omega), rd_bkt B j hj, if_neg (by omega), List.take_length]
    all_goals exact rfl
   ·exact Ev.bind (spec_choose_ev _ (by rw [List.length_map]; omega) (items_wt V j hj) seed try_) (Ev.now _)
/-- who is chosen is one of them -/
theorem pick_mem (seed try_ : Int) : ∀ (l : List S109) (s : Int × Int), (l.foldl (pickStep seed try_) s).2 = s.2 ∧ (l.foldl (pickStep seed try_) s).1 = s.1 ∨ ∃ x ∈ l, (l.foldl (pickStep seed try_) s).2 = x.f0
 | [], s => .inl ⟨rfl, rfl⟩
 | x :: xs, s => by
  rw [List.foldl_cons]
  rcases pick_mem seed try_ xs (pickStep seed try_ s x) with ⟨h, h1⟩ | ⟨y, hy, h⟩
  ·rw [h, h1]
   unfold pickStep
   by_cases c : bestOf x seed try_ > s.1
   ·rw [if_pos c]
    exact .inr ⟨x, by simp, rfl⟩
   ·rw [if_neg c]
    exact .inl ⟨rfl, rfl⟩
  ·exact .inr ⟨y, List.mem_cons_of_mem _ hy, h⟩
theorem choose_mem (l : List S109) (seed try_ : Int) (h : (chooseL l seed try_).2 = true) : ∃ x ∈ l, (chooseL l seed try_).1 = x.f0 := by
 have h := of_decide_eq_true h
 rcases pick_mem seed try_ l (-1, 0) with ⟨_, h1⟩ | h2
 ·have e : (pickL l seed try_).1 = (-1 : Int) := h1
  omega
 ·exact h2
theorem chooseV_kind {D : List S72} {B : List S68} (V : Valid D B) (id seed try_ : Int) (h : (chooseV D B id seed try_).2 = true) : 0 ≤ kindAt D B (chooseV D B id seed try_).1 ∧ kindAt D B (chooseV D B id seed try_).1 < kindAt D B id := by
 unfold chooseV at h ⊢
 by_cases c : bucketAt B id < 0
 ·rw [if_pos c] at h
  cases h
 ·rw [if_neg c] at h ⊢
  obtain ⟨j, hj, ej, _, ek, e⟩ := bucket_kind V id c
  rw [e] at h ⊢
  obtain ⟨x, hx, h1⟩ := choose_mem _ seed try_ h
  obtain ⟨y, hy, rfl⟩ := List.mem_map.1 hx
  rw [h1, ek]
  exact item_kind V j hj y hy

/-- the thing of a kind that the choices lead to; an error where there is none -/
def descN (D : List S72) (B : List S68) (kd seed try_ : Int) : Nat → Int → Int × Bool
 | 0, _ => (0, false)
 | n + 1, id => if kindAt D B id = kd then (id, true) else if (chooseV D B id seed try_).2 = true then descN D B kd seed try_ n (chooseV D B id seed try_).1 else (0, false)
theorem spec_desc_ev {D : List S72} {B : List S68} (V : Valid D B) (kd seed try_ : Int) : ∀ (n : Nat) (id : Int), 0 ≤ kindAt D B id → kindAt D B id < n → Ev (fun k => spec_l07Descend.l0 k id kd seed try_ D B) (descN D B kd seed try_ n id)
 | 0, id, h0, h => by omega
 | n + 1, id, h0, h => by
  have hB := V.bkt
  have hD := V.dev
  refine Ev.step (f := ?f) (fun k => ?_) ?_
  rotate_left
  ·simp only [spec_l07Descend.l0]
   exact rfl
  ·refine Ev.bind (specKind_ev D B id (by omega) (by omega)) ?_
   unfold descN
   by_cases c : kindAt D B id = kd
   ·simp only [if_pos c]
    exact Ev.now _
   ·simp only [if_neg c]
    refine Ev.bind (spec_in_ev V id seed try_) ?_
    by_cases c2 : (chooseV D B id seed try_).2 = true
    ·simp only [if_pos c2]
     have := chooseV_kind V id seed try_ c2
     exact spec_desc_ev V kd seed try_ n _ this.1 (by omega)
    ·simp only [if_neg c2]
     exact Ev.now _
theorem impl_desc_ev {D : List S72} {B : List S68} (V : Valid D B) (kd seed try_ : Int) : ∀ (n : Nat) (id : Int), 0 ≤ kindAt D B id → kindAt D B id < n → ∃ p : Int × Bool, Ev (fun k => impl_Tree_descend.l0 k id kd seed try_ true D B) p ∧ p.2 = (descN D B kd seed try_ n id).2 ∧ (p.2 = true → p.1 = (descN D B kd seed try_ n id).1)
 | 0, id, h0, h => by omega
 | n + 1, id, h0, h => by
  have ek : impl_Tree_kindOf.f D B id = some (kindAt D B id) := rfl
  have hstep : ∀ r, Ev (fun k => if kindAt D B id = kd then some (id, true) else ((impl_Tree_chooseIn.f k D B id seed try_).bind fun b => impl_Tree_descend.l0 k b.1 kd seed try_ b.2 D B)) r → Ev (fun k => impl_Tree_descend.l0 k id kd seed try_ true D B) r := fun r hr => Ev.step (fun k => by
   simp only [impl_Tree_descend.l0, ek, Option.bind_some, if_true]) hr
  unfold descN
  by_cases c : kindAt D B id = kd
  ·refine ⟨(id, true), hstep _ ?_, ?_, ?_⟩
   ·simp only [if_pos c]
    exact Ev.now _
   ·simp only [if_pos c]
   ·exact fun _ => by rw [if_pos c]
  ·simp only [if_neg c] at hstep ⊢
   by_cases c2 : (chooseV D B id seed try_).2 = true
   ·simp only [if_pos c2]
    have hk := chooseV_kind V id seed try_ c2
    obtain ⟨p, h1, h2, h3⟩ := impl_desc_ev V kd seed try_ n _ hk.1 (by omega)
    refine ⟨p, hstep _ (Ev.bind (impl_chooseIn_ev V id seed try_) ?_), h2, h3⟩
    simp only [c2]
    exact h1
   ·simp only [if_neg c2]
    have c3 := Bool.eq_false_iff.2 c2
    refine ⟨((chooseV D B id seed try_).1, false), hstep _ (Ev.bind (impl_chooseIn_ev V id seed try_) ?_), rfl, fun h => ?_⟩
    ·simp only [c3]
     exact ev_end (fun k => by simp only [impl_Tree_descend.l0, Bool.false_eq_true, if_false])
    ·cases h
def descV (D : List S72) (B : List S68) (id kd seed try_ : Int) : Int × Bool := if 0 ≤ kindAt D B id then descN D B kd seed try_ 5 id else (0, false)
theorem spec_descend_ev {D : List S72} {B : List S68} (V : Valid D B) (id kd seed try_ : Int) (hk : 0 ≤ kd) : Ev (fun k => spec_l07Descend.f k D B id kd seed try_) (descV D B id kd seed try_) := by
 have h := kindAt_le V id
 have hB := V.bkt
 have hD := V.dev
 unfold spec_l07Descend.f descV
 by_cases c : 0 ≤ kindAt D B id
 ·rw [if_pos c]
  exact spec_desc_ev V kd seed try_ 5 id c (by omega)
 ·rw [if_neg c]
  refine Ev.step (f := ?f) (fun k => ?_) ?_
  rotate_left
  ·simp only [spec_l07Descend.l0]
   exact rfl
  ·refine Ev.bind (specKind_ev D B id (by omega) (by omega)) ?_
   simp only [if_neg (show ¬ kindAt D B id = kd by omega)]
   refine Ev.bind (spec_in_ev V id seed try_) ?_
   have e : chooseV D B id seed try_ = (0, false) := by
    unfold chooseV
    rw [if_pos (kind_neg V id (by omega))]
   simp only [e, Bool.false_eq_true, if_false]
   exact Ev.now _
theorem impl_descend_ev {D : List S72} {B : List S68} (V : Valid D B) (id kd seed try_ : Int) : ∃ p : Int × Bool, Ev (fun k => impl_Tree_descend.f k D B id kd seed try_) p ∧ p.2 = (descV D B id kd seed try_).2 ∧ (p.2 = true → p.1 = (descV D B id kd seed try_).1) := by
 have h := kindAt_le V id
 have ek : impl_Tree_kindOf.f D B id = some (kindAt D B id) := rfl
 unfold impl_Tree_descend.f descV
 simp only [ek, Option.bind_some]
 by_cases c : 0 ≤ kindAt D B id
 ·rw [if_pos c, decide_eq_true (show kindAt D B id ≥ 0 from c)]
  exact impl_desc_ev V kd seed try_ 5 id c (by omega)
 ·rw [if_neg c, decide_eq_false (show ¬ kindAt D B id ≥ 0 by omega)]
  exact ⟨(id, false), ev_end (fun k => by simp only [impl_Tree_descend.l0, Bool.false_eq_true, if_false]), rfl, fun h => by cases h⟩
theorem descN_kind {D : List S72} {B : List S68} (kd seed try_ : Int) : ∀ (n : Nat) (id : Int), (descN D B kd seed try_ n id).2 = true → kindAt D B (descN D B kd seed try_ n id).1 = kd
 | 0, id, h => by cases h
 | n + 1, id, h => by
  unfold descN at h ⊢
  by_cases c : kindAt D B id = kd
  ·rw [if_pos c]; exact c
  ·rw [if_neg c] at h ⊢
   by_cases c2 : (chooseV D B id seed try_).2 = true
   ·rw [if_pos c2] at h ⊢
    exact descN_kind kd seed try_ n _ h
   ·rw [if_neg c2] at h; cases h
theorem descV_kind {D : List S72} {B : List S68} (id kd seed try_ : Int) (h : (descV D B id kd seed try_).2 = true) : kindAt D B (descV D B id kd seed try_).1 = kd := by
 unfold descV at h ⊢
 by_cases c : 0 ≤ kindAt D B id
 ·rw [if_pos c] at h ⊢
  exact descN_kind kd seed try_ 5 id h
 ·rw [if_neg c] at h; cases h
/-- what has the kind of a device is one -/
theorem dev_of_kind {D : List S72} {B : List S68} (V : Valid D B) (x : Int) (h : kindAt D B x = 0) : 0 ≤ devAt D x := by
 by_cases c : 0 ≤ devAt D x
 ·exact c
 ·exfalso
  have e : kindAt D B x = if bucketAt B x < 0 then -1 else (rd_T68 B (bucketAt B x)).f1 := if_neg c
  rcases bucketAt_hit B x with hb | ⟨n, hn, hb, hx⟩
  ·rw [e, if_pos (by omega)] at h
   omega
  ·have e2 := kindAt_own V n hn
   rw [hx] at e2
   have := (V.bkts n hn).2.1
   omega

section
variable {D : List S72} {B : List S68}
/-- a place does not stand against a device at another place -/
def freeAt (B : List S68) (kd : Int) (L : List Int) (a : Nat) (x : Int) (i : Nat) : Bool := decide (i = a) || decide (rd L i < 0) || (!decide (rd L i = x) && !decide (domN B kd (rd L i) = domN B kd x))
def freeV (B : List S68) (kd : Int) (L : List Int) (a : Nat) (x : Int) : Bool := (List.range L.length).all (freeAt B kd L a x)
theorem spec_free_ev (V : Valid D B) (kd : Int) (L : List Int) (hL : L.length ≤ 1048576) (a : Nat) (x : Int) : Ev (fun k => spec_l08Free.f k D B kd L a x) (freeV B kd L a x) := by
 unfold spec_l08Free.f freeV
 have hu : ∀ (i : Nat), i < L.length → ∀ r, Ev (fun k => if freeAt B kd L a x i = true then spec_l08Free.l0 k kd L a x ((i + 1 : Nat) : Int) D B else some false) r → Ev (fun k => spec_l08Free.l0 k kd L a x i D B) r := fun i hi r hr => by
  refine Ev.step (f := ?f) (fun k => ?_) ?_
  rotate_left
  ·simp only [spec_l08Free.l0]
   rw [if_pos (by omega), up64 i L.length hi (by omega), if_pos (show (0 : Int) ≤ (i : Int) by omega)]
   try exact rfl
  ·unfold freeAt at hr
   by_cases c1 : i = a
   ·simp only [c1, decide_true, Bool.true_or, if_true] at hr ⊢
    exact hr
   ·simp only [if_neg (show ¬ (i : Int) = (a : Int) by omega)]
    by_cases c2 : rd L i < 0
    ·simp only [if_neg (show ¬ rd L i ≥ 0 by omega)]
     simp only [c1, c2, decide_true, Bool.true_or, Bool.or_true, if_true] at hr
     exact hr
    ·simp only [if_pos (show rd L i ≥ 0 by omega)]
     by_cases c3 : rd L i = x
     ·simp only [if_pos c3]
      simp only [decide_eq_false c1, decide_eq_false c2, decide_eq_true c3, Bool.false_or, Bool.not_true, Bool.false_and, Bool.false_eq_true, if_false] at hr
      exact hr
     ·simp only [if_neg c3]
      refine Ev.bind (spec_domain V kd _) (Ev.bind (spec_domain V kd x) ?_)
      by_cases c4 : domN B kd (rd L i) = domN B kd x
      ·simp only [if_pos c4]
       simp only [decide_eq_false c1, decide_eq_false c2, decide_eq_true c4, Bool.false_or, Bool.not_true, Bool.and_false, Bool.false_eq_true, if_false] at hr
       exact hr
      ·simp only [if_neg c4]
       simp only [decide_eq_false c1, decide_eq_false c2, decide_eq_false c3, decide_eq_false c4, Bool.false_or, Bool.not_false, Bool.and_true, if_true] at hr
       exact hr
 exact all_loop L.length (fun k i => spec_l08Free.l0 k kd L a x i D B) (freeAt B kd L a x) (fun i hi hc r hr => hu i hi r (by simp only [hc, if_true]; exact hr)) (fun i hi hc => hu i hi _ (by simp only [hc, Bool.false_eq_true, if_false]; exact Ev.now _)) (fun k => by simp only [spec_l08Free.l0]; rw [if_neg (by omega)])
/-- places hold devices, or nothing -/
def DevL (D : List S72) (L : List Int) : Prop := ∀ y ∈ L, 0 ≤ y → 0 ≤ devAt D y
theorem dom_dev (kd y : Int) (h : 0 ≤ devAt D y) : (domP D B kd y).1 = domN B kd y := by
 unfold domP domN
 rw [if_neg (by omega)]
 by_cases c : kd = 0 <;> simp [c]
theorem conflict_ev (V : Valid D B) (kd : Int) (L : List Int) (hL : L.length ≤ 1048576) (hd : DevL D L) (a : Nat) (x : Int) (hx : 0 ≤ devAt D x) : Ev (fun k => impl_Tree_conflict.f k D B kd L a x) (!freeV B kd L a x) := by
 have hx0 := dom_dev (B := B) kd x hx
 have hu : ∀ (i : Nat), i < L.length → ∀ r, Ev (fun k => if freeAt B kd L a x i = true then impl_Tree_conflict.l0 k kd a x (domN B kd x) L L.length ((i + 1 : Nat) : Int) D B else some true) r → Ev (fun k => impl_Tree_conflict.l0 k kd a x (domN B kd x) L L.length i D B) r := fun i hi r hr => by
  have hj : ∀ b : Bool, b = (decide (i = a) || decide (rd L i < 0)) → Ev (fun k => impl_Tree_conflict.j1 k kd a x (domN B kd x) (rd L i) L L.length i b D B) r := fun b hb => by
   refine Ev.step (f := ?f) (fun k => ?_) ?_
   rotate_left
   ·simp only [impl_Tree_conflict.j1]
    rw [up64 i L.length hi (by omega)]
    try exact rfl
   ·unfold freeAt at hr
    cases b with
    | true =>
     rw [← hb] at hr
     simp only [Bool.true_or, if_true] at hr ⊢
     exact hr
    | false =>
     rw [← hb] at hr
     have c2 : ¬ rd L i < 0 := fun h => by rw [decide_eq_true h] at hb; simp at hb
     simp only [Bool.false_or, Bool.false_eq_true, if_false] at hr ⊢
     have hy := hd (rd L i) (by rw [rd_get L i hi]; exact List.getElem_mem hi) (by omega)
     refine Ev.bind (impl_domain V kd _) ?_
     rw [dom_dev kd _ hy]
     by_cases c3 : rd L i = x
     ·simp only [if_pos c3]
      simp only [c3, decide_true, Bool.not_true, Bool.false_and, Bool.false_eq_true, if_false] at hr
      exact hr
     ·simp only [if_neg c3]
      by_cases c4 : domN B kd (rd L i) = domN B kd x
      ·simp only [if_pos c4]
       simp only [c3, c4, decide_true, decide_false, Bool.not_true, Bool.and_false, Bool.false_eq_true, if_false] at hr
       exact hr
      ·simp only [if_neg c4]
       simp only [c3, c4, decide_false, Bool.not_false, Bool.and_true, if_true] at hr
       exact hr
  refine Ev.step (f := ?g) (fun k => ?_) ?_
  rotate_left
  ·simp only [impl_Tree_conflict.l0]
   rw [if_pos (by omega), if_pos (by omega), if_pos (by omega)]
   try exact rfl
  ·by_cases c1 : i = a
   ·simp only [if_pos (show (i : Int) = (a : Int) by omega)]
    exact hj true (by simp [c1])
   ·simp only [if_neg (show ¬ (i : Int) = (a : Int) by omega)]
    exact hj _ (by simp [c1])
 unfold impl_Tree_conflict.f freeV
 refine Ev.bind (impl_domain V kd x) ?_
 rw [hx0]
 have h2 : ∀ (d i : Nat), i + d = L.length → Ev (fun k => impl_Tree_conflict.l0 k kd a x (domN B kd x) L L.length i D B) (!(List.range' i d).all (freeAt B kd L a x)) := by
  intro d
  induction d with
  | zero =>
   intro i hi
   obtain rfl : i = L.length := by omega
   refine ev_end (fun k => ?_)
   simp only [impl_Tree_conflict.l0]
   rw [if_neg (by omega)]
   rfl
  | succ d ih =>
   intro i hi
   refine hu i (by omega) _ ?_
   rw [List.range'_succ, List.all_cons]
   cases hf : freeAt B kd L a x i with
   | true =>
    simp only [if_true, Bool.true_and]
    exact ih (i + 1) (by omega)
   | false =>
    simp only [Bool.false_eq_true, if_false, Bool.false_and, Bool.not_false]
    exact Ev.now _
 have := h2 L.length 0 (by omega)
 rw [← List.range_eq_range'] at this
 exact this
/-- the device that is found for a place, try by try; -1 of none -/
def findV (D : List S72) (B : List S68) (root kd seed : Int) (fr : Int → Bool) (a : Nat) (out : List Int) : Nat → Nat → Int
 | 0, _ => -1
 | n + 1, t => if (descV D B root kd seed ((t * 7 + a : Nat) : Int)).2 = true then (if (descV D B (descV D B root kd seed ((t * 7 + a : Nat) : Int)).1 0 seed ((t * 7 + a : Nat) : Int)).2 = true ∧ (out.any fun y => y == (descV D B (descV D B root kd seed ((t * 7 + a : Nat) : Int)).1 0 seed ((t * 7 + a : Nat) : Int)).1) = false ∧ fr (descV D B (descV D B root kd seed ((t * 7 + a : Nat) : Int)).1 0 seed ((t * 7 + a : Nat) : Int)).1 = true then (descV D B (descV D B root kd seed ((t * 7 + a : Nat) : Int)).1 0 seed ((t * 7 + a : Nat) : Int)).1 else findV D B root kd seed fr a out n (t + 1)) else -1
theorem findV_dev (V : Valid D B) (root kd seed : Int) (fr : Int → Bool) (a : Nat) (out : List Int) : ∀ n t, findV D B root kd seed fr a out n t = -1 ∨ (0 ≤ devAt D (findV D B root kd seed fr a out n t) ∧ fr (findV D B root kd seed fr a out n t) = true ∧ (out.any fun y => y == findV D B root kd seed fr a out n t) = false)
 | 0, t => .inl rfl
 | n + 1, t => by
  unfold findV
  generalize ((t * 7 + a : Nat) : Int) = m
  by_cases c : (descV D B root kd seed m).2 = true
  ·rw [if_pos c]
   by_cases c2 : (descV D B (descV D B root kd seed m).1 0 seed m).2 = true ∧ (out.any fun y => y == (descV D B (descV D B root kd seed m).1 0 seed m).1) = false ∧ fr (descV D B (descV D B root kd seed m).1 0 seed m).1 = true
   ·rw [if_pos c2]
    exact .inr ⟨dev_of_kind V _ (descV_kind _ _ _ _ c2.1), c2.2.2, c2.2.1⟩
   ·rw [if_neg c2]
    exact findV_dev V root kd seed fr a out n (t + 1)
  ·rw [if_neg c]; exact .inl rfl
theorem num64 (t a : Nat) (ht : t < 30) (ha : a ≤ 7) : wrap64 (wrap64 ((t : Int) * 7) + (a : Int)) = ((t * 7 + a : Nat) : Int) := by unfold wrap64; omega
theorem spec_find_ev (V : Valid D B) (n root kd seed : Int) (b : Bool) (hk : 0 ≤ kd) (L out : List Int) (hL : L.length ≤ 1048576) (ho : out.length ≤ 1048576) (a : Nat) (ha : a ≤ 7) : ∀ (d t : Nat), t + d = 30 → Ev (fun k => spec_l08Find.l0 k seed L a out t D B n root kd b) (findV D B root kd seed (freeV B kd L a) a out d t)
 | 0, t, h => ev_end (fun k => by simp only [spec_l08Find.l0, findV]; rw [if_neg (by omega)])
 | d + 1, t, h => by
  have ih := spec_find_ev V n root kd seed b hk L out hL ho a ha d (t + 1) (by omega)
  refine Ev.step (f := ?f) (fun k => ?_) ?_
  rotate_left
  ·simp only [spec_l08Find.l0]
   rw [if_pos (by omega), num64 t a (by omega) ha, show wrap64 ((t : Int) + 1) = ((t + 1 : Nat) : Int) from by unfold wrap64; omega]
   try exact rfl
  ·unfold findV
   generalize ((t * 7 + a : Nat) : Int) = m
   refine Ev.bind (spec_descend_ev V root kd seed m hk) ?_
   by_cases c : (descV D B root kd seed m).2 = true
   ·simp only [if_pos c]
    refine Ev.bind (spec_descend_ev V _ 0 seed m (by omega)) ?_
    generalize descV D B (descV D B root kd seed m).1 0 seed m = q
    by_cases c2 : q.2 = true
    ·simp only [if_pos c2]
     refine Ev.bind (has_ev out q.1 (by omega)) ?_
     cases c3 : out.any fun y => y == q.1 with
     | true =>
      simp only [if_true, c2, Bool.true_eq_false, false_and, and_false, if_false]
      exact ih
     | false =>
      simp only [Bool.false_eq_true, if_false]
      refine Ev.bind (spec_free_ev V kd L hL a q.1) ?_
      by_cases c4 : freeV B kd L a q.1 = true
      ·simp only [c4, c2, if_true, and_self]
       exact Ev.now _
      ·have c5 := Bool.eq_false_iff.2 c4
       simp only [c5, Bool.false_eq_true, if_false, and_false]
       exact ih
    ·simp only [if_neg c2, c2, false_and, if_false]
     exact ih
   ·simp only [if_neg c]
    exact Ev.now _
theorem search_ev (V : Valid D B) (n root kd seed : Int) (b : Bool) (L out : List Int) (hL : L.length ≤ 1048576) (hd : DevL D L) (ho : out.length ≤ 1048576) (a : Nat) (ha : a ≤ 7) : ∀ (d t : Nat), t + d = 30 → Ev (fun k => impl_Tree_search.l0 k seed L a out t D B n root kd b) (findV D B root kd seed (freeV B kd L a) a out d t)
 | 0, t, h => ev_end (fun k => by simp only [impl_Tree_search.l0, findV]; rw [if_neg (by omega)])
 | d + 1, t, h => by
  have ih := search_ev V n root kd seed b L out hL hd ho a ha d (t + 1) (by omega)
  refine Ev.step (f := ?f) (fun k => ?_) ?_
  rotate_left
  ·simp only [impl_Tree_search.l0]
   rw [if_pos (by omega), num64 t a (by omega) ha, show wrap64 ((t : Int) + 1) = ((t + 1 : Nat) : Int) from by unfold wrap64; omega]
   try exact rfl
  ·unfold findV
   generalize ((t * 7 + a : Nat) : Int) = m
   obtain ⟨p, h1, h2, h3⟩ := impl_descend_ev V root kd seed m
   refine Ev.bind h1 ?_
   rw [← h2]
   by_cases c : p.2 = true
   ·simp only [if_pos c]
    rw [← h3 c]
    obtain ⟨q, g1, g2, g3⟩ := impl_descend_ev V p.1 0 seed m
    refine Ev.bind g1 ?_
    rw [← g2]
    by_cases c2 : q.2 = true
    ·simp only [if_pos c2]
     have hq := descV_kind (D := D) (B := B) p.1 0 seed m (by rw [← g2]; exact c2)
     rw [← g3 c2] at hq ⊢
     have hqd := dev_of_kind V _ hq
     refine Ev.bind (idx64_ev out q.1 (by omega)) ?_
     cases c3 : out.any fun y => y == q.1 with
     | true =>
      simp only [if_true, c2, Bool.true_eq_false, false_and, and_false, if_false]
      exact ih
     | false =>
      simp only [Bool.false_eq_true, if_false]
      refine Ev.bind (conflict_ev V kd L hL hd a q.1 hqd) ?_
      cases c4 : freeV B kd L a q.1 with
      | true =>
       simp only [Bool.not_true, Bool.false_eq_true, if_false, c2, and_self, if_true]
       exact Ev.now _
      | false =>
       simp only [Bool.not_false, if_true, Bool.false_eq_true, and_false, if_false]
       exact ih
    ·simp only [if_neg c2, c2, false_and, if_false]
     exact ih
   ·simp only [if_neg c]
    exact Ev.now _
/-- the first places, as if all devices were in -/
def wholeV (D : List S72) (B : List S68) (root kd seed : Int) : Nat → List Int
 | 0 => []
 | i + 1 => wholeV D B root kd seed i ++ [findV D B root kd seed (freeV B kd (wholeV D B root kd seed i) i) i [] 30 0]
theorem whole_len (root kd seed : Int) : ∀ i, (wholeV D B root kd seed i).length = i
 | 0 => rfl
 | i + 1 => by simp [wholeV, whole_len root kd seed i]
theorem whole_dev (V : Valid D B) (root kd seed : Int) : ∀ i, DevL D (wholeV D B root kd seed i)
 | 0 => fun y h => by cases h
 | i + 1 => fun y h h0 => by
  simp only [wholeV, List.mem_append, List.mem_singleton] at h
  rcases h with h | h
  ·exact whole_dev V root kd seed i y h h0
  ·rcases findV_dev V root kd seed (freeV B kd (wholeV D B root kd seed i) i) i [] 30 0 with e | ⟨e, _⟩
   ·omega
   ·rw [h]; exact e
theorem spec_whole_ev (V : Valid D B) (n root kd seed : Int) (b : Bool) (hk : 0 ≤ kd) (N : Nat) (hN : N ≤ 7) : Ev (fun k => spec_l08Whole.f k D B n root kd b seed N) (wholeV D B root kd seed N) := by
 unfold spec_l08Whole.f
 refine loop_is N (fun k (s : List Int) i => spec_l08Whole.l0 k seed N s i D B n root kd b) (fun i s => s = wholeV D B root kd seed i) _ ?_ ?_ [] rfl
 ·rintro i s hi rfl
  have hl := whole_len (D := D) (B := B) root kd seed i
  refine .inr ⟨_, rfl, fun r hr => Ev.step (f := ?f) (fun k => ?_) ?_⟩
  rotate_left
  ·simp only [spec_l08Whole.l0]
   rw [if_pos (by omega), up64 i N hi (by omega)]
   try exact rfl
  ·refine Ev.bind (show Ev (fun k => spec_l08Find.f k D B n root kd b seed (wholeV D B root kd seed i) i []) _ from spec_find_ev V n root kd seed b hk (wholeV D B root kd seed i) [] (by omega) (Nat.zero_le _) i (by omega) 30 0 rfl) ?_
   simp only [if_pos (show (wholeV D B root kd seed i).length < 17592186044416 by omega)]
   exact hr
 ·rintro s rfl
  refine ev_end (fun k => ?_)
  simp only [spec_l08Whole.l0]
  rw [if_neg (by omega)]
/-- places that follow and hold nothing change nothing -/
theorem free_fill (kd : Int) (L : List Int) (m : Nat) : freeV B kd (L ++ List.replicate m (-1)) L.length = freeV B kd L L.length := by
 funext x
 unfold freeV
 rw [List.length_append, List.length_replicate]
 rw [Bool.eq_iff_iff]
 simp only [List.all_eq_true, List.mem_range]
 have hrd : ∀ i, i < L.length → rd (L ++ List.replicate m (-1)) (i : Int) = rd L (i : Int) := fun i hi => by
  unfold rd
  rw [Int.toNat_natCast, List.getD_eq_getElem?_getD, List.getElem?_append_left hi, ← List.getD_eq_getElem?_getD]
 constructor
 ·intro h i hi
  have := h i (by omega)
  unfold freeAt at this ⊢
  rw [hrd i hi] at this
  exact this
 ·intro h i hi
  by_cases c : i < L.length
  ·have := h i c
   unfold freeAt at this ⊢
   rw [hrd i c]
   exact this
  ·have e : rd (L ++ List.replicate m (-1)) (i : Int) = -1 := by
    unfold rd
    rw [Int.toNat_natCast, List.getD_eq_getElem?_getD, List.getElem?_append_right (by omega), List.getElem?_replicate, if_pos (by omega)]
    rfl
   unfold freeAt
   rw [e]
   simp
theorem empty_ev (N : Nat) (hN : N ≤ 7) : impl_emptyPlaces.f (N : Int) = some (List.replicate N (-1)) := by
 have h : bits_Mul.f 1 (N : Int) = some (0, (N : Int)) := by
  have : N = 0 ∨ N = 1 ∨ N = 2 ∨ N = 3 ∨ N = 4 ∨ N = 5 ∨ N = 6 ∨ N = 7 := by omega
  rcases this with rfl | rfl | rfl | rfl | rfl | rfl | rfl | rfl <;> decide +kernel
 unfold impl_emptyPlaces.f slices_Repeat_int64_int64.f
 rw [if_pos ⟨rfl, by omega, by omega, h⟩]
 rfl
theorem impl_whole_ev (V : Valid D B) (n root kd seed : Int) (b : Bool) (N : Nat) (hN : N ≤ 7) : Ev (fun k => impl_Tree_placeWhole.f k D B n root kd b seed N) (wholeV D B root kd seed N) := by
 unfold impl_Tree_placeWhole.f
 simp only [empty_ev N hN, Option.bind_some]
 refine loop_is N (fun k (s : List Int) i => impl_Tree_placeWhole.l0 k seed s N i D B n root kd b) (fun i s => s = wholeV D B root kd seed i ++ List.replicate (N - i) (-1)) _ ?_ ?_ _ (by simp [wholeV])
 ·rintro i s hi rfl
  have hl := whole_len (D := D) (B := B) root kd seed i
  have hlen : (wholeV D B root kd seed i ++ List.replicate (N - i) (-1)).length = N := by rw [List.length_append, hl, List.length_replicate]; omega
  have hdev : DevL D (wholeV D B root kd seed i ++ List.replicate (N - i) (-1)) := fun y hy h0 => by
   rcases List.mem_append.1 hy with h | h
   ·exact whole_dev V root kd seed i y h h0
   ·have := List.eq_of_mem_replicate h
    omega
  refine .inr ⟨_, rfl, fun r hr => Ev.step (f := ?f) (fun k => ?_) ?_⟩
  rotate_left
  ·simp only [impl_Tree_placeWhole.l0]
   rw [if_pos (by omega), up64 i N hi (by omega)]
  ·refine Ev.bind (show Ev (fun k => impl_Tree_search.f k D B n root kd b seed (wholeV D B root kd seed i ++ List.replicate (N - i) (-1)) i []) _ from search_ev V n root kd seed b _ [] (by omega) hdev (Nat.zero_le _) i (by omega) 30 0 rfl) ?_
   simp only [if_pos (show (0 : Int) ≤ (i : Int) by omega), if_pos (show (i : Int) < ((wholeV D B root kd seed i ++ List.replicate (N - i) (-1)).length : Int) by omega), Int.toNat_natCast]
   have e : freeV B kd (wholeV D B root kd seed i ++ List.replicate (N - i) (-1)) i = freeV B kd (wholeV D B root kd seed i) i := by
    have := free_fill (B := B) kd (wholeV D B root kd seed i) (N - i)
    rwa [hl] at this
   rw [e]
   have e2 : (wholeV D B root kd seed i ++ List.replicate (N - i) (-1)).set i (findV D B root kd seed (freeV B kd (wholeV D B root kd seed i) i) i [] 30 0) = wholeV D B root kd seed (i + 1) ++ List.replicate (N - (i + 1)) (-1) := by
    obtain ⟨m, hm⟩ : ∃ m, N - i = m + 1 := ⟨N - i - 1, by omega⟩
    rw [hm, show N - (i + 1) = m by omega, List.replicate_succ, List.set_append_right (h := by omega), hl, Nat.sub_self, List.set_cons_zero]
    simp [wholeV]
   rw [e2]
   exact hr
 ·rintro s rfl
  refine ev_end (fun k => ?_)
  simp only [impl_Tree_placeWhole.l0]
  rw [if_neg (by omega), Nat.sub_self]
  simp
end

section
variable {D : List S72} {B : List S68}
/-- the devices that are out, found anew place by place -/
def insteadV (D : List S72) (B : List S68) (root kd seed : Int) (out : List Int) : Nat → Nat → List Int → List Int
 | 0, _, L => L
 | d + 1, a, L => if (out.any fun y => y == rd L a) = true then insteadV D B root kd seed out d (a + 1) (L.set a (findV D B root kd seed (freeV B kd L a) a out 30 0)) else insteadV D B root kd seed out d (a + 1) L
theorem dev_set (V : Valid D B) (root kd seed : Int) (fr : Int → Bool) (out : List Int) (a : Nat) (L : List Int) (h : DevL D L) : DevL D (L.set a (findV D B root kd seed fr a out 30 0)) := fun y hy h0 => by
 rcases List.mem_or_eq_of_mem_set hy with h1 | h1
 ·exact h y h1 h0
 ·rcases findV_dev V root kd seed fr a out 30 0 with e | ⟨e, _⟩
  ·omega
  ·rw [h1]; exact e
theorem instead_len (root kd seed : Int) (out : List Int) : ∀ (d a : Nat) (L : List Int), (insteadV D B root kd seed out d a L).length = L.length
 | 0, a, L => rfl
 | d + 1, a, L => by
  unfold insteadV
  by_cases c : (out.any fun y => y == rd L a) = true
  ·rw [if_pos c, instead_len root kd seed out d (a + 1), List.length_set]
  ·rw [if_neg c, instead_len root kd seed out d (a + 1)]
theorem spec_instead_ev (V : Valid D B) (n root kd seed : Int) (b : Bool) (hk : 0 ≤ kd) (out : List Int) (ho : out.length ≤ 1048576) (hp : ∀ y ∈ out, 0 ≤ y) : ∀ (d a : Nat) (L : List Int), a + d = L.length → L.length ≤ 7 → Ev (fun k => spec_l08Instead.l0 k seed L out a D B n root kd b) (insteadV D B root kd seed out d a L)
 | 0, a, L, h, h7 => ev_end (fun k => by simp only [spec_l08Instead.l0, insteadV]; rw [if_neg (by omega)])
 | d + 1, a, L, h, h7 => by
  refine Ev.step (f := ?f) (fun k => ?_) ?_
  rotate_left
  ·simp only [spec_l08Instead.l0]
   rw [if_pos (by omega), if_pos (show (0 : Int) ≤ (a : Int) by omega), up64 a L.length (by omega) (by omega), Int.toNat_natCast]
  ·unfold insteadV
   by_cases c : rd L a ≥ 0
   ·simp only [if_pos c]
    refine Ev.bind (has_ev out (rd L a) (by omega)) ?_
    by_cases c2 : (out.any fun y => y == rd L a) = true
    ·simp only [if_pos c2]
     refine Ev.bind (show Ev (fun k => spec_l08Find.f k D B n root kd b seed L a out) _ from spec_find_ev V n root kd seed b hk L out (by omega) ho a (by omega) 30 0 rfl) ?_
     exact spec_instead_ev V n root kd seed b hk out ho hp d (a + 1) _ (by rw [List.length_set]; omega) (by rw [List.length_set]; exact h7)
    ·simp only [if_neg c2]
     exact spec_instead_ev V n root kd seed b hk out ho hp d (a + 1) L (by omega) h7
   ·simp only [if_neg c]
    have c2 : ¬ (out.any fun y => y == rd L a) = true := fun h2 => by
     obtain ⟨y, hy, e⟩ := List.any_eq_true.1 h2
     have := hp y hy
     have e2 : y = rd L a := by simpa using e
     omega
    rw [if_neg c2]
    exact spec_instead_ev V n root kd seed b hk out ho hp d (a + 1) L (by omega) h7
theorem impl_instead_ev (V : Valid D B) (n root kd seed : Int) (b : Bool) (out : List Int) (ho : out.length ≤ 1048576) : ∀ (d a : Nat) (L : List Int), a + d = L.length → L.length ≤ 7 → DevL D L → Ev (fun k => insteadL (fun x => slices_Contains_int64_int64.f k out x) (fun L a => impl_Tree_search.f k D B n root kd b seed L (a : Int) out) d a L) (insteadV D B root kd seed out d a L)
 | 0, a, L, h, h7, hd => Ev.now _
 | d + 1, a, L, h, h7, hd => by
  simp only [insteadL]
  unfold insteadV
  refine Ev.bind (idx64_ev out (rd L a) (by omega)) ?_
  by_cases c2 : (out.any fun y => y == rd L a) = true
  ·simp only [if_pos c2]
   refine Ev.bind (show Ev (fun k => impl_Tree_search.f k D B n root kd b seed L a out) _ from search_ev V n root kd seed b L out (by omega) hd ho a (by omega) 30 0 rfl) ?_
   exact impl_instead_ev V n root kd seed b out ho d (a + 1) _ (by rw [List.length_set]; omega) (by rw [List.length_set]; exact h7) (dev_set V root kd seed _ out a L hd)
  ·simp only [if_neg c2]
   exact impl_instead_ev V n root kd seed b out ho d (a + 1) L (by omega) h7 hd
/-- what was found ahead, then holes -/
def frontV (L : List Int) : List Int := (L.filter fun x => !decide (x < 0)) ++ List.replicate (L.length - (L.filter fun x => !decide (x < 0)).length) (-1)
theorem front_fill (L : List Int) (h7 : L.length ≤ 7) : ∀ (d : Nat) (S : List Int), S.length + d = L.length → Ev (fun k => spec_l08Front.l1 k L S) (S ++ List.replicate d (-1))
 | 0, S, h => ev_end (fun k => by
  simp only [spec_l08Front.l1]
  rw [if_neg (by omega)]
  simp)
 | d + 1, S, h => by
  refine Ev.step (f := ?f) (fun k => ?_) ?_
  rotate_left
  ·simp only [spec_l08Front.l1]
   rw [if_pos (by omega), if_pos (by omega)]
  ·have := front_fill L h7 d (S ++ [-1]) (by simp; omega)
   rw [List.append_assoc] at this
   exact this
theorem spec_front_ev (L : List Int) (h7 : L.length ≤ 7) : Ev (fun k => spec_l08Front.f k L) (frontV L) := by
 unfold spec_l08Front.f
 have hlen : (L.filter fun x => !decide (x < 0)).length ≤ L.length := List.length_filter_le _ _
 refine loop_is L.length (fun k (s : List Int) i => spec_l08Front.l0 k L s i) (fun i s => s = (L.take i).filter fun x => !decide (x < 0)) _ ?_ ?_ [] rfl
 ·rintro i s hi rfl
  have hsl : ((L.take i).filter fun x => !decide (x < 0)).length ≤ 7 := by
   have h1 := List.length_filter_le (fun x => !decide (x < 0)) (L.take i)
   rw [List.length_take] at h1
   omega
  refine .inr ⟨_, rfl, fun r hr => Ev.step (f := ?f) (fun k => ?_) ?_⟩
  rotate_left
  ·simp only [spec_l08Front.l0]
   rw [if_pos (by omega), if_pos (show (0 : Int) ≤ (i : Int) by omega), rd_get L i hi, up64 i L.length hi (by omega)]
  ·rw [List.take_succ_eq_append_getElem hi, List.filter_append] at hr
   by_cases c : L[i] ≥ 0
   ·simp only [if_pos c, if_pos (show ((L.take i).filter fun x => !decide (x < 0)).length < 17592186044416 by omega)]
    rw [List.filter_cons_of_pos (by simp; omega)] at hr
    exact hr
   ·simp only [if_neg c]
    rw [List.filter_cons_of_neg (by simp; omega), List.filter_nil, List.append_nil] at hr
    exact hr
 ·rintro s rfl
  refine Ev.step (f := ?g) (fun k => ?_) ?_
  rotate_left
  ·simp only [spec_l08Front.l0]
   rw [if_neg (by omega), List.take_length]
  ·exact front_fill L h7 _ _ (by omega)
theorem front_eq (L : List Int) : frontL (List.replicate L.length (-1)) (L.filter fun x => !decide (x < 0)) = frontV L := by
 have hlen : (L.filter fun x => !decide (x < 0)).length ≤ L.length := List.length_filter_le _ _
 unfold frontL frontV
 rw [List.length_replicate, Nat.min_eq_left hlen, List.take_length, List.drop_replicate]
/-- a placement without some devices -/
def placeV (D : List S72) (B : List S68) (root kd seed : Int) (N : Nat) (b : Bool) (out : List Int) : List Int := if b = true then insteadV D B root kd seed out N 0 (wholeV D B root kd seed N) else frontV (insteadV D B root kd seed out N 0 (wholeV D B root kd seed N))
theorem place_len (root kd seed : Int) (N : Nat) (b : Bool) (out : List Int) : (placeV D B root kd seed N b out).length = N := by
 have h1 := instead_len (D := D) (B := B) root kd seed out N 0 (wholeV D B root kd seed N)
 rw [whole_len] at h1
 unfold placeV
 by_cases c : b = true
 ·rw [if_pos c, h1]
 ·rw [if_neg c]
  unfold frontV
  have hlen := List.length_filter_le (fun x => !decide (x < 0)) (insteadV D B root kd seed out N 0 (wholeV D B root kd seed N))
  rw [List.length_append, List.length_replicate]
  omega
theorem spec_place_ev (V : Valid D B) (n root kd seed : Int) (b : Bool) (hk : 0 ≤ kd) (out : List Int) (ho : out.length ≤ 1048576) (hp : ∀ y ∈ out, 0 ≤ y) (N : Nat) (hN : N ≤ 7) : Ev (fun k => spec_l08Place.f k D B n root kd b seed N out) (placeV D B root kd seed N b out) := by
 unfold spec_l08Place.f placeV
 have hl := whole_len (D := D) (B := B) root kd seed N
 have h1 := instead_len (D := D) (B := B) root kd seed out N 0 (wholeV D B root kd seed N)
 refine Ev.bind (spec_whole_ev V n root kd seed b hk N hN) ?_
 refine Ev.bind (show Ev (fun k => spec_l08Instead.f k D B n root kd b seed (wholeV D B root kd seed N) out) (insteadV D B root kd seed out N 0 (wholeV D B root kd seed N)) from ?_) ?_
 ·unfold spec_l08Instead.f spec_l00Own.f
  simp only [Option.bind_some, List.length_nil, List.nil_append, if_pos (show 0 + (wholeV D B root kd seed N).length < 17592186044416 by omega)]
  exact spec_instead_ev V n root kd seed b hk out ho hp N 0 _ (by omega) (by omega)
 ·by_cases c : b = true
  ·simp only [if_pos c]
   exact Ev.now _
  ·simp only [if_neg c]
   exact Ev.bind (spec_front_ev _ (by omega)) (Ev.now _)
theorem impl_place_ev (V : Valid D B) (n root kd seed : Int) (b : Bool) (out : List Int) (ho : out.length ≤ 1048576) (N : Nat) (hN : N ≤ 7) : Ev (fun k => impl_Tree_place.f k D B n root kd b seed N out) (placeV D B root kd seed N b out) := by
 have hl := whole_len (D := D) (B := B) root kd seed N
 have h1 := instead_len (D := D) (B := B) root kd seed out N 0 (wholeV D B root kd seed N)
 unfold impl_Tree_place.f placeV
 simp only [if_pos (show (0 : Int) ≤ (N : Int) ∧ (N : Int) ≤ 7 by omega), Int.toNat_natCast]
 refine Ev.bind (impl_whole_ev V n root kd seed b N hN) ?_
 simp only [if_pos hl]
 refine Ev.bind (impl_instead_ev V n root kd seed b out ho N 0 _ (by omega) (by omega) (whole_dev V root kd seed N)) ?_
 by_cases c : b = true
 ·simp only [if_pos c]
  exact Ev.now _
 ·simp only [if_neg c, empty_ev N hN, Option.bind_some]
  have e := front_eq (insteadV D B root kd seed out N 0 (wholeV D B root kd seed N))
  rw [h1, hl] at e
  rw [e]
  exact Ev.now _
end

/-- rising, and each in its bounds -/
def riseB (l : List Int) (i : Nat) : Bool := inB (rd l i) 0 15 && (decide (i = 0) || decide (rd l ((i : Int) - 1) < rd l i))
theorem spec_rises_ev (l : List Int) (hl : l.length ≤ 1048576) : Ev (fun k => spec_l00Rises.f k l 0 15) ((List.range l.length).all (riseB l)) := by
 have hu : ∀ (i : Nat), i < l.length → ∀ r, Ev (fun k => if riseB l i = true then spec_l00Rises.l0 k l 0 15 ((i + 1 : Nat) : Int) else some false) r → Ev (fun k => spec_l00Rises.l0 k l 0 15 i) r := fun i hi r hr => by
  refine Ev.step (fun k => ?_) hr
  simp only [spec_l00Rises.l0, in_inB, Option.bind_some, riseB]
  rw [if_pos (by omega), if_pos (by omega), up64 i l.length hi (by omega)]
  by_cases c : inB (rd l i) 0 15 = true
  ·simp only [c, if_true, Bool.true_and]
   by_cases c0 : i = 0
   ·subst c0
    simp
   ·have e : wrap64 ((i : Int) - 1) = (i : Int) - 1 := by unfold wrap64; omega
    rw [if_pos (by omega), e, if_pos (by omega), if_pos (by omega)]
    by_cases c2 : rd l ((i : Int) - 1) < rd l i
    ·rw [if_neg (by omega)]; simp [c2]
    ·rw [if_pos (by omega)]; simp [c0, c2]
  ·simp [c]
 refine all_loop l.length (fun k i => spec_l00Rises.l0 k l 0 15 i) (riseB l) (fun i hi hc r hr => hu i hi r (by simp only [hc, if_true]; exact hr)) (fun i hi hc => hu i hi _ (by simp only [hc, Bool.false_eq_true, if_false]; exact Ev.now _)) (fun k => by simp only [spec_l00Rises.l0]; rw [if_neg (by omega)])
def riseO (l : List Int) : Bool := (List.range l.length).all (riseB l)
/-- rising from a place on -/
def incB (l : List Int) : Nat → Nat → Bool
 | 0, _ => true
 | d + 1, i => decide (rd l ((i : Int) - 1) < rd l i) && incB l d (i + 1)
theorem incB_iff (l : List Int) : ∀ d i, incB l d i = true ↔ ∀ j, i ≤ j → j < i + d → rd l ((j : Int) - 1) < rd l j
 | 0, i => by simp only [incB, true_iff]; intro j h1 h2; omega
 | d + 1, i => by
  simp only [incB, Bool.and_eq_true, decide_eq_true_eq, incB_iff l d (i + 1)]
  constructor
  ·rintro ⟨h1, h2⟩ j h3 h4
   by_cases c : j = i
   ·subst c; exact h1
   ·exact h2 j (by omega) (by omega)
  ·intro h
   exact ⟨h i (by omega) (by omega), fun j h1 h2 => h j (by omega) (by omega)⟩
theorem inc_ev (l : List Int) (hl : l.length ≤ 1048576) : ∀ d i : Nat, 1 ≤ i → l.length ≤ i + d → i + d ≤ 1048577 → (i + d = l.length ∨ d = 0) → Ev (fun k => impl_increasing.l0 k l i) (incB l d i)
 | 0, i, h1, h2, _, _ => ev_end (fun k => by
  simp only [impl_increasing.l0, incB]
  rw [if_neg (by omega)])
 | d + 1, i, h1, h2, h3, h4 => by
  have e : wrap64 ((i : Int) - 1) = (i : Int) - 1 := by unfold wrap64; omega
  have ih := inc_ev l hl d (i + 1) (by omega) (by omega) (by omega) (by omega)
  by_cases c : rd l ((i : Int) - 1) < rd l i
  ·refine Ev.step (fun k => ?_) (show Ev (fun k => impl_increasing.l0 k l ((i + 1 : Nat) : Int)) (incB l (d + 1) i) from ?_)
   ·simp only [impl_increasing.l0]
    rw [if_pos (by omega), if_pos (by omega), e, if_pos (by omega), if_pos (by omega), if_neg (by omega), up64 i l.length (by omega) (by omega)]
   ·simp only [incB, decide_eq_true c, Bool.true_and]
    exact ih
  ·refine ev_end (fun k => ?_)
   simp only [impl_increasing.l0, incB, decide_eq_false c, Bool.false_and]
   rw [if_pos (by omega), if_pos (by omega), e, if_pos (by omega), if_pos (by omega), if_pos (by omega)]
theorem rise_split (l : List Int) : (incB l (l.length - 1) 1 && l.all fun x => inB x 0 15) = riseO l := by
 rw [Bool.eq_iff_iff, Bool.and_eq_true, incB_iff]
 unfold riseO riseB
 simp only [List.all_eq_true, List.mem_range, Bool.and_eq_true, Bool.or_eq_true, decide_eq_true_eq]
 constructor
 ·rintro ⟨h1, h2⟩ i hi
  refine ⟨?_, ?_⟩
  ·rw [rd_get l i hi]; exact h2 _ (List.getElem_mem hi)
  ·by_cases c : i = 0
   ·exact .inl c
   ·exact .inr (h1 i (by omega) (by omega))
 ·intro h
  refine ⟨fun j h1 h2 => ?_, fun x hx => ?_⟩
  ·rcases (h j (by omega)).2 with c | c
   ·omega
   ·exact c
  ·obtain ⟨i, hi, rfl⟩ := List.mem_iff_getElem.1 hx
   have := (h i hi).1
   rwa [rd_get l i hi] at this
theorem impl_out_ev (l : List Int) (hl : l.length ≤ 1048576) : Ev (fun k => impl_outOk.f k l) (riseO l) := by
 unfold impl_outOk.f
 rw [← rise_split]
 refine Ev.bind (inc_ev l hl (l.length - 1) 1 (by omega) (by omega) (by omega) (by omega)) ?_
 have e : impl_allBetween.f l 0 15 = some (l.all fun x => inB x 0 15) := rfl
 cases incB l (l.length - 1) 1 with
 | true => simp only [if_true, e, Option.bind_some, Bool.true_and]; exact Ev.now _
 | false => simp only [Bool.false_eq_true, if_false, Bool.false_and]; exact Ev.now _
theorem rise_pos {l : List Int} (h : riseO l = true) : ∀ x ∈ l, 0 ≤ x := by
 intro x hx
 rw [← rise_split] at h
 simp only [Bool.and_eq_true, List.all_eq_true] at h
 have := h.2 x hx
 simp only [inB, Bool.and_eq_true, decide_eq_true_eq] at this
 omega

/-- is a rule valid? -/
def ruleB (D : List S72) (B : List S68) (n root dom : Int) : Bool := inB n 1 4 && decide (kindAt D B root = 3) && inB dom 0 2
theorem spec_rule_ev {D : List S72} {B : List S68} (V : Valid D B) (n root dom : Int) (b : Bool) : Ev (fun k => spec_l08OK.f k D B n root dom b) (ruleB D B n root dom) := by
 unfold spec_l08OK.f ruleB
 simp only [in_inB, Option.bind_some]
 by_cases c1 : inB n 1 4 = true
 ·simp only [c1, if_true, Bool.true_and]
  by_cases c2 : root < 0
  ·simp only [if_pos c2]
   refine Ev.bind (specKind_ev D B root (by have := V.dev; omega) (by have := V.bkt; omega)) ?_
   by_cases c3 : kindAt D B root = 3
   ·simp only [if_pos c3, decide_eq_true c3, Bool.true_and]
    exact Ev.now _
   ·simp only [if_neg c3, decide_eq_false c3, Bool.false_and]
    exact Ev.now _
  ·simp only [if_neg c2]
   have c3 : ¬ kindAt D B root = 3 := fun h => by
    obtain ⟨_, _, _, _, h0, _⟩ := kindAt_bucket V root (by omega)
    exact c2 h0
   simp only [decide_eq_false c3, Bool.false_and]
   exact Ev.now _
 ·simp only [if_neg c1, show inB n 1 4 = false by simpa using c1, Bool.false_and]
  exact Ev.now _
theorem impl_rule (D : List S72) (B : List S68) (n root dom : Int) (b : Bool) : impl_ruleOk.f D B n root dom b = some (ruleB D B n root dom) := by
 unfold impl_ruleOk.f impl_Tree_kindOf.f ruleB
 simp only [between_inB, Option.bind_some]
 by_cases c1 : inB n 1 4 = true
 ·by_cases c3 : kindAt D B root = 3
  ·simp [c1, c3]
  ·simp [c1, c3]
 ·simp [c1]
theorem impl_ruleOk (D : List S72) (B : List S68) (hD : D.length ≤ 9223372036854775807) (hw : wfTree D B = true) (n root dom : Int) (b : Bool) : Ev (fun k => impl_RuleOk.f k D B n root dom b) (treeOkB D B && ruleB D B n root dom) := by
 unfold impl_RuleOk.f
 refine Ev.bind (impl_ok_ev D B hD hw) ?_
 by_cases c : treeOkB D B = true
 ·simp only [c, if_true, Bool.true_and, impl_rule, Option.bind_some]
  exact Ev.now _
 ·simp only [if_neg c, show treeOkB D B = false by simpa using c, Bool.false_and]
  exact Ev.now _

theorem wrapN (m : Nat) (h : m ≤ 4611686018427387904) : wrap64 ((m : Int) + 1) = ((m + 1 : Nat) : Int) := by unfold wrap64; omega
theorem markInts_ev (l : List Int) (c : Nat) (hl : l.length ≤ 1048576) (hc : c ≤ 1152921504606846976) : Ev (fun k => laws_markInt64S.f k l c) (((c + l.length : Nat) : Int), cnt c l.length) :=
 mark_loop l.length c (by omega) (fun k s i => laws_markInt64S.l0 k s.1 s.2 i) (fun k i x m hi hx hm => by
  simp only [laws_markInt64S.l0]
  rw [if_pos (by omega), if_pos (by omega), up64 i l.length hi (by omega), wrapN m hm, Int.toNat_natCast]) (fun k x m hx => by
  simp only [laws_markInt64S.l0]
  rw [if_neg (by omega)]) l rfl
theorem heldInts_ev (c n : Nat) (hn : n ≤ 1048576) (hc : c ≤ 1152921504606846976) : Ev (fun k => laws_heldInt64S.f k (cnt c n) c) ((c + n : Nat) : Int) :=
 held_loop n c (by omega) (fun k m i => laws_heldInt64S.l0 k (cnt c n) m i) (fun k i hi => by
  simp only [laws_heldInt64S.l0]
  rw [if_pos (by rw [cnt_length]; omega), if_pos (by omega), rd_get _ i (by rw [cnt_length]; omega), cnt_get, if_pos rfl, up64 i n hi (by omega), wrapN (c + i) (by omega)]) (fun k m => by
  simp only [laws_heldInt64S.l0]
  rw [if_neg (by rw [cnt_length]; omega)])
theorem markDevs_ev (l : List S72) (c : Nat) (hl : l.length ≤ 1048576) (hc : c ≤ 1000000) : ∃ y, Ev (fun k => laws_markDeviceS.f k l c) (((c + 2 * l.length : Nat) : Int), y) :=
 count_loop l.length c 2 (fun k s i => laws_markDeviceS.l0 k s.1 s.2 i) (fun i x m hi hx hm => ⟨(x.set (i : Int).toNat (⟨(m : Int), (rd_T72 x (i : Int)).f1⟩ : S72)).set (i : Int).toNat (⟨(rd_T72 (x.set (i : Int).toNat (⟨(m : Int), (rd_T72 x (i : Int)).f1⟩ : S72)) (i : Int)).f0, ((m + 1 : Nat) : Int)⟩ : S72), (by rw [List.length_set, List.length_set]; exact hx), fun k => by
  simp only [laws_markDeviceS.l0, Option.bind_some]
  rw [if_pos (by omega), if_pos (by omega), up64 i l.length hi (by omega), wrapN m (by omega), wrapN (m + 1) (by omega)]⟩) (fun k x m hx => by
  simp only [laws_markDeviceS.l0]
  rw [if_neg (by omega)]) l rfl
/-- where the marks of buckets have come to -/
def MarkAt (n c i : Nat) (s : List S68 × Int) : Prop := s.1.length = n ∧ (∀ x ∈ s.1, x.f2.length ≤ 1048576) ∧ ∃ m : Nat, s.2 = (m : Int) ∧ m ≤ c + i * 1048578
theorem markBkts_ev (l : List S68) (c : Nat) (hl : l.length ≤ 1048576) (hb : ∀ x ∈ l, x.f2.length ≤ 1048576) (hc : c ≤ 1000000000) : ∃ r : Int, (0 ≤ r ∧ r ≤ 1152921504606846976) ∧ Ev (fun k => laws_markBucketS.f k l c) r := by
 refine loop_up l.length (fun k (s : List S68 × Int) i => laws_markBucketS.l0 k s.1 s.2 i) (MarkAt l.length c) (fun r => 0 ≤ r ∧ r ≤ 1152921504606846976) ?_ ?_ (l, (c : Int)) ⟨rfl, hb, c, rfl, by omega⟩
 ·rintro i ⟨x, q⟩ hi ⟨h1, h2, m, h3, h4⟩
  simp only at h1 h2 h3
  subst h3
  have hi' : i < x.length := by omega
  have h5 : i * 1048578 ≤ 1048576 * 1048578 := Nat.mul_le_mul_right _ (by omega)
  have h6 := h2 x[i] (List.getElem_mem hi')
  refine .inr ⟨(x.set i ⟨(m : Int), ((m + 1 : Nat) : Int), cnt (m + 2) x[i].f2.length⟩, ((m + 2 + x[i].f2.length : Nat) : Int)), ⟨by simpa using h1, ?_, _, rfl, by omega⟩, fun r hr => Ev.step (f := ?f) (fun k => ?_) ?_⟩
  ·intro y hy
   rcases List.mem_or_eq_of_mem_set hy with hy | rfl
   ·exact h2 y hy
   ·simpa [cnt_length] using h6
  rotate_left
  ·simp only [laws_markBucketS.l0]
   rw [if_pos (by omega), if_pos (by omega), rd_bkt x i hi', up64 i l.length hi (by omega), wrapN m (by omega), wrapN (m + 1) (by omega), Int.toNat_natCast]
   all_goals exact rfl
  ·exact Ev.bind (markInts_ev _ (m + 2) h6 (by omega)) hr
 ·rintro ⟨x, q⟩ ⟨h1, h2, m, h3, h4⟩
  simp only at h1 h3
  subst h3
  have h5 : l.length * 1048578 ≤ 1048576 * 1048578 := Nat.mul_le_mul_right _ hl
  refine ⟨(m : Int), by omega, ev_end (fun k => ?_)⟩
  simp only [laws_markBucketS.l0]
  rw [if_neg (by omega)]
theorem markTree_le (D : List S72) (B : List S68) (hD : D.length ≤ 1048576) (hB : B.length ≤ 1048576) (hb : ∀ x ∈ B, x.f2.length ≤ 1048576) : ∃ r : Int, (0 ≤ r ∧ r ≤ 1152921504606846976) ∧ Ev (fun k => laws_markTree.f k D B 1) r := by
 obtain ⟨y, h1⟩ := markDevs_ev D 1 hD (by omega)
 obtain ⟨r, h0, h2⟩ := markBkts_ev B (1 + 2 * D.length) hB hb (by omega)
 exact ⟨r, h0, Ev.bind h1 h2⟩
theorem markTree_ev (D : List S72) (B : List S68) (hD : D.length ≤ 1048576) (hB : B.length ≤ 1048576) (hb : ∀ x ∈ B, x.f2.length ≤ 1048576) : ∃ r : Int, 0 ≤ r ∧ Ev (fun k => laws_markTree.f k D B 1) r := by
 obtain ⟨r, h0, h⟩ := markTree_le D B hD hB hb
 exact ⟨r, h0.1, h⟩

end Go.Proofs.YtkadeelplnkpgaaGreat.Pure

namespace Go.Proofs.YtkadeelplnkpgaaGreat.Pure
open Go.RowKit Go.Proofs.YtkadeelplnkpgaaGreat.Q Go.Proofs.YtkadeelplnkpgaaGreat.Opens Go.Proofs.YtkadeelplnkpgaaGreatW.PrintWords Go.Proofs.YtkadeelplnkpgaaGreatW.PrintLast Go.Proofs.YtkadeelplnkpgaaGreatW.PrintMore
set_option linter.unusedVariables false
set_option linter.unusedSimpArgs false
/-- the answer -/
def placeAns (D : List S72) (B : List S68) (n root kd : Int) (b : Bool) (seed N : Int) (out : List Int) : List Int × Bool := if treeOkB D B = true then (if ruleB D B n root kd = true then (if inB N 0 7 = true then (if riseO out = true then (placeV D B root kd seed N.toNat b out, true) else ([], false)) else ([], false)) else ([], false)) else ([], false)
theorem placeAns_length (D : List S72) (B : List S68) (n root kd : Int) (b : Bool) (seed N : Int) (out : List Int) : (placeAns D B n root kd b seed N out).1.length ≤ 1048576 := by
 unfold placeAns
 by_cases c : treeOkB D B = true
 ·rw [if_pos c]
  by_cases c1 : ruleB D B n root kd = true
  ·rw [if_pos c1]
   by_cases c2 : inB N 0 7 = true
   ·rw [if_pos c2]
    by_cases c3 : riseO out = true
    ·rw [if_pos c3]
     simp only [inB, Bool.and_eq_true, decide_eq_true_eq] at c2
     rw [place_len]
     omega
    ·rw [if_neg c3]; exact Nat.zero_le _
   ·rw [if_neg c2]; exact Nat.zero_le _
  ·rw [if_neg c1]; exact Nat.zero_le _
 ·rw [if_neg c]; exact Nat.zero_le _
theorem rule_kd {D : List S72} {B : List S68} {n root kd : Int} (h : ruleB D B n root kd = true) : 0 ≤ kd := by
 simp only [ruleB, inB, Bool.and_eq_true, decide_eq_true_eq] at h
 omega
theorem in_nat {N : Int} (h : inB N 0 7 = true) : ((N.toNat : Nat) : Int) = N ∧ N.toNat ≤ 7 := by
 simp only [inB, Bool.and_eq_true, decide_eq_true_eq] at h
 omega
theorem spec_place (D : List S72) (B : List S68) (n root kd : Int) (b : Bool) (seed N : Int) (out : List Int) (ho : out.length ≤ 1048576) : Ev (fun k => spec_Place.f k D B n root kd b seed N out) (placeAns D B n root kd b seed N out) := by
 unfold spec_Place.f placeAns
 refine Ev.bind (spec_ok_ev D B) ?_
 by_cases c : treeOkB D B = true
 ·simp only [if_pos c]
  have V := valid_of D B c
  refine Ev.bind (spec_rule_ev V n root kd b) ?_
  by_cases c1 : ruleB D B n root kd = true
  ·simp only [if_pos c1, in_inB, Option.bind_some]
   by_cases c2 : inB N 0 7 = true
   ·simp only [if_pos c2]
    refine Ev.bind (show Ev (fun k => spec_l00Rises.f k out 0 15) (riseO out) from spec_rises_ev out ho) ?_
    by_cases c3 : riseO out = true
    ·simp only [if_pos c3]
     obtain ⟨e, h7⟩ := in_nat c2
     have := spec_place_ev V n root kd seed b (rule_kd c1) out ho (rise_pos c3) N.toNat h7
     rw [e] at this
     exact Ev.bind this (Ev.now _)
    ·simp only [if_neg c3]
     exact Ev.now _
   ·simp only [if_neg c2]
    exact Ev.now _
  ·simp only [if_neg c1]
   exact Ev.now _
 ·simp only [if_neg c]
  exact Ev.now _
theorem impl_place (D : List S72) (B : List S68) (hD : D.length ≤ 9223372036854775807) (hw : wfTree D B = true) (n root kd : Int) (b : Bool) (seed N : Int) (out : List Int) (ho : out.length ≤ 1048576) : Ev (fun k => impl_Place.f k D B n root kd b seed N out) (placeAns D B n root kd b seed N out) := by
 unfold impl_Place.f placeAns
 refine Ev.bind (impl_ruleOk D B hD hw n root kd b) ?_
 by_cases c : treeOkB D B = true
 ·simp only [c, Bool.true_and, if_true]
  have V := valid_of D B c
  by_cases c1 : ruleB D B n root kd = true
  ·simp only [if_pos c1, between_inB, Option.bind_some]
   by_cases c2 : inB N 0 7 = true
   ·simp only [if_pos c2]
    refine Ev.bind (impl_out_ev out ho) ?_
    by_cases c3 : riseO out = true
    ·simp only [if_pos c3]
     obtain ⟨e, h7⟩ := in_nat c2
     have := impl_place_ev V n root kd seed b out ho N.toNat h7
     rw [e] at this
     exact Ev.bind this (Ev.now _)
    ·simp only [if_neg c3]
     exact Ev.now _
   ·simp only [if_neg c2]
    exact Ev.now _
  ·simp only [if_neg c1]
   exact Ev.now _
 ·simp only [Bool.eq_false_iff.2 c, Bool.false_and, Bool.false_eq_true, if_false]
  exact Ev.now _
theorem FnExactPlace (l0_0 : List S74) (l0_1 : List S66) (a1_0 : Int) (a1_1 : Int) (a1_2 : Int) (a1_3 : Bool) (a2 : Int) (a3 : Int) (l4 : List Int) (hd : good_t22 l0_0) (hb : good_t23 l0_1) (_ : (Lit.int .i64 a1_0).wf = true) (_ : (Lit.int .i64 a1_1).wf = true) (_ : (Lit.int .i64 a1_2).wf = true) (_ : (Lit.int .i64 a2).wf = true) (_ : (Lit.int .i64 a3).wf = true) (hg4 : good_t29 l4) : ∃ k, laws_FnExactPlace.f k l0_0 l0_1 a1_0 a1_1 a1_2 a1_3 a2 a3 l4 = some true := by
 obtain ⟨g1, g2, g3⟩ := small_of_good l0_0 l0_1 hd hb
 obtain ⟨t, ht, hsz⟩ := szTree_ev l0_0 l0_1 1048576 g1 g2 g3 (by omega) (by omega)
 have hwf := wf_of_good l0_0 l0_1 hd hb
 refine Ev.rounds (r := true) ?_
 unfold laws_FnExactPlace.f
 by_cases c0 : (l4.length : Int) > 1048576
 ·exact ev_some fun k => if_pos c0
 simp only [if_neg c0]
 have ho : l4.length ≤ 1048576 := by omega
 refine Ev.bind hsz ?_
 by_cases c : t < 0
 ·exact ev_some fun k => if_pos c
 ·simp only [if_neg c]
  have hs := (ht (by omega)).2
  have hto := toTree_ev l0_0 l0_1 hs
  have heq := eqTree_ev l0_0 l0_1 hs
  have hD : (l0_0.map devOf).length ≤ 9223372036854775807 := by rw [List.length_map]; exact g1
  obtain ⟨m, ⟨hm0, hm1⟩, hm⟩ := markTree_le (l0_0.map devOf) (l0_1.map bktOf) (by rw [List.length_map]; exact hs.1) (by rw [List.length_map]; exact hs.2.1) (fun x hx => by
   obtain ⟨y, hy, rfl⟩ := List.mem_map.1 hx
   exact hs.2.2 y hy)
  generalize l0_0.map devOf = D at *
  generalize l0_1.map bktOf = B at *
  obtain ⟨m, rfl⟩ := Int.eq_ofNat_of_zero_le hm0
  have hl := placeAns_length D B a1_0 a1_1 a1_2 a1_3 a2 a3 l4
  refine Ev.bind hto (Ev.bind (toInt64S_ev l4 (by omega)) (Ev.bind (spec_place D B a1_0 a1_1 a1_2 a1_3 a2 a3 l4 ho) (Ev.bind (impl_place D B hD hwf a1_0 a1_1 a1_2 a1_3 a2 a3 l4 ho) (Ev.bind (eqInt64S_ev _ (by omega)) (Ev.bind heq (Ev.bind (eqInt64S_ev _ (by omega)) (Ev.bind hm (Ev.bind (markInts_ev _ m ho (by omega)) (Ev.bind (markInts_ev _ 1 hl (by omega)) (Ev.bind (heldInts_ev 1 _ hl (by omega)) ?_))))))))))
  exact ev_some fun k => if_pos ⟨rfl, rfl, rfl, rfl, rfl, by omega, rfl, by omega⟩

end Go.Proofs.YtkadeelplnkpgaaGreat.Pure
