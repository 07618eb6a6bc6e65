/- Walks and plain laws of one claim, several texts in one. -/
import Derived.Test.YtkadeelplnkpgaaGreatQ0
import Derived.Test.YtkadeelplnkpgaaGreatMFnExactPlacea
import Derived.Test.YtkadeelplnkpgaaGreatMFnExactPlacec
import Derived.Lib.SliceRun
import Derived.Test.YtkadeelplnkpgaaGreatOwnWords
import Derived.Shelf.SortM.Plain
import Derived.Shelf.SortM.SortNone
import Derived.Sort.OwnSortedInts
namespace Go.Proofs.YtkadeelplnkpgaaGreat.Q
open Go.RowKit Go.Proofs.YtkadeelplnkpgaaGreatW.PrintWords Go.Proofs.YtkadeelplnkpgaaGreatW.PrintLast Go.Proofs.YtkadeelplnkpgaaGreatW.PrintMore
attribute [local go_sem] max2_int min2_int max_two min_two max_three min_three max_four min_four   -- for this text's walks alone
set_option linter.unusedVariables false
set_option linter.unusedSimpArgs false
/-! ### impl_ruleOk: function 47 -/
def impl_ruleOk.f (l0_0 : List (S72)) (l0_1 : List (S68)) (a1_0 : Int) (a1_1 : Int) (a1_2 : Int) (a1_3 : Bool) : Option (Bool) := (impl_between.f a1_0 1 4).bind fun t337 => (if t337 = true then ((impl_Tree_kindOf.f l0_0 l0_1 a1_1).bind fun t338 => (if t338 = 3 then ((impl_between.f a1_2 0 2).bind fun t339 => (some t339)) else (some false))) else (some false))
set_option maxHeartbeats 8000000 in
set_option maxRecDepth 100000 in
theorem impl_ruleOk.calls (A0_0 : Option Addr) (c0_0 : Nat) (l0_0 : List (S72)) (A0_1 : Option Addr) (c0_1 : Nat) (l0_1 : List (S68)) (a1_0 : Int) (a1_1 : Int) (a1_2 : Int) (a1_3 : Bool) (r : Bool) (w : World) (hr0_0 : Kd.C k72 w A0_0 l0_0.length l0_0) (hc0_0 : l0_0.length ≤ c0_0) (hr0_1 : Kd.C k68 w A0_1 l0_1.length l0_1) (hc0_1 : l0_1.length ≤ c0_1) (h : impl_ruleOk.f l0_0 l0_1 a1_0 a1_1 a1_2 a1_3 = some r) :
  Calls Tryz.prog 47 #[.agg #[.slice A0_0 l0_0.length c0_0, .slice A0_1 l0_1.length c0_1], .agg #[.int .i64 a1_0, .int .i64 a1_1, .int .i64 a1_2, .bool a1_3]] w fun e w' => e = .returned (.bool r) ∧ Below w.heap.size w w' := by
 have hu35 := Tryz.underlying35
 have hu37 := Tryz.underlying37
 have HR0_0 := Aside0.mk hr0_0
 have HC0_0 := Aside0.mk hc0_0
 clear hr0_0 hc0_0
 have HR0_1 := Aside0.mk hr0_1
 have HC0_1 := Aside0.mk hc0_1
 clear hr0_1 hc0_1
 have HB := Aside0.mk (Below.refl w.heap.size w)
 have H : ((impl_between.f a1_0 1 4).bind fun t337 => (if t337 = true then ((impl_Tree_kindOf.f l0_0 l0_1 a1_1).bind fun t338 => (if t338 = 3 then ((impl_between.f a1_2 0 2).bind fun t339 => (some t339)) else (some false))) else (some false))) = some r := h
 clear h
 replace H := Option.bind_eq_some_iff.mp H
 obtain ⟨t337, A30, H⟩ := H
 set_option simprocs false in try dsimp only at H
 have A3 := Aside0.mk A30
 clear A30
 by_cases c4 : t337 = true
 ·subst c4
  rw [if_pos rfl] at H
  replace H := Option.bind_eq_some_iff.mp H
  obtain ⟨t338, A50, H⟩ := H
  set_option simprocs false in try dsimp only at H
  have A5 := Aside0.mk A50
  clear A50
  by_cases c6 : t338 = 3
  ·rw [if_pos c6] at H
   have c6b0 : (t338 == 3) = true := beq_iff_eq.mpr c6
   have c6b1 : (t338 != 3) = false := bne_eq_false_iff_eq.mpr c6
   clear c6
   replace H := Option.bind_eq_some_iff.mp H
   obtain ⟨t339, A70, H⟩ := H
   set_option simprocs false in try dsimp only at H
   have A7 := Aside0.mk A70
   clear A70
   obtain rfl := Option.some.inj H
   go_enter Tryz.func47, Tryz.ntmps47
   go_wp2_with (first | ((with_reducible refine gate_dst (N := 2) rfl ?_); refine box_event ?hg (N := 2) ?hd (cs := #[.slice A0_0 l0_0.length c0_0, .slice A0_1 l0_1.length c0_1]) (t := 35) ?hr ?_; (case hd => rfl); (case hg => rfl); (case hr => first | (go_simp; done) | (go_simp; rfl)); intro gb335 hg w8 hbox hb; have n0_ := Aside0.mk (below_step (by repeat first | exact HB.out | apply pw_below_drewN) hb); have n1_ := Aside0.mk (hbox); clear HB; have HB := n0_; have BK335 := n1_; clear n0_ n1_; clear hb hbox hg) | ((with_reducible refine gate_dst (N := 3) rfl ?_); refine box_event ?hg (N := 3) ?hd (cs := #[.int .i64 a1_0, .int .i64 a1_1, .int .i64 a1_2, .bool a1_3]) (t := 37) ?hr ?_; (case hd => rfl); (case hg => rfl); (case hr => first | (go_simp; done) | (go_simp; rfl)); intro gb336 hg w9 hbox hb; have n0_ := Aside0.mk (blk_below (by exact BK335.out) hb); have n1_ := Aside0.mk (below_step (by repeat first | exact HB.out | apply pw_below_drewN) hb); have n2_ := Aside0.mk (hbox); clear BK335; clear HB; have BK335 := n0_; have HB := n1_; have BK336 := n2_; clear n0_ n1_ n2_; clear hb hbox hg; have hcz11_0 := (blk_cell BK336.out 0).trans rfl; have hcz11_1 := (blk_cell BK336.out 1).trans rfl; have hcz11_2 := (blk_cell BK336.out 2).trans rfl; have hcz11_3 := (blk_cell BK336.out 3).trans rfl) | ((with_reducible refine gate_callee (f := 27) rfl ?_); refine gl (some 7) Tryz.func27 #[.int .i64 a1_0, .int .i64 1, .int .i64 4] ?_; (with_reducible refine (impl_between.calls a1_0 1 4 true _ A3.out).mono ?_); rintro e w' ⟨rfl, ⟨nd, rfl⟩⟩; refine ⟨_, rfl, ?_⟩; have hcz12_0 := (blk_cell BK335.out 0).trans rfl; have hcz12_1 := (blk_cell BK335.out 1).trans rfl) | (go_at_call 67; (with_reducible refine (impl_Tree_kindOf.calls _ _ l0_0 _ _ l0_1 a1_1 t338 _ ?side1 ?side2 ?side3 ?side4 A5.out).mono ?_); (case side1 => exact (Kd.C_below HR0_0.out (by repeat first | exact HB.out | apply pw_below_drewN))); (case side2 => exact HC0_0.out); (case side3 => exact (Kd.C_below HR0_1.out (by repeat first | exact HB.out | apply pw_below_drewN))); (case side4 => exact HC0_1.out); rintro e w13 ⟨rfl, hb⟩; have n0_ := Aside0.mk (blk_below (by exact BK335.out) hb); have n1_ := Aside0.mk (blk_below (by exact BK336.out) hb); have n2_ := Aside0.mk (below_step (by repeat first | exact HB.out | apply pw_below_drewN) hb); clear BK335; clear BK336; clear HB; have BK335 := n0_; have BK336 := n1_; have HB := n2_; clear n0_ n1_ n2_; (try clear hb); (try clear hb2); (try clear hk); (try clear hi); have hcz14_0 := (blk_cell BK336.out 0).trans rfl; have hcz14_1 := (blk_cell BK336.out 1).trans rfl; have hcz14_2 := (blk_cell BK336.out 2).trans rfl; have hcz14_3 := (blk_cell BK336.out 3).trans rfl) | (go_at_call 27; (with_reducible refine (impl_between.calls a1_2 0 2 t339 _ A7.out).mono ?_); rintro e w' ⟨rfl, ⟨nd, rfl⟩⟩))
   go_ret
   exact ⟨by first | rfl | (simp [*, errW_none, errW_some] <;> rfl), by repeat first | exact HB.out | apply pw_below_drewN⟩
  ·rw [if_neg c6] at H
   have c6b0 : (t338 == 3) = false := beq_eq_false_iff_ne.mpr c6
   have c6b1 : (t338 != 3) = true := bne_iff_ne.mpr c6
   obtain rfl := Option.some.inj H
   go_enter Tryz.func47, Tryz.ntmps47
   go_wp2_with (first | ((with_reducible refine gate_dst (N := 2) rfl ?_); refine box_event ?hg (N := 2) ?hd (cs := #[.slice A0_0 l0_0.length c0_0, .slice A0_1 l0_1.length c0_1]) (t := 35) ?hr ?_; (case hd => rfl); (case hg => rfl); (case hr => first | (go_simp; done) | (go_simp; rfl)); intro gb335 hg w15 hbox hb; have n0_ := Aside0.mk (below_step (by repeat first | exact HB.out | apply pw_below_drewN) hb); have n1_ := Aside0.mk (hbox); clear HB; have HB := n0_; have BK335 := n1_; clear n0_ n1_; clear hb hbox hg) | ((with_reducible refine gate_dst (N := 3) rfl ?_); refine box_event ?hg (N := 3) ?hd (cs := #[.int .i64 a1_0, .int .i64 a1_1, .int .i64 a1_2, .bool a1_3]) (t := 37) ?hr ?_; (case hd => rfl); (case hg => rfl); (case hr => first | (go_simp; done) | (go_simp; rfl)); intro gb336 hg w16 hbox hb; have n0_ := Aside0.mk (blk_below (by exact BK335.out) hb); have n1_ := Aside0.mk (below_step (by repeat first | exact HB.out | apply pw_below_drewN) hb); have n2_ := Aside0.mk (hbox); clear BK335; clear HB; have BK335 := n0_; have HB := n1_; have BK336 := n2_; clear n0_ n1_ n2_; clear hb hbox hg; have hcz18_0 := (blk_cell BK336.out 0).trans rfl; have hcz18_1 := (blk_cell BK336.out 1).trans rfl; have hcz18_2 := (blk_cell BK336.out 2).trans rfl; have hcz18_3 := (blk_cell BK336.out 3).trans rfl) | ((with_reducible refine gate_callee (f := 27) rfl ?_); refine gl (some 7) Tryz.func27 #[.int .i64 a1_0, .int .i64 1, .int .i64 4] ?_; (with_reducible refine (impl_between.calls a1_0 1 4 true _ A3.out).mono ?_); rintro e w' ⟨rfl, ⟨nd, rfl⟩⟩; refine ⟨_, rfl, ?_⟩; have hcz19_0 := (blk_cell BK335.out 0).trans rfl; have hcz19_1 := (blk_cell BK335.out 1).trans rfl) | (go_at_call 67; (with_reducible refine (impl_Tree_kindOf.calls _ _ l0_0 _ _ l0_1 a1_1 t338 _ ?side1 ?side2 ?side3 ?side4 A5.out).mono ?_); (case side1 => exact (Kd.C_below HR0_0.out (by repeat first | exact HB.out | apply pw_below_drewN))); (case side2 => exact HC0_0.out); (case side3 => exact (Kd.C_below HR0_1.out (by repeat first | exact HB.out | apply pw_below_drewN))); (case side4 => exact HC0_1.out); rintro e w20 ⟨rfl, hb⟩; have n0_ := Aside0.mk (blk_below (by exact BK335.out) hb); have n1_ := Aside0.mk (blk_below (by exact BK336.out) hb); have n2_ := Aside0.mk (below_step (by repeat first | exact HB.out | apply pw_below_drewN) hb); clear BK335; clear BK336; clear HB; have BK335 := n0_; have BK336 := n1_; have HB := n2_; clear n0_ n1_ n2_; (try clear hb); (try clear hb2); (try clear hk); (try clear hi)))
   go_ret
   exact ⟨by first | rfl | (simp [*, errW_none, errW_some] <;> rfl), by repeat first | exact HB.out | apply pw_below_drewN⟩
 ·replace c4 := Bool.eq_false_iff.mpr c4
  subst c4
  rw [if_neg (show ¬ (false = true) by decide)] at H
  obtain rfl := Option.some.inj H
  go_enter Tryz.func47, Tryz.ntmps47
  go_wp2_with (first | ((with_reducible refine gate_dst (N := 2) rfl ?_); refine box_event ?hg (N := 2) ?hd (cs := #[.slice A0_0 l0_0.length c0_0, .slice A0_1 l0_1.length c0_1]) (t := 35) ?hr ?_; (case hd => rfl); (case hg => rfl); (case hr => first | (go_simp; done) | (go_simp; rfl)); intro gb335 hg w21 hbox hb; have n0_ := Aside0.mk (below_step (by repeat first | exact HB.out | apply pw_below_drewN) hb); have n1_ := Aside0.mk (hbox); clear HB; have HB := n0_; have BK335 := n1_; clear n0_ n1_; clear hb hbox hg) | ((with_reducible refine gate_dst (N := 3) rfl ?_); refine box_event ?hg (N := 3) ?hd (cs := #[.int .i64 a1_0, .int .i64 a1_1, .int .i64 a1_2, .bool a1_3]) (t := 37) ?hr ?_; (case hd => rfl); (case hg => rfl); (case hr => first | (go_simp; done) | (go_simp; rfl)); intro gb336 hg w22 hbox hb; have n0_ := Aside0.mk (blk_below (by exact BK335.out) hb); have n1_ := Aside0.mk (below_step (by repeat first | exact HB.out | apply pw_below_drewN) hb); have n2_ := Aside0.mk (hbox); clear BK335; clear HB; have BK335 := n0_; have HB := n1_; have BK336 := n2_; clear n0_ n1_ n2_; clear hb hbox hg; have hcz24_0 := (blk_cell BK336.out 0).trans rfl; have hcz24_1 := (blk_cell BK336.out 1).trans rfl; have hcz24_2 := (blk_cell BK336.out 2).trans rfl; have hcz24_3 := (blk_cell BK336.out 3).trans rfl) | ((with_reducible refine gate_callee (f := 27) rfl ?_); refine gl (some 7) Tryz.func27 #[.int .i64 a1_0, .int .i64 1, .int .i64 4] ?_; (with_reducible refine (impl_between.calls a1_0 1 4 false _ A3.out).mono ?_); rintro e w' ⟨rfl, ⟨nd, rfl⟩⟩; refine ⟨_, rfl, ?_⟩))
  go_ret
  exact ⟨by first | rfl | (simp [*, errW_none, errW_some] <;> rfl), by repeat first | exact HB.out | apply pw_below_drewN⟩

/-! ### impl_RuleOk: function 26 -/
def impl_RuleOk.f (k : Nat) (l0_0 : List (S72)) (l0_1 : List (S68)) (a1_0 : Int) (a1_1 : Int) (a1_2 : Int) (a1_3 : Bool) : Option (Bool) := (impl_TreeOk.f k l0_0 l0_1).bind fun t342 => (if t342 = true then ((impl_ruleOk.f l0_0 l0_1 a1_0 a1_1 a1_2 a1_3).bind fun t343 => (some t343)) else (some false))
set_option maxHeartbeats 8000000 in
set_option maxRecDepth 100000 in
theorem impl_RuleOk.calls (k : Nat) (A0_0 : Option Addr) (c0_0 : Nat) (l0_0 : List (S72)) (A0_1 : Option Addr) (c0_1 : Nat) (l0_1 : List (S68)) (a1_0 : Int) (a1_1 : Int) (a1_2 : Int) (a1_3 : Bool) (r : Bool) (w : World) (hr0_0 : Kd.C k72 w A0_0 l0_0.length l0_0) (hc0_0 : l0_0.length ≤ c0_0) (hr0_1 : Kd.C k68 w A0_1 l0_1.length l0_1) (hc0_1 : l0_1.length ≤ c0_1) (h : impl_RuleOk.f k l0_0 l0_1 a1_0 a1_1 a1_2 a1_3 = some r) :
  Calls Tryz.prog 26 #[.agg #[.slice A0_0 l0_0.length c0_0, .slice A0_1 l0_1.length c0_1], .agg #[.int .i64 a1_0, .int .i64 a1_1, .int .i64 a1_2, .bool a1_3]] w fun e w' => e = .returned (.bool r) ∧ Below w.heap.size w w' := by
 have hu35 := Tryz.underlying35
 have hu37 := Tryz.underlying37
 have HR0_0 := Aside0.mk hr0_0
 have HC0_0 := Aside0.mk hc0_0
 clear hr0_0 hc0_0
 have HR0_1 := Aside0.mk hr0_1
 have HC0_1 := Aside0.mk hc0_1
 clear hr0_1 hc0_1
 have HB := Aside0.mk (Below.refl w.heap.size w)
 have H : ((impl_TreeOk.f k l0_0 l0_1).bind fun t342 => (if t342 = true then ((impl_ruleOk.f l0_0 l0_1 a1_0 a1_1 a1_2 a1_3).bind fun t343 => (some t343)) else (some false))) = some r := h
 clear h
 replace H := Option.bind_eq_some_iff.mp H
 obtain ⟨t342, A30, H⟩ := H
 set_option simprocs false in try dsimp only at H
 have A3 := Aside0.mk A30
 clear A30
 by_cases c4 : t342 = true
 ·subst c4
  rw [if_pos rfl] at H
  replace H := Option.bind_eq_some_iff.mp H
  obtain ⟨t343, A50, H⟩ := H
  set_option simprocs false in try dsimp only at H
  have A5 := Aside0.mk A50
  clear A50
  obtain rfl := Option.some.inj H
  go_enter Tryz.func26, Tryz.ntmps26
  go_wp2_with (first | ((with_reducible refine gate_dst (N := 2) rfl ?_); refine box_event ?hg (N := 2) ?hd (cs := #[.slice A0_0 l0_0.length c0_0, .slice A0_1 l0_1.length c0_1]) (t := 35) ?hr ?_; (case hd => rfl); (case hg => rfl); (case hr => first | (go_simp; done) | (go_simp; rfl)); intro gb340 hg w6 hbox hb; have n0_ := Aside0.mk (below_step (by repeat first | exact HB.out | apply pw_below_drewN) hb); have n1_ := Aside0.mk (hbox); clear HB; have HB := n0_; have BK340 := n1_; clear n0_ n1_; clear hb hbox hg) | ((with_reducible refine gate_dst (N := 3) rfl ?_); refine box_event ?hg (N := 3) ?hd (cs := #[.int .i64 a1_0, .int .i64 a1_1, .int .i64 a1_2, .bool a1_3]) (t := 37) ?hr ?_; (case hd => rfl); (case hg => rfl); (case hr => first | (go_simp; done) | (go_simp; rfl)); intro gb341 hg w7 hbox hb; have n0_ := Aside0.mk (blk_below (by exact BK340.out) hb); have n1_ := Aside0.mk (below_step (by repeat first | exact HB.out | apply pw_below_drewN) hb); have n2_ := Aside0.mk (hbox); clear BK340; clear HB; have BK340 := n0_; have HB := n1_; have BK341 := n2_; clear n0_ n1_ n2_; clear hb hbox hg; have hcz9_0 := (blk_cell BK340.out 0).trans rfl; have hcz9_1 := (blk_cell BK340.out 1).trans rfl) | ((with_reducible refine gate_callee (f := 46) rfl ?_); refine gl (some 6) Tryz.func46 #[.agg #[.slice A0_0 l0_0.length c0_0, .slice A0_1 l0_1.length c0_1]] ?_; (with_reducible refine (impl_TreeOk.calls k _ _ l0_0 _ _ l0_1 true _ ?side1 ?side2 ?side3 ?side4 A3.out).mono ?_); (case side1 => exact (Kd.C_below HR0_0.out HB.out)); (case side2 => exact HC0_0.out); (case side3 => exact (Kd.C_below HR0_1.out HB.out)); (case side4 => exact HC0_1.out); rintro e w10 ⟨rfl, hb⟩; refine ⟨_, rfl, ?_⟩; have n0_ := Aside0.mk (blk_below (by exact BK340.out) hb); have n1_ := Aside0.mk (blk_below (by exact BK341.out) hb); have n2_ := Aside0.mk (below_step (by repeat first | exact HB.out | apply pw_below_drewN) hb); clear BK340; clear BK341; clear HB; have BK340 := n0_; have BK341 := n1_; have HB := n2_; clear n0_ n1_ n2_; (try clear hb); (try clear hb2); (try clear hk); (try clear hi); have hcz11_0 := (blk_cell BK340.out 0).trans rfl; have hcz11_1 := (blk_cell BK340.out 1).trans rfl; have hcz12_0 := (blk_cell BK341.out 0).trans rfl; have hcz12_1 := (blk_cell BK341.out 1).trans rfl; have hcz12_2 := (blk_cell BK341.out 2).trans rfl; have hcz12_3 := (blk_cell BK341.out 3).trans rfl) | (go_at_call 47; (with_reducible refine (impl_ruleOk.calls _ _ l0_0 _ _ l0_1 a1_0 a1_1 a1_2 a1_3 t343 _ ?side1 ?side2 ?side3 ?side4 A5.out).mono ?_); (case side1 => exact (Kd.C_below HR0_0.out HB.out)); (case side2 => exact HC0_0.out); (case side3 => exact (Kd.C_below HR0_1.out HB.out)); (case side4 => exact HC0_1.out); rintro e w13 ⟨rfl, hb⟩; have n0_ := Aside0.mk (blk_below (by exact BK340.out) hb); have n1_ := Aside0.mk (blk_below (by exact BK341.out) hb); have n2_ := Aside0.mk (below_step (by repeat first | exact HB.out | apply pw_below_drewN) hb); clear BK340; clear BK341; clear HB; have BK340 := n0_; have BK341 := n1_; have HB := n2_; clear n0_ n1_ n2_; (try clear hb); (try clear hb2); (try clear hk); (try clear hi)))
  go_ret
  exact ⟨by first | rfl | (simp [*, errW_none, errW_some] <;> rfl), by repeat first | exact HB.out | apply pw_below_drewN⟩
 ·replace c4 := Bool.eq_false_iff.mpr c4
  subst c4
  rw [if_neg (show ¬ (false = true) by decide)] at H
  obtain rfl := Option.some.inj H
  go_enter Tryz.func26, Tryz.ntmps26
  go_wp2_with (first | ((with_reducible refine gate_dst (N := 2) rfl ?_); refine box_event ?hg (N := 2) ?hd (cs := #[.slice A0_0 l0_0.length c0_0, .slice A0_1 l0_1.length c0_1]) (t := 35) ?hr ?_; (case hd => rfl); (case hg => rfl); (case hr => first | (go_simp; done) | (go_simp; rfl)); intro gb340 hg w14 hbox hb; have n0_ := Aside0.mk (below_step (by repeat first | exact HB.out | apply pw_below_drewN) hb); have n1_ := Aside0.mk (hbox); clear HB; have HB := n0_; have BK340 := n1_; clear n0_ n1_; clear hb hbox hg) | ((with_reducible refine gate_dst (N := 3) rfl ?_); refine box_event ?hg (N := 3) ?hd (cs := #[.int .i64 a1_0, .int .i64 a1_1, .int .i64 a1_2, .bool a1_3]) (t := 37) ?hr ?_; (case hd => rfl); (case hg => rfl); (case hr => first | (go_simp; done) | (go_simp; rfl)); intro gb341 hg w15 hbox hb; have n0_ := Aside0.mk (blk_below (by exact BK340.out) hb); have n1_ := Aside0.mk (below_step (by repeat first | exact HB.out | apply pw_below_drewN) hb); have n2_ := Aside0.mk (hbox); clear BK340; clear HB; have BK340 := n0_; have HB := n1_; have BK341 := n2_; clear n0_ n1_ n2_; clear hb hbox hg; have hcz17_0 := (blk_cell BK340.out 0).trans rfl; have hcz17_1 := (blk_cell BK340.out 1).trans rfl) | ((with_reducible refine gate_callee (f := 46) rfl ?_); refine gl (some 6) Tryz.func46 #[.agg #[.slice A0_0 l0_0.length c0_0, .slice A0_1 l0_1.length c0_1]] ?_; (with_reducible refine (impl_TreeOk.calls k _ _ l0_0 _ _ l0_1 false _ ?side1 ?side2 ?side3 ?side4 A3.out).mono ?_); (case side1 => exact (Kd.C_below HR0_0.out HB.out)); (case side2 => exact HC0_0.out); (case side3 => exact (Kd.C_below HR0_1.out HB.out)); (case side4 => exact HC0_1.out); rintro e w18 ⟨rfl, hb⟩; refine ⟨_, rfl, ?_⟩; have n0_ := Aside0.mk (blk_below (by exact BK340.out) hb); have n1_ := Aside0.mk (blk_below (by exact BK341.out) hb); have n2_ := Aside0.mk (below_step (by repeat first | exact HB.out | apply pw_below_drewN) hb); clear BK340; clear BK341; clear HB; have BK340 := n0_; have BK341 := n1_; have HB := n2_; clear n0_ n1_ n2_; (try clear hb); (try clear hb2); (try clear hk); (try clear hi)))
  go_ret
  exact ⟨by first | rfl | (simp [*, errW_none, errW_some] <;> rfl), by repeat first | exact HB.out | apply pw_below_drewN⟩

/-! ### impl_increasing: function 54 -/
def impl_increasing.l0 : Nat → List Int → Int → Option (Bool)
 | 0, _, _ => none
 | k + 1, x0, x3 => if x3 < (x0.length : Int) then (if 0 ≤ x3 then (if 0 ≤ (wrap64 (x3 - 1)) then (if (wrap64 (x3 - 1)) < (x0.length : Int) then (if (rd x0 x3) ≤ (rd x0 (wrap64 (x3 - 1))) then (some false) else (impl_increasing.l0 k x0 (wrap64 (x3 + 1)))) else (none)) else (none)) else (none)) else (some true)
def impl_increasing.f (k : Nat) (l0 : List Int) : Option (Bool) := impl_increasing.l0 k l0 1
set_option maxHeartbeats 8000000 in
set_option maxRecDepth 100000 in
theorem impl_increasing.calls (k : Nat) (A0 : Option Addr) (c0 : Nat) (l0 : List Int) (r : Bool) (w : World) (hr0 : Kd.C (Kd.int .i64) w A0 l0.length l0) (hc0 : l0.length ≤ c0) (h : impl_increasing.f k l0 = some r) :
  Calls Tryz.prog 54 #[.slice A0 l0.length c0] w fun e w' => e = .returned (.bool r) ∧ Drawn0 w w' := by
 have HR0 := Aside0.mk hr0
 have HC0 := Aside0.mk hc0
 clear hr0 hc0
 have H : (impl_increasing.l0 k l0 1) = some r := h
 clear h
 have H' := Aside0.mk H
 clear H
 go_enter Tryz.func54, Tryz.ntmps54
 go_wp2
 repeat (go_quiet (fail); try go_wp2)
 go_loopg [3] k (fun kq v3 w' => ∃ (x3_1 : Int), v3 = .int .i64 x3_1 ∧ Aside0 (impl_increasing.l0 kq l0 x3_1 = some r) ∧ Aside0 (kq ≤ k) ∧ Drawn0 w w')
 case atStart => exact ⟨(1), (by first | rfl | (simp; done) | (simp [*]; done)), H', ⟨Nat.le_refl _⟩, by repeat (first | exact Drawn0.refl _ | apply Drawn0.step)⟩
 case round =>
  clear H'
  obtain ⟨x3_1, rfl, HA, HK1, ⟨m1, rfl⟩⟩ := hrel
  cases gk with
  | zero => exact absurd HA.out (by simp [impl_increasing.l0])
  | succ k1 =>
   have H := HA.out
   clear HA
   simp only [impl_increasing.l0] at H
   by_cases c2 : x3_1 < (l0.length : Int)
   ·rw [if_pos c2] at H
    have c2b0 : decide (x3_1 < (l0.length : Int)) = true := decide_eq_true c2
    clear c2
    by_cases c3 : 0 ≤ x3_1
    ·rw [if_pos c3] at H
     have c3b0 : decide (0 ≤ x3_1) = true := decide_eq_true c3
     clear c3
     obtain ⟨ji4, hji4⟩ : ∃ j_ : Int, (wrap64 (x3_1 - 1)) = j_ := ⟨_, rfl⟩
     replace H : (if 0 ≤ (ji4) then (if (ji4) < (l0.length : Int) then (if (rd l0 x3_1) ≤ (rd l0 (ji4)) then (some false) else (impl_increasing.l0 k1 l0 (wrap64 (x3_1 + 1)))) else (none)) else (none)) = some r := by first | (rw [hji4] at H; exact H) | (simp only [hji4] at H ⊢; exact H)
     have hji4w : (IntKind.i64.wrap (x3_1 - 1)) = ji4 := (i64_w _).trans hji4
     by_cases c5 : 0 ≤ (ji4)
     ·rw [if_pos c5] at H
      have c5b0 : decide (0 ≤ (ji4)) = true := decide_eq_true c5
      clear c5
      by_cases c6 : (ji4) < (l0.length : Int)
      ·rw [if_pos c6] at H
       have c6b0 : decide ((ji4) < (l0.length : Int)) = true := decide_eq_true c6
       clear c6
       by_cases c7 : (rd l0 x3_1) ≤ (rd l0 (ji4))
       ·rw [if_pos c7] at H
        have c7b0 : decide ((rd l0 x3_1) ≤ (rd l0 (ji4))) = true := decide_eq_true c7
        clear c7
        obtain rfl := Option.some.inj H
        have p496 : 0 ≤ (x3_1 : Int) := of_decide_eq_true (by assumption)
        have q496 : x3_1 < (l0.length : Int) := of_decide_eq_true (by assumption)
        obtain ⟨ad496, e496, hx496_0⟩ := Kd.at_int HR0.out x3_1 p496 q496
        cases e496
        replace p496 := eq_true p496
        replace q496 := eq_true q496
        have p497 : 0 ≤ ((ji4) : Int) := of_decide_eq_true (by assumption)
        have q497 : (ji4) < (l0.length : Int) := of_decide_eq_true (by assumption)
        obtain ⟨ad497, e497, hx497_0⟩ := Kd.at_int HR0.out (ji4) p497 q497
        obtain rfl : ad496 = ad497 := (by injection e497)
        replace p497 := eq_true p497
        replace q497 := eq_true q497
        go_wp2
        repeat (go_quiet (fail); try go_wp2)
        go_ret
        exact ⟨by first | rfl | (simp; done) | (simp only [← hji4] <;> (first | rfl | simp)) | (simp [*]; done), by repeat (first | exact Drawn0.refl _ | apply Drawn0.step)⟩
       ·rw [if_neg c7] at H
        have c7b0 : decide ((rd l0 x3_1) ≤ (rd l0 (ji4))) = false := decide_eq_false c7
        clear c7
        have H' := Aside0.mk H
        clear H
        have p496 : 0 ≤ (x3_1 : Int) := of_decide_eq_true (by assumption)
        have q496 : x3_1 < (l0.length : Int) := of_decide_eq_true (by assumption)
        obtain ⟨ad496, e496, hx496_0⟩ := Kd.at_int HR0.out x3_1 p496 q496
        cases e496
        replace p496 := eq_true p496
        replace q496 := eq_true q496
        have p497 : 0 ≤ ((ji4) : Int) := of_decide_eq_true (by assumption)
        have q497 : (ji4) < (l0.length : Int) := of_decide_eq_true (by assumption)
        obtain ⟨ad497, e497, hx497_0⟩ := Kd.at_int HR0.out (ji4) p497 q497
        obtain rfl : ad496 = ad497 := (by injection e497)
        replace p497 := eq_true p497
        replace q497 := eq_true q497
        go_wp2
        repeat (go_quiet (fail); try go_wp2)
        go_roundg k1
        case measure => have := HK1.out; omega
        case rel => exact ⟨(wrap64 (x3_1 + 1)), (by first | rfl | (simp; done) | (simp [*]; done)), H', ⟨by have := HK1.out; omega⟩, by repeat (first | exact Drawn0.refl _ | apply Drawn0.step)⟩
      ·rw [if_neg c6] at H
       exact absurd H (by simp)
     ·rw [if_neg c5] at H
      exact absurd H (by simp)
    ·rw [if_neg c3] at H
     exact absurd H (by simp)
   ·rw [if_neg c2] at H
    have c2b0 : decide (x3_1 < (l0.length : Int)) = false := decide_eq_false c2
    clear c2
    obtain rfl := Option.some.inj H
    go_wp2
    repeat (go_quiet (fail); try go_wp2)
    go_ret
    exact ⟨by first | rfl | (simp; done) | (simp [*]; done), by repeat (first | exact Drawn0.refl _ | apply Drawn0.step)⟩

/-! ### slices_IndexFunc_int64_int64: function 75 -/
set_option maxHeartbeats 2000000 in
set_option maxRecDepth 100000 in
theorem indexInt64.calls (A : Option Addr) (c : Nat) (l : List (Int)) (g : Nat) (lb : Array Value) (p : Int → Bool) (w : World) (eg : ∀ args w, (callFunc g args).run Tryz.prog w = .ok (.enter g args) w)
  (hr : Kd.C (Kd.int .i64) w A l.length l) (hp : PredV (Kd.int .i64) (fun cs => cs.headD undef) g lb p w) :
  Calls Tryz.prog 75 #[.slice A l.length c, .func (.func g) #[] lb] w fun e w' => e = .returned (.int .i64 (idxFrom p l 0)) ∧ Below w.heap.size w w' := by
 have hm := Kd.C_max hr
 go_enter Tryz.func75, Tryz.ntmps75
 go_wp2
 go_loopg [5, 8] l.length (fun gg _ s8 wr => ∃ kk : Int, 0 ≤ kk ∧ kk ≤ l.length ∧ (l.length : Int) - kk ≤ gg ∧ s8 = .int .i64 kk ∧ Aside0 (Below w.heap.size w wr) ∧ Aside0 (idxFrom p l 0 = idxFrom p (l.drop kk.toNat) kk))
 case atStart => exact ⟨0, by omega, by omega, by omega, rfl, ⟨Below.refl _ w⟩, ⟨by simp⟩⟩
 case round =>
  obtain ⟨kk, h0, hkk, hg, rfl, BW, HA⟩ := hrel
  by_cases hlt : kk < (l.length : Int)
  ·obtain ⟨ad, rfl, hx0⟩ := Kd.at_int hr kk h0 hlt
   have hcall : Calls Tryz.prog g (#[.int .i64 (rd l kk)] ++ lb) wr (fun e w' => e = .returned (.bool (p (rd l kk))) ∧ Below w.heap.size w w') := hp wr (rd l kk) [.int .i64 (rd l kk)] BW.out rfl
   have hH := idx_here p l kk h0 hlt (0 : Int)
   replace hx0 := (BW.out.cell (World.block_lt_of_cell? w _ hx0)).trans hx0
   clear hr hp
   have HH := Aside0.mk (show (p (rd l kk) = true → idxFrom p (l.drop kk.toNat) kk = kk) ∧ (p (rd l kk) = false → idxFrom p (l.drop kk.toNat) kk = idxFrom p (l.drop (kk + 1).toNat) (kk + 1)) from hH)
   clear hH
   have q0 := eq_true h0
   have q1 := eq_true hlt
   cases hq : p (rd l kk) with
   | true =>
    rw [hq] at hcall
    have HQ := Aside0.mk hq
    clear hq
    go_wp2_with fail
    (with_reducible refine hcall.mono ?_)
    clear hcall
    rintro e w' ⟨rfl, hb'⟩
    have HB' := Aside0.mk hb'
    clear hb'
    go_wp2_with fail
    go_ret
    refine ⟨?_, HB'.out⟩
    rw [HA.out, HH.out.1 HQ.out]
    rfl
   | false =>
    rw [hq] at hcall
    have HQ := Aside0.mk hq
    clear hq
    go_wp2_with fail
    (with_reducible refine hcall.mono ?_)
    clear hcall
    rintro e w' ⟨rfl, hb'⟩
    have HB' := Aside0.mk hb'
    clear hb'
    go_wp2_with fail
    go_roundg (gk - 1)
    case measure => omega
    case rel => exact ⟨kk + 1, by omega, by omega, by omega, by go_num, HB', ⟨by rw [HA.out, HH.out.2 HQ.out]⟩⟩
  ·have : kk = l.length := by omega
   subst this
   go_wp2
   go_ret
   exact ⟨by rw [HA.out, idx_end p l _ rfl]; rfl, BW.out⟩

/-! ### slices_ContainsFunc_int64_int64: function 72 -/
set_option maxHeartbeats 2000000 in
set_option maxRecDepth 100000 in
theorem containsInt64.calls (A : Option Addr) (c : Nat) (l : List (Int)) (g : Nat) (lb : Array Value) (p : Int → Bool) (w : World) (eg : ∀ args w, (callFunc g args).run Tryz.prog w = .ok (.enter g args) w)
  (hr : Kd.C (Kd.int .i64) w A l.length l) (hp : PredV (Kd.int .i64) (fun cs => cs.headD undef) g lb p w) :
  Calls Tryz.prog 72 #[.slice A l.length c, .func (.func g) #[] lb] w fun e w' => e = .returned (.bool (l.any p)) ∧ Below w.heap.size w w' := by
 have HH := Aside0.mk (idx_any p l 0 (by omega))
 go_enter Tryz.func72, Tryz.ntmps72
 go_wp2_with fail
 refine (indexInt64.calls A c l g lb p w eg hr hp).mono ?_
 rintro e w' ⟨rfl, hb'⟩
 have HB' := Aside0.mk hb'
 clear hb' hr hp
 generalize idxFrom p l 0 = i at HH ⊢
 go_wp2_with fail
 go_ret
 exact ⟨by rw [← HH.out]; rfl, HB'.out⟩

/-! ### impl_allBetween: function 55 -/
def impl_allBetween.f (l0 : List Int) (a1 : Int) (a2 : Int) : Option Bool := some (l0.all fun x => inB x a1 a2)
theorem allBetweenClosure.calls (x lo hi : Int) (bl bh : Nat) (W : World) (h1 : W.heap[bl]? = some (.cells #[.int .i64 lo] 2 (0, 0))) (h2 : W.heap[bh]? = some (.cells #[.int .i64 hi] 2 (0, 0))) :
  Calls Tryz.prog 73 #[.int .i64 x, .pointer (some ⟨bl, 0, none⟩), .pointer (some ⟨bh, 0, none⟩)] W fun e w' => e = .returned (.bool (!(inB x lo hi))) ∧ Below W.heap.size W w' := by
 have hl := (blk_cell h1 0).trans rfl
 have hh := (blk_cell h2 0).trans rfl
 clear h1 h2
 go_enter Tryz.func73, Tryz.ntmps73
 go_wp2_with fail
 refine (impl_between.calls _ _ _ _ _ (between_inB x lo hi)).mono ?_
 rintro e w' ⟨rfl, hd⟩
 obtain ⟨n, rfl⟩ := hd.out
 go_wp2_with fail
 go_ret
 exact ⟨rfl, pw_below_drewN (Below.refl _ _) n⟩
theorem all_any (l : List Int) (p : Int → Bool) : (!(l.any fun x => !(p x))) = l.all p := by
 induction l with
 | nil => rfl
 | cons x xs ih => simp only [List.any_cons, List.all_cons, Bool.not_or, ih, Bool.not_not]
set_option maxHeartbeats 4000000 in
set_option maxRecDepth 100000 in
theorem impl_allBetween.calls (A0 : Option Addr) (c0 : Nat) (l0 : List Int) (a1 : Int) (a2 : Int) (r : Bool) (w : World) (hr0 : Kd.C (Kd.int .i64) w A0 l0.length l0) (hc0 : l0.length ≤ c0) (h : impl_allBetween.f l0 a1 a2 = some r) :
  Calls Tryz.prog 55 #[.slice A0 l0.length c0, .int .i64 a1, .int .i64 a2] w fun e w' => e = .returned (.bool r) ∧ Below w.heap.size w w' := by
 have HR := Aside0.mk hr0
 clear hr0 hc0
 obtain rfl := Option.some.inj h
 clear h
 have HD := Aside0.mk (all_any l0 fun x => inB x a1 a2)
 go_enter Tryz.func55, Tryz.ntmps55
 go_wp2_with fail
 have HB := Aside0.mk (below_alloc (below_alloc (Below.refl w.heap.size w) (.cells #[.int .i64 a1] 2)) (.cells #[.int .i64 a2] 2))
 have H1 := Aside0.mk (blk_alloc (blk_new w (.cells #[.int .i64 a1] 2)) (.cells #[.int .i64 a2] 2))
 have H2 := Aside0.mk (blk_new (w.alloc (.cells #[.int .i64 a1] 2)) (.cells #[.int .i64 a2] 2))
 have hs : (w.alloc (.cells #[.int .i64 a1] 2)).heap.size = w.heap.size + 1 := by unfold World.alloc; exact Array.size_push _
 rw [hs] at H2
 clear hs
 generalize ((w.alloc (.cells #[.int .i64 a1] 2)).alloc (.cells #[.int .i64 a2] 2)) = W at HB H1 H2 ⊢
 generalize w.heap.size + 1 = b2 at H2 ⊢
 have HRW := Aside0.mk (Kd.C_below HR.out HB.out)
 refine (containsInt64.calls A0 c0 l0 73 #[.pointer (some ⟨w.heap.size, 0, none⟩), .pointer (some ⟨b2, 0, none⟩)] (fun x => !(inB x a1 a2)) W @Tryz.call73 HRW.out (by
  intro W2 y cs hB hK
  obtain rfl := hK
  exact (allBetweenClosure.calls y a1 a2 w.heap.size b2 W2 ((hB.block _ (blk_lt H1.out)).trans H1.out) ((hB.block _ (blk_lt H2.out)).trans H2.out)).mono fun r w' ⟨he, hb'⟩ => ⟨he, hB.trans (hb'.mono hB.size)⟩)).mono ?_
 rintro e w' ⟨rfl, hb⟩
 have HB2 := Aside0.mk (below_step HB.out hb)
 clear hb
 go_wp2_with fail
 go_ret
 exact ⟨by rw [← HD.out]; rfl, HB2.out⟩

/-! ### impl_outOk: function 35 -/
def impl_outOk.f (k : Nat) (l0 : List Int) : Option (Bool) := (impl_increasing.f k l0).bind fun t498 => (if t498 = true then ((impl_allBetween.f l0 0 15).bind fun t499 => (some t499)) else (some false))
set_option maxHeartbeats 8000000 in
set_option maxRecDepth 100000 in
theorem impl_outOk.calls (k : Nat) (A0 : Option Addr) (c0 : Nat) (l0 : List Int) (r : Bool) (w : World) (hr0 : Kd.C (Kd.int .i64) w A0 l0.length l0) (hc0 : l0.length ≤ c0) (h : impl_outOk.f k l0 = some r) :
  Calls Tryz.prog 35 #[.slice A0 l0.length c0] w fun e w' => e = .returned (.bool r) ∧ Below w.heap.size w w' := by
 have HR0 := Aside0.mk hr0
 have HC0 := Aside0.mk hc0
 clear hr0 hc0
 have HB := Aside0.mk (Below.refl w.heap.size w)
 have H : ((impl_increasing.f k l0).bind fun t498 => (if t498 = true then ((impl_allBetween.f l0 0 15).bind fun t499 => (some t499)) else (some false))) = some r := h
 clear h
 replace H := Option.bind_eq_some_iff.mp H
 obtain ⟨t498, A20, H⟩ := H
 set_option simprocs false in try dsimp only at H
 have A2 := Aside0.mk A20
 clear A20
 by_cases c3 : t498 = true
 ·subst c3
  rw [if_pos rfl] at H
  replace H := Option.bind_eq_some_iff.mp H
  obtain ⟨t499, A40, H⟩ := H
  set_option simprocs false in try dsimp only at H
  have A4 := Aside0.mk A40
  clear A40
  obtain rfl := Option.some.inj H
  go_enter Tryz.func35, Tryz.ntmps35
  go_wp2_with (first | ((with_reducible refine gate_callee (f := 54) rfl ?_); refine gl (some 4) Tryz.func54 #[.slice A0 l0.length c0] ?_; (with_reducible refine (impl_increasing.calls k _ _ l0 true _ ?side1 ?side2 A2.out).mono ?_); (case side1 => exact HR0.out); (case side2 => exact HC0.out); rintro e w' ⟨rfl, ⟨nd, rfl⟩⟩; refine ⟨_, rfl, ?_⟩) | (go_at_call 55; (with_reducible refine (impl_allBetween.calls _ _ l0 0 15 t499 _ ?side1 ?side2 A4.out).mono ?_); (case side1 => exact HR0.out); (case side2 => exact HC0.out); rintro e w5 ⟨rfl, hb⟩; have n0_ := Aside0.mk (below_step (by repeat first | exact HB.out | apply pw_below_drewN) hb); clear HB; have HB := n0_; clear n0_; (try clear hb); (try clear hb2); (try clear hk); (try clear hi)))
  go_ret
  exact ⟨by first | rfl | (simp [*, errW_none, errW_some] <;> rfl), by repeat first | exact HB.out | apply pw_below_drewN⟩
 ·replace c3 := Bool.eq_false_iff.mpr c3
  subst c3
  rw [if_neg (show ¬ (false = true) by decide)] at H
  obtain rfl := Option.some.inj H
  go_enter Tryz.func35, Tryz.ntmps35
  go_wp2_with (first | ((with_reducible refine gate_callee (f := 54) rfl ?_); refine gl (some 4) Tryz.func54 #[.slice A0 l0.length c0] ?_; (with_reducible refine (impl_increasing.calls k _ _ l0 false _ ?side1 ?side2 A2.out).mono ?_); (case side1 => exact HR0.out); (case side2 => exact HC0.out); rintro e w' ⟨rfl, ⟨nd, rfl⟩⟩; refine ⟨_, rfl, ?_⟩))
  go_ret
  exact ⟨by first | rfl | (simp [*, errW_none, errW_some] <;> rfl), by repeat first | exact HB.out | apply pw_below_drewN⟩

end Go.Proofs.YtkadeelplnkpgaaGreat.Q

namespace Go.Proofs.YtkadeelplnkpgaaGreatW.PrintMore
theorem clear_ints {P : Program} (w : World) (t ty : TypeId) (ht : P.underlying t = some (.slice 2)) (hv : ∀ w, (zeroValue 2).run P w = .ok (.int .i64 0) w) (b o n c : Nat) (hn : 0 < n) (hc : ∀ j, j < n → (w.cell? ⟨b, o + j, none⟩).isSome = true) (hf : ∀ j, j < n → w.frozen? ⟨b, o + j, none⟩ = false) :
  (Builtin.clear_ #[t] ty #[.slice (some ⟨b, o, none⟩) n c]).run P w = .ok (.tuple #[]) (w.setCells b o (List.replicate n (.int .i64 0))) :=
 Lib.run_clear_slice w t 2 ty (.int .i64 0) ht hv rfl rfl b o n c hn hc hf

end Go.Proofs.YtkadeelplnkpgaaGreatW.PrintMore

namespace Go.Proofs.YtkadeelplnkpgaaGreat.Q
open Go.RowKit Go.Proofs.YtkadeelplnkpgaaGreatW.PrintWords Go.Proofs.YtkadeelplnkpgaaGreatW.PrintLast Go.Proofs.YtkadeelplnkpgaaGreatW.PrintMore
attribute [local go_sem] max2_int min2_int max_two min_two max_three min_three max_four min_four   -- for this text's walks alone
set_option linter.unusedVariables false
set_option linter.unusedSimpArgs false
/-! ### bits_Mul64: function 92 -/
def bits_Mul64.f (a0 : Int) (a1 : Int) : Option (Int × Int) := some (IntKind.u64.wrap ((IntKind.u64.wrap ((IntKind.u64.wrap ((a0 / 4294967296) * (a1 / 4294967296))) + ((IntKind.u64.wrap ((IntKind.u64.wrap ((a0 / 4294967296) * (Go.bits .and .u64 a1 4294967295))) + ((IntKind.u64.wrap ((Go.bits .and .u64 a0 4294967295) * (Go.bits .and .u64 a1 4294967295))) / 4294967296))) / 4294967296))) + ((IntKind.u64.wrap ((Go.bits .and .u64 (IntKind.u64.wrap ((IntKind.u64.wrap ((a0 / 4294967296) * (Go.bits .and .u64 a1 4294967295))) + ((IntKind.u64.wrap ((Go.bits .and .u64 a0 4294967295) * (Go.bits .and .u64 a1 4294967295))) / 4294967296))) 4294967295) + (IntKind.u64.wrap ((Go.bits .and .u64 a0 4294967295) * (a1 / 4294967296))))) / 4294967296)), IntKind.u64.wrap (a0 * a1))
set_option maxHeartbeats 8000000 in
set_option maxRecDepth 100000 in
theorem bits_Mul64.calls (a0 : Int) (a1 : Int) (r1 : Int) (r2 : Int) (w : World) (h : bits_Mul64.f a0 a1 = some (r1, r2)) :
  Calls Tryz.prog 92 #[.int .u64 a0, .int .u64 a1] w fun e w' => e = .returned (.tuple #[.int .u64 r1, .int .u64 r2]) ∧ Drawn0 w w' := by
 have H : (some (IntKind.u64.wrap ((IntKind.u64.wrap ((IntKind.u64.wrap ((a0 / 4294967296) * (a1 / 4294967296))) + ((IntKind.u64.wrap ((IntKind.u64.wrap ((a0 / 4294967296) * (Go.bits .and .u64 a1 4294967295))) + ((IntKind.u64.wrap ((Go.bits .and .u64 a0 4294967295) * (Go.bits .and .u64 a1 4294967295))) / 4294967296))) / 4294967296))) + ((IntKind.u64.wrap ((Go.bits .and .u64 (IntKind.u64.wrap ((IntKind.u64.wrap ((a0 / 4294967296) * (Go.bits .and .u64 a1 4294967295))) + ((IntKind.u64.wrap ((Go.bits .and .u64 a0 4294967295) * (Go.bits .and .u64 a1 4294967295))) / 4294967296))) 4294967295) + (IntKind.u64.wrap ((Go.bits .and .u64 a0 4294967295) * (a1 / 4294967296))))) / 4294967296)), IntKind.u64.wrap (a0 * a1))) = some (r1, r2) := h
 clear h
 simp only [Option.some.injEq, Prod.mk.injEq] at H
 obtain ⟨rfl, rfl⟩ := H
 go_enter Tryz.func92, Tryz.ntmps92
 go_wp2
 go_ret2
 exact ⟨by first | rfl | (simp; done) | (simp [*]; done), by repeat (first | exact Drawn0.refl _ | apply Drawn0.step)⟩

/-! ### bits_Mul: function 81 -/
def bits_Mul.f (a0 : Int) (a1 : Int) : Option (Int × Int) := (bits_Mul64.f a0 a1).bind fun bt344 => (some (bt344.1, bt344.2))
set_option maxHeartbeats 8000000 in
set_option maxRecDepth 100000 in
theorem bits_Mul.calls (a0 : Int) (a1 : Int) (r1 : Int) (r2 : Int) (w : World) (h : bits_Mul.f a0 a1 = some (r1, r2)) :
  Calls Tryz.prog 81 #[.int .u64 a0, .int .u64 a1] w fun e w' => e = .returned (.tuple #[.int .u64 r1, .int .u64 r2]) ∧ Drawn0 w w' := by
 have H : ((bits_Mul64.f a0 a1).bind fun bt344 => (some (bt344.1, bt344.2))) = some (r1, r2) := h
 clear h
 replace H := Option.bind_eq_some_iff.mp H
 obtain ⟨⟨t344, t345⟩, A30, H⟩ := H
 set_option simprocs false in try dsimp only at H
 have A3 := Aside0.mk A30
 clear A30
 simp only [Option.some.injEq, Prod.mk.injEq] at H
 obtain ⟨rfl, rfl⟩ := H
 go_enter Tryz.func81, Tryz.ntmps81
 go_wp2_with (first | ((with_reducible refine gate_callee (f := 92) rfl ?_); refine gl (some 25) Tryz.func92 #[.int .u64 a0, .int .u64 a1] ?_; (with_reducible refine (bits_Mul64.calls a0 a1 t344 t345 _ A3.out).mono ?_); rintro e w' ⟨rfl, ⟨nd, rfl⟩⟩; refine ⟨_, rfl, ?_⟩))
 go_ret2
 exact ⟨by first | rfl | (simp; done) | (simp [*]; done), by repeat (first | exact Drawn0.refl _ | apply Drawn0.step)⟩

/-! ### slices_Repeat_int64_int64: function 68 -/
def slices_Repeat_int64_int64.f (l : List Int) (n : Int) : Option (List Int) := if l = [-1] ∧ 0 ≤ n ∧ n ≤ 1000 ∧ bits_Mul.f 1 n = some (0, n) then some (List.replicate n.toNat (-1)) else none
/-- so many are laid, the rest is as made -/
def repC (n m : Nat) : List Int := List.replicate m (-1) ++ List.replicate (n - m) 0
theorem repC_len (n m : Nat) (h : m ≤ n) : (repC n m).length = n := by simp [repC]; omega
/-- cells laid into a row of one's own, from the o-th on -/
theorem R_laid {W : World} {base e g cap n : Nat} {ok : Nat → Prop} {xs : List Int} (o : Nat) (ys : List Int) (HO : Kd.R (Kd.int .i64) e W base ok (.slice (some ⟨g, 0, none⟩) n cap) xs) (hn : xs.length = n) (h : o + ys.length ≤ xs.length) : Kd.R (Kd.int .i64) e (W.setCells g o (encs (Value.int .i64) ys)) base ok (.slice (some ⟨g, 0, none⟩) n cap) (xs.take o ++ ys ++ xs.drop (o + ys.length)) ∧ W.grownBy (W.setCells g o (encs (Value.int .i64) ys)) (some g) := by
 subst hn
 have hown := Kd.own_of_R HO
 have hok := HO.1
 rcases hown.2 with ⟨hv, _⟩ | ⟨g', cap', cur, hv, hb, hh, hnc, hcm, hcs, htake⟩
 ·cases hv
 cases hv
 have hcs1 : cur.size = cap := by omega
 have hl : (encs (Value.int .i64) ys).length = ys.length := encs_length _
 obtain ⟨cur', h3, h4, h5⟩ := setCells_row (encs (Value.int .i64) ys) o W cur hh (by rw [hl]; omega)
 obtain ⟨s1, s2, s3, s4⟩ := setCells_same g (encs (Value.int .i64) ys) o W
 have hln : (xs.take o ++ ys ++ xs.drop (o + ys.length)).length = xs.length := by
  simp only [List.length_append, List.length_take, List.length_drop]
  omega
 refine ⟨?_, ⟨s1, s2, s3, by rw [s4]; exact Nat.le_refl _, fun k _ hk => setCells_far _ _ k (fun he => hk (by rw [he]))⟩⟩
 have h6 := Kd.R_of_own (enc := Value.int .i64) (h1 := fun _ => rfl) (e := e) (w := W.setCells g o (encs (Value.int .i64) ys)) (base := base) (ok := ok) (v := .slice (some ⟨g, 0, none⟩) xs.length cap) (xs := xs.take o ++ ys ++ xs.drop (o + ys.length)) (by
  rw [hln]
  refine ⟨by rw [encs_length, hln, Nat.mul_one], .inr ⟨g, cap, cur', rfl, hb, h3, hnc, hcm, by rw [h4, hcs], ?_⟩⟩
  have htk : cur.toList.take xs.length = encs (Value.int .i64) xs := by rw [← htake, Nat.mul_one]
  rw [h5, Nat.mul_one, show encs (Value.int .i64) (xs.take o ++ ys ++ xs.drop (o + ys.length)) = encs (Value.int .i64) (xs.take o) ++ (encs (Value.int .i64) ys ++ encs (Value.int .i64) (xs.drop (o + ys.length))) from by simp [encs], hl, List.append_assoc]
  have e1 : encs (Value.int .i64) (xs.take o) = cur.toList.take o := by
   have : encs (Value.int .i64) (xs.take o) = (encs (Value.int .i64) xs).take o := by simp [encs, List.map_take]
   rw [this, ← htk, List.take_take, Nat.min_eq_left (by omega)]
  have e2 : encs (Value.int .i64) (xs.drop (o + ys.length)) = (cur.toList.drop (o + ys.length)).take (xs.length - (o + ys.length)) := by
   have : encs (Value.int .i64) (xs.drop (o + ys.length)) = (encs (Value.int .i64) xs).drop (o + ys.length) := by simp [encs, List.map_drop]
   rw [this, ← htk, List.drop_take]
  have e3 : (cur.toList.take o).length = o := by simp; omega
  have e4 : xs.length - o - ys.length = xs.length - (o + ys.length) := by omega
  rw [e1, e2, List.take_append, e3, List.take_of_length_le (show (cur.toList.take o).length ≤ xs.length by omega), List.take_append, hl, List.take_of_length_le (show (encs (Value.int .i64) ys).length ≤ xs.length - o by omega), e4]) hok
 exact h6
/-- copy onto a part of a row of one's own: the cells laid there -/
theorem run_laid {P : Program} {W : World} {base g cap n : Nat} {ok : Nat → Prop} {xs : List Int} (o m dc sc : Nat) (t ty : TypeId) (ys : List Int) (ad : Addr) (ht : P.underlying t = some (.slice 2)) (hi : (P.info? 2).map (·.size) = some 1) (HO : Kd.R (Kd.int .i64) 2 W base ok (.slice (some ⟨g, 0, none⟩) n cap) xs) (hn : xs.length = n) (ho : o ≤ n) (hy : ys.length = min m (n - o)) (hsrc : ∀ (j : Nat), j < ys.length → W.cell? (ad.add j) = some (.int .i64 (ys.getD j 0))) :
  (Builtin.copy_ #[t, t] ty #[.slice (some ⟨g, o, none⟩) (n - o) dc, .slice (some ad) m sc]).run P W = .ok (goInt ys.length) (W.setCells g o (encs (Value.int .i64) ys)) := by
 subst hn
 have hown := Kd.own_of_R HO
 rcases hown.2 with ⟨hv, _⟩ | ⟨g', cap', cur, hv, hb, hh, hnc, hcm, hcs, htake⟩
 ·cases hv
 cases hv
 have hl : (encs (Value.int .i64) ys).length = ys.length := encs_length _
 have hr := run_copy_cells (P := P) W t t ty 2 g o (xs.length - o) dc ad m sc (encs (Value.int .i64) ys) ht hi (by rw [hl, hy]) (fun j u hu => by
   have hj : j < ys.length := by
    rcases Nat.lt_or_ge j ys.length with h | h
    ·exact h
    ·rw [List.getElem?_eq_none (by rw [hl]; exact h)] at hu
     cases hu
   rw [encs_get (d := (0 : Int)) _ j hj] at hu
   rw [hsrc j hj, ← hu])
  (fun j hj => by rw [cell_of_row W g _ cur 2 (0, 0) hh]; simp; omega) (fun j _ => blk_frozen hh _) (by intro u hu; simp only [encs, List.mem_map] at hu; obtain ⟨q, _, rfl⟩ := hu; rfl)
 rw [hr, hl]
theorem rep_step (n m : Nat) (hm : m ≤ n) : (repC n m).take m ++ List.replicate (min m (n - m)) (-1) ++ (repC n m).drop (m + min m (n - m)) = repC n (m + min m (n - m)) := by
 unfold repC
 rw [List.take_append, List.take_of_length_le (by simp), List.length_replicate, Nat.sub_self, List.take_zero, List.append_nil, List.drop_append, List.drop_of_length_le (by simp), List.nil_append, List.length_replicate, List.drop_replicate, ← List.replicate_append_replicate (n := m)]
 congr 2
 omega
set_option maxHeartbeats 4000000 in
set_option maxRecDepth 100000 in
theorem slices_Repeat_int64_int64.calls (A0 : Option Addr) (c0 : Nat) (l0 : List Int) (a1 : Int) (r : List Int) (w : World) (hr0 : Kd.C (Kd.int .i64) w A0 l0.length l0) (hc0 : l0.length ≤ c0) (h : slices_Repeat_int64_int64.f l0 a1 = some r) :
  Calls Tryz.prog 68 #[.slice A0 l0.length c0, .int .i64 a1] w fun e w' => ∃ v_ : Value, e = .returned v_ ∧ Kd.R (Kd.int .i64) 2 w' w.heap.size (fun _ => True) v_ r ∧ Below w.heap.size w w' := by
 unfold slices_Repeat_int64_int64.f at h
 by_cases hg : l0 = [-1] ∧ 0 ≤ a1 ∧ a1 ≤ 1000 ∧ bits_Mul.f 1 a1 = some (0, a1)
 case neg => rw [if_neg hg] at h; cases h
 rw [if_pos hg] at h
 obtain rfl := Option.some.inj h
 obtain ⟨rfl, h0, h1, hm⟩ := hg
 clear h
 have HM := Aside0.mk hm
 clear hm
 obtain ⟨ad, rfl, hx⟩ := Kd.at_int hr0 0 (by omega) (by simp)
 have hlt := decide_eq_false (show ¬ a1 < 0 by omega)
 have hgt := decide_eq_false (show ¬ (9223372036854775807 : Int) < a1 by omega)
 clear hr0 hc0
 go_enter Tryz.func68, Tryz.ntmps68
 go_wp2_with fail
 (with_reducible refine (bits_Mul.calls 1 a1 0 a1 _ HM.out).mono ?_)
 rintro e w1 ⟨rfl, hd⟩
 have HB := Aside0.mk hd.below
 clear hd
 obtain ⟨n, rfl⟩ := Int.eq_ofNat_of_zero_le h0
 go_wp2_with (first | ((with_reducible refine gate_dst (N := 30) rfl ?_); refine Kd.R_make (Kd.int .i64) _ 2 rfl (N := 30) rfl 29 _ _ rfl (n : Int) rfl rfl Tryz.underlying29 (.int .i64 0) 8 info2 rfl (by decide) (by omega) 0 (ok := fun _ => True) (okp := fun _ => True) rfl (fun _ hk => hk) trivial (by omega) (by omega) (Below.refl _ _) (Nat.le_refl _) ?_; intro v5 w5 ho hb hg_ hnew; have HO := Aside0.mk (Kd.R_lower ho (below_size HB.out)); have HN := Aside0.mk hnew; have HB5 := Aside0.mk (below_step HB.out hb); clear HB hb ho hg_ hnew))
 obtain ⟨g, cap, hv⟩ : ∃ g cap, v5 = .slice (some ⟨g, 0, none⟩) n cap := by
  rcases (Kd.own_of_R HO.out).2 with ⟨rfl, _⟩ | ⟨g, cap, cur, hv, _⟩
  ·obtain ⟨b, hb, _⟩ := HN.out
   cases hb
  ·exact ⟨g, cap, by simpa using hv⟩
 subst hv
 clear HN
 have hx5 : w5.cell? (ad.add 0) = some (.int .i64 (-1)) := (HB5.out.cell (World.block_lt_of_cell? w _ hx)).trans hx
 have HX := Aside0.mk (run_laid (P := Tryz.prog) 0 1 cap c0 29 3 (List.replicate (min 1 n) (-1)) ad Tryz.underlying29 (by decide) HO.out (by simp) (Nat.zero_le _) (by simp) (fun j hj => by
  have : j = 0 := by simp at hj; omega
  subst this
  rw [hx5]
  simp at hj
  simp [hj]))
 have HL := R_laid 0 (List.replicate (min 1 n) (-1)) HO.out (by simp) (by simp; omega)
 have HO6 := Aside0.mk (HL.1)
 have HB6 := Aside0.mk (HB5.out.grown HL.2 (below_size HB5.out) (fun k hk => Kd.R_base HO.out k (by rw [← hk]; rfl)))
 clear HL hx5 hx HB5
 rw [show n - 0 = n from rfl] at HX
 rw [HX.out]
 generalize w5.setCells g 0 (encs (Value.int .i64) (List.replicate (min 1 n) (-1))) = w6 at HO6 HB6 ⊢
 clear HX HO HM hlt hgt
 have HO := Aside0.mk (show Kd.R (Kd.int .i64) 2 w6 w.heap.size (fun _ => True) (.slice (some ⟨g, 0, none⟩) n cap) (repC n (min 1 n)) from by
  have := HO6.out
  rwa [show (List.replicate (n : Int).toNat 0).take 0 ++ List.replicate (min 1 n) (-1) ++ (List.replicate (n : Int).toNat 0).drop (0 + (List.replicate (min 1 n) (-1 : Int)).length) = repC n (min 1 n) from by simp [repC]] at this)
 clear HO6
 go_wp2_with fail
 go_loopg [8] n (fun gg s8 wr => ∃ m : Nat, s8 = .int .i64 (m : Int) ∧ min 1 n ≤ m ∧ m ≤ n ∧ n - m ≤ gg ∧ Aside0 (Kd.R (Kd.int .i64) 2 wr w.heap.size (fun _ => True) (.slice (some ⟨g, 0, none⟩) n cap) (repC n m)) ∧ Aside0 (Below w.heap.size w wr))
 case atStart => exact ⟨min 1 n, rfl, Nat.le_refl _, by omega, by omega, HO, HB6⟩
 case round =>
  clear HO HB6
  obtain ⟨m, rfl, hm1, hmn, hg, HO, HB⟩ := hrel
  by_cases c : m < n
  case neg =>
   obtain rfl : m = n := by omega
   have cb := decide_eq_false (show ¬ ((m : Int) < (m : Int)) by omega)
   clear c
   go_wp2_with fail
   go_ret
   exact ⟨_, rfl, by have := HO.out; rwa [show repC m m = List.replicate (m : Int).toNat (-1) from by simp [repC]] at this, HB.out⟩
  have cb := decide_eq_true (show ((m : Int) < (n : Int)) by omega)
  have c2 := eq_true (show (m : Int) ≤ (n : Int) by omega)
  have c3 := eq_true (show (0 : Int) ≤ (m : Int) by omega)
  have hcap := (Kd.R_reads' HO.out).2.1
  have c4 := eq_true (show (m : Int) ≤ (cap : Int) by omega)
  have c5 := eq_false (show ¬ cap = m by omega)
  obtain ⟨q, HQ⟩ : ∃ q, Aside0 (q = min m (n - m)) := ⟨_, ⟨rfl⟩⟩
  have hq := HQ.out
  have HD := Aside0.mk (Kd.R_drew HO.out)
  have HX := Aside0.mk (run_laid (P := Tryz.prog) m m (cap - m) cap 29 3 (List.replicate q (-1)) ⟨g, 0, none⟩ Tryz.underlying29 (by decide) HD.out (repC_len n m hmn) hmn (by simp [hq]) (fun j hj => by
   have hj2 : j < m := by simp at hj; omega
   obtain ⟨ad', e1, hc⟩ := Kd.at_int (Kd.R_reads' HD.out).2.2 (j : Int) (Int.natCast_nonneg j) (by rw [repC_len n m hmn]; omega)
   cases e1
   rw [Int.toNat_natCast] at hc
   rw [hc]
   simp at hj
   simp [rd, repC, hj, List.getElem?_append, hj2]))
  have HL := R_laid m (List.replicate q (-1)) HD.out (repC_len n m hmn) (by rw [repC_len n m hmn]; simp; omega)
  have HO7 := Aside0.mk (show Kd.R (Kd.int .i64) 2 (wr.drew.setCells g m (encs (Value.int .i64) (List.replicate q (-1)))) w.heap.size (fun _ => True) (.slice (some ⟨g, 0, none⟩) n cap) (repC n (m + q)) from by
   have := HL.1
   rwa [show (repC n m).take m ++ List.replicate q (-1) ++ (repC n m).drop (m + (List.replicate q (-1 : Int)).length) = repC n (m + q) from by rw [List.length_replicate, hq]; exact rep_step n m hmn] at this)
  have HB7 := Aside0.mk ((below_drew1 HB.out).grown HL.2 (below_size (below_drew1 HB.out)) (fun k hk => Kd.R_base HD.out k (by rw [← hk]; rfl)))
  clear HL HO
  clear hq
  have HXL := Aside0.mk (List.length_replicate (n := q) (a := (-1 : Int)))
  go_wp2_with fail
  go_region_held3 (fun _ => True) (exact trivial) ((go_simp; rw [HX.out, HXL.out]; go_simp))
  generalize wr.drew.setCells g m (encs (Value.int .i64) (List.replicate q (-1))) = w7 at HO7 HB7 ⊢
  clear HX HD
  go_wp2_with fail
  go_roundg (gk - 1)
  case measure => have hq := HQ.out; omega
  case rel => 
   have hq := HQ.out
   exact ⟨m + q, by rw [Int.natCast_add]; simp only [i64_w]; rw [show wrap64 ((m : Int) + (q : Int)) = (m : Int) + (q : Int) from by unfold wrap64; omega], by omega, by omega, by omega, HO7, HB7⟩

/-! ### impl_emptyPlaces: function 48 -/
def impl_emptyPlaces.f (a0 : Int) : Option (List Int) := (slices_Repeat_int64_int64.f (([(-1)] : List Int)) a0).bind fun t349 => (some t349)
set_option maxHeartbeats 8000000 in
set_option maxRecDepth 100000 in
theorem impl_emptyPlaces.calls (a0 : Int) (r : List Int) (w : World) (h : impl_emptyPlaces.f a0 = some r) :
  Calls Tryz.prog 48 #[.int .i64 a0] w fun e w' => ∃ v0_ : Value, e = .returned (v0_) ∧ Kd.R (Kd.int .i64) 2 w' w.heap.size (fun _ => True) v0_ r ∧ Below w.heap.size w w' := by
 have HB := Aside0.mk (Below.refl w.heap.size w)
 have H : ((slices_Repeat_int64_int64.f (([(-1)] : List Int)) a0).bind fun t349 => (some t349)) = some r := h
 clear h
 obtain ⟨y346, hy346⟩ : ∃ y_ : List Int, y_ = (([(-1)] : List Int)) := ⟨_, rfl⟩
 replace H : ((slices_Repeat_int64_int64.f y346 a0).bind fun t349 => (some t349)) = some r := by first | (rw [hy346]; with_reducible exact H) | (have H2_ := (Option.bind_some _ _).symm.trans H; rw [hy346]; with_reducible exact H2_) | (have H2_ := (Option.bind_some _ _).symm.trans H; with_reducible exact H2_) | with_reducible exact H | (rw [hy346]; exact H) | exact H
 have Ny346 := Aside0.mk hy346
 clear hy346
 replace H := Option.bind_eq_some_iff.mp H
 obtain ⟨t349, A20, H⟩ := H
 set_option simprocs false in try dsimp only at H
 have A2 := Aside0.mk A20
 clear A20
 obtain rfl := Option.some.inj H
 go_enter Tryz.func48, Tryz.ntmps48
 go_wp2_with (first | ((with_reducible refine gate_dst (N := 3) rfl ?_); refine Kd.R_lit (Kd.int .i64) _ 2 ?hg (N := 3) ?hd (xs := ([(-1)] : List Int)) (inner := [.int .i64 (-1)]) (ok := fun _ => True) (okp := fun _ => True) ?hr ?hp (fun _ hk => hk) trivial (Below.refl _ _) (Nat.le_refl _) (by simp) ?_; (case hd => rfl); (case hg => rfl); (case hr => first | (go_simp; done) | (go_simp; rfl)); (case hp => exact (Reps.one (show Kd.M (Kd.int .i64) _ _ _ (-1) [.int .i64 (-1)] from rfl) (Reps.none _ _))); intro v347 w3 ho4 hb hg_ hnew_; clear hg_ hnew_; (first | rw [← Ny346.out] at ho4 | (simp only [Int.reduceToNat] at ho4; rw [← Ny346.out] at ho4)); have n0_ := Aside0.mk (Kd.R_lower ho4 (below_size (by repeat first | exact HB.out | apply pw_below_drewN))); have n1_ := Aside0.mk (below_step (by repeat first | exact HB.out | apply pw_below_drewN) hb); clear HB; have HO348 := n0_; have HB := n1_; clear n0_ n1_; clear hb ho4; obtain ⟨Ao5, co5, eo5⟩ := Kd.R_slice HO348.out; subst eo5) | ((with_reducible refine gate_callee (f := 68) rfl ?_); refine gl (some 5) Tryz.func68 #[.slice Ao5 y346.length co5, .int .i64 a0] ?_; (with_reducible refine (slices_Repeat_int64_int64.calls _ _ y346 a0 t349 _ ?side1 ?side2 A2.out).mono ?_); (case side1 => exact (Kd.R_reads' HO348.out).2.2); (case side2 => exact (Kd.R_reads' HO348.out).2.1); rintro e w6 ⟨v350, rfl, ho0, hb⟩; refine ⟨_, rfl, ?_⟩; have n0_ := Aside0.mk (Kd.R_elder' (by (with_reducible repeat (first | apply Kd.R_alloc | apply Kd.R_drewN | apply Kd.R_drew)); exact HO348.out) (Kd.R_base ho0) hb); have n1_ := Aside0.mk (Kd.R_lower (Kd.R_new' ho0 (Kd.R_lt (by (with_reducible repeat (first | apply Kd.R_alloc | apply Kd.R_drewN | apply Kd.R_drew)); exact HO348.out))) (below_size (by repeat first | exact HB.out | apply pw_below_drewN))); have n2_ := Aside0.mk (below_step (by repeat first | exact HB.out | apply pw_below_drewN) hb); clear HO348; clear HB; have HO348 := n0_; have HO351 := n1_; have HB := n2_; clear n0_ n1_ n2_; (try clear hb); (try clear hb2); (try clear hk); (try clear hi); (try clear ho0)))
 go_ret
 exact ⟨_, by first | rfl | (simp [*, errW_none, errW_some] <;> rfl), by (with_reducible repeat (first | apply Kd.R_alloc | apply Kd.R_drewN | apply Kd.R_drew)); exact Kd.R_mono HO351.out (fun _ hk => trivial), by repeat first | exact HB.out | apply pw_below_drewN⟩

/-! ### slices_Index_int64_int64: function 74 -/
def slices_Index_int64_int64.l0 : Nat → List Int → Int → Int → Int → Option (Int)
 | 0, _, _, _, _ => none
 | k + 1, x0, x1, x7, x8 => if x8 < x7 then (if 0 ≤ x8 then (if x8 < (x0.length : Int) then (if x1 = (rd x0 x8) then (some x8) else (slices_Index_int64_int64.l0 k x0 x1 x7 (wrap64 (x8 + 1)))) else (none)) else (none)) else (some (-1))
def slices_Index_int64_int64.f (k : Nat) (l0 : List Int) (a1 : Int) : Option (Int) := slices_Index_int64_int64.l0 k l0 a1 (l0.length : Int) 0
set_option maxHeartbeats 8000000 in
set_option maxRecDepth 100000 in
theorem slices_Index_int64_int64.calls (k : Nat) (A0 : Option Addr) (c0 : Nat) (l0 : List Int) (a1 : Int) (r : Int) (w : World) (hr0 : Kd.C (Kd.int .i64) w A0 l0.length l0) (hc0 : l0.length ≤ c0) (h : slices_Index_int64_int64.f k l0 a1 = some r) :
  Calls Tryz.prog 74 #[.slice A0 l0.length c0, .int .i64 a1] w fun e w' => e = .returned (.int .i64 r) ∧ Drawn0 w w' := by
 have HR0 := Aside0.mk hr0
 have HC0 := Aside0.mk hc0
 clear hr0 hc0
 have H : (slices_Index_int64_int64.l0 k l0 a1 (l0.length : Int) 0) = some r := h
 clear h
 have H' := Aside0.mk H
 clear H
 go_enter Tryz.func74, Tryz.ntmps74
 go_wp2
 go_loopg [8] k (fun kq v8 w' => ∃ (x8_1 : Int), v8 = .int .i64 x8_1 ∧ Aside0 (slices_Index_int64_int64.l0 kq l0 a1 (l0.length : Int) x8_1 = some r) ∧ Aside0 (kq ≤ k) ∧ Drawn0 w w')
 case atStart => exact ⟨(0), (by first | rfl | (simp; done) | (simp [*]; done)), H', ⟨Nat.le_refl _⟩, by repeat (first | exact Drawn0.refl _ | apply Drawn0.step)⟩
 case round =>
  clear H'
  try clear p2
  obtain ⟨x8_1, rfl, HA, HK1, ⟨m1, rfl⟩⟩ := hrel
  cases gk with
  | zero => exact absurd HA.out (by simp [slices_Index_int64_int64.l0])
  | succ k1 =>
   have H := HA.out
   clear HA
   simp only [slices_Index_int64_int64.l0] at H
   by_cases c3 : x8_1 < (l0.length : Int)
   ·rw [if_pos c3] at H
    have c3b0 : decide (x8_1 < (l0.length : Int)) = true := decide_eq_true c3
    clear c3
    by_cases c4 : 0 ≤ x8_1
    ·rw [if_pos c4] at H
     have c4b0 : decide (0 ≤ x8_1) = true := decide_eq_true c4
     clear c4
     by_cases c5 : x8_1 < (l0.length : Int)
     ·rw [if_pos c5] at H
      have c5b0 : decide (x8_1 < (l0.length : Int)) = true := decide_eq_true c5
      clear c5
      by_cases c6 : a1 = (rd l0 x8_1)
      ·rw [if_pos c6] at H
       have c6b0 : (a1 == (rd l0 x8_1)) = true := beq_iff_eq.mpr c6
       have c6b1 : (a1 != (rd l0 x8_1)) = false := bne_eq_false_iff_eq.mpr c6
       clear c6
       obtain rfl := Option.some.inj H
       have p352 : 0 ≤ (x8_1 : Int) := of_decide_eq_true (by assumption)
       have q352 : x8_1 < (l0.length : Int) := of_decide_eq_true (by assumption)
       obtain ⟨ad352, e352, hx352_0⟩ := Kd.at_int HR0.out x8_1 p352 q352
       cases e352
       replace p352 := eq_true p352
       replace q352 := eq_true q352
       go_wp2
       go_ret
       exact ⟨by first | rfl | (simp; done) | (simp [*]; done), by repeat (first | exact Drawn0.refl _ | apply Drawn0.step)⟩
      ·rw [if_neg c6] at H
       have c6b0 : (a1 == (rd l0 x8_1)) = false := beq_eq_false_iff_ne.mpr c6
       have c6b1 : (a1 != (rd l0 x8_1)) = true := bne_iff_ne.mpr c6
       have H' := Aside0.mk H
       clear H
       have p352 : 0 ≤ (x8_1 : Int) := of_decide_eq_true (by assumption)
       have q352 : x8_1 < (l0.length : Int) := of_decide_eq_true (by assumption)
       obtain ⟨ad352, e352, hx352_0⟩ := Kd.at_int HR0.out x8_1 p352 q352
       cases e352
       replace p352 := eq_true p352
       replace q352 := eq_true q352
       go_wp2
       go_roundg k1
       case measure => have := HK1.out; omega
       case rel => exact ⟨(wrap64 (x8_1 + 1)), (by first | rfl | (simp; done) | (simp [*]; done)), H', ⟨by have := HK1.out; omega⟩, by repeat (first | exact Drawn0.refl _ | apply Drawn0.step)⟩
     ·rw [if_neg c5] at H
      exact absurd H (by simp)
    ·rw [if_neg c4] at H
     exact absurd H (by simp)
   ·rw [if_neg c3] at H
    have c3b0 : decide (x8_1 < (l0.length : Int)) = false := decide_eq_false c3
    clear c3
    obtain rfl := Option.some.inj H
    go_wp2
    go_ret
    exact ⟨by first | rfl | (simp; done) | (simp [*]; done), by repeat (first | exact Drawn0.refl _ | apply Drawn0.step)⟩

/-! ### slices_Contains_int64_int64: function 56 -/
def slices_Contains_int64_int64.f (k : Nat) (l0 : List Int) (a1 : Int) : Option (Bool) := (slices_Index_int64_int64.f k l0 a1).bind fun t353 => (some (decide (t353 ≥ 0)))
set_option maxHeartbeats 8000000 in
set_option maxRecDepth 100000 in
theorem slices_Contains_int64_int64.calls (k : Nat) (A0 : Option Addr) (c0 : Nat) (l0 : List Int) (a1 : Int) (r : Bool) (w : World) (hr0 : Kd.C (Kd.int .i64) w A0 l0.length l0) (hc0 : l0.length ≤ c0) (h : slices_Contains_int64_int64.f k l0 a1 = some r) :
  Calls Tryz.prog 56 #[.slice A0 l0.length c0, .int .i64 a1] w fun e w' => e = .returned (.bool r) ∧ Drawn0 w w' := by
 have HR0 := Aside0.mk hr0
 have HC0 := Aside0.mk hc0
 clear hr0 hc0
 have H : ((slices_Index_int64_int64.f k l0 a1).bind fun t353 => (some (decide (t353 ≥ 0)))) = some r := h
 clear h
 replace H := Option.bind_eq_some_iff.mp H
 obtain ⟨t353, A30, H⟩ := H
 set_option simprocs false in try dsimp only at H
 have A3 := Aside0.mk A30
 clear A30
 obtain rfl := Option.some.inj H
 go_enter Tryz.func56, Tryz.ntmps56
 go_wp2_with (first | ((with_reducible refine gate_callee (f := 74) rfl ?_); refine gl (some 7) Tryz.func74 #[.slice A0 l0.length c0, .int .i64 a1] ?_; (with_reducible refine (slices_Index_int64_int64.calls k _ _ l0 a1 t353 _ ?side1 ?side2 A3.out).mono ?_); (case side1 => exact HR0.out); (case side2 => exact HC0.out); rintro e w' ⟨rfl, ⟨nd, rfl⟩⟩; refine ⟨_, rfl, ?_⟩))
 go_ret
 exact ⟨by first | rfl | (simp; done) | (simp [*]; done), by repeat (first | exact Drawn0.refl _ | apply Drawn0.step)⟩

end Go.Proofs.YtkadeelplnkpgaaGreat.Q

namespace Go.Proofs.YtkadeelplnkpgaaGreatW.PrintMore
open Go.Shelf
def Tryz.sortL_ren : Go.Shelf.Ren := ⟨fun | 5 => 103 | 8 => 107 | 7 => 106 | 19 => 119 | 20 => 120 | 10 => 110 | 11 => 111 | 12 => 112 | 13 => 113 | 14 => 114 | 15 => 115 | 16 => 116 | 17 => 117 | 18 => 118 | 30 => 121 | 31 => 122 | 32 => 123 | 33 => 124 | 34 => 125 | 35 => 126 | 40 => 127 | n => n, fun | 23 => 29 | 25 => 2 | 3 => 3 | 32 => 103 | 22 => 29 | 0 => 0 | 44 => 114 | 46 => 117 | 4 => 4 | 36 => 131 | 35 => 130 | 41 => 136 | 5 => 5 | 9 => 9 | 53 => 140 | 57 => 144 | 63 => 146 | 64 => 147 | n => n, fun | n => n⟩
theorem Tryz.sortL : Go.Proofs.SlLaysM.n5 Tryz.prog Tryz.sortL_ren := {
 mixed := by kernel_rfl
 f5 := ⟨Tryz.f103.name, by decide, Tryz.func103.trans (congrArg some (by kernel_rfl))⟩
 f7 := ⟨Tryz.f106.name, by decide, Tryz.func106.trans (congrArg some (by kernel_rfl))⟩
 f8 := Tryz.func107.trans (congrArg some (by kernel_rfl))
 f10 := ⟨Tryz.f110.name, by decide, Tryz.func110.trans (congrArg some (by kernel_rfl))⟩
 f11 := ⟨Tryz.f111.name, by decide, Tryz.func111.trans (congrArg some (by kernel_rfl))⟩
 f12 := ⟨Tryz.f112.name, by decide, Tryz.func112.trans (congrArg some (by kernel_rfl))⟩
 f13 := ⟨Tryz.f113.name, by decide, Tryz.func113.trans (congrArg some (by kernel_rfl))⟩
 f14 := ⟨Tryz.f114.name, by decide, Tryz.func114.trans (congrArg some (by kernel_rfl))⟩
 f15 := ⟨Tryz.f115.name, by decide, Tryz.func115.trans (congrArg some (by kernel_rfl))⟩
 f16 := ⟨Tryz.f116.name, by decide, Tryz.func116.trans (congrArg some (by kernel_rfl))⟩
 f17 := ⟨Tryz.f117.name, by decide, Tryz.func117.trans (congrArg some (by kernel_rfl))⟩
 f18 := ⟨Tryz.f118.name, by decide, Tryz.func118.trans (congrArg some (by kernel_rfl))⟩
 f19 := Tryz.func119.trans (congrArg some (by kernel_rfl))
 f20 := Tryz.func120.trans (congrArg some (by kernel_rfl))
 f30 := ⟨Tryz.f121.name, by decide, Tryz.func121.trans (congrArg some (by kernel_rfl))⟩
 f31 := Tryz.func122.trans (congrArg some (by kernel_rfl))
 f32 := Tryz.func123.trans (congrArg some (by kernel_rfl))
 f33 := ⟨Tryz.f124.name, by decide, Tryz.func124.trans (congrArg some (by kernel_rfl))⟩
 f34 := ⟨Tryz.f125.name, by decide, Tryz.func125.trans (congrArg some (by kernel_rfl))⟩
 f35 := ⟨Tryz.f126.name, by decide, Tryz.func126.trans (congrArg some (by kernel_rfl))⟩
 f40 := ⟨Tryz.f127.name, by decide, Tryz.func127.trans (congrArg some (by kernel_rfl))⟩
 t0 := Tryz.underlying0
 a0 := Tryz.isAgg0
 z0 := Tryz.sizeOf0
 v0 := Tryz.zeroValue0
 t3 := Tryz.underlying3
 a3 := Tryz.isAgg3
 z3 := Tryz.sizeOf3
 v3 := Tryz.zeroValue3
 t4 := Tryz.underlying4
 a4 := Tryz.isAgg4
 z4 := Tryz.sizeOf4
 v4 := Tryz.zeroValue4
 t5 := Tryz.underlying5
 a5 := Tryz.isAgg5
 z5 := Tryz.sizeOf5
 v5 := Tryz.zeroValue5
 t9 := Tryz.underlying9
 a9 := Tryz.isAgg9
 z9 := Tryz.sizeOf9
 v9 := Tryz.zeroValue9
 t22 := Tryz.underlying29
 a22 := Tryz.isAgg29
 z22 := Tryz.sizeOf29
 v22 := Tryz.zeroValue29
 t23 := Tryz.underlying29
 a23 := Tryz.isAgg29
 z23 := Tryz.sizeOf29
 v23 := Tryz.zeroValue29
 t25 := Tryz.underlying2
 a25 := Tryz.isAgg2
 z25 := Tryz.sizeOf2
 v25 := Tryz.zeroValue2
 t32 := Tryz.underlying103
 a32 := Tryz.isAgg103
 z32 := Tryz.sizeOf103
 v32 := Tryz.zeroValue103
 t35 := Tryz.underlying130
 a35 := Tryz.isAgg130
 z35 := Tryz.sizeOf130
 v35 := Tryz.zeroValue130
 t36 := Tryz.underlying131
 a36 := Tryz.isAgg131
 z36 := Tryz.sizeOf131
 v36 := Tryz.zeroValue131
 t41 := Tryz.underlying136
 a41 := Tryz.isAgg136
 z41 := Tryz.sizeOf136
 v41 := Tryz.zeroValue136
 t44 := Tryz.underlying114
 a44 := Tryz.isAgg114
 z44 := Tryz.sizeOf114
 v44 := Tryz.zeroValue114
 t46 := Tryz.underlying117
 a46 := Tryz.isAgg117
 z46 := Tryz.sizeOf117
 v46 := Tryz.zeroValue117
 t53 := Tryz.underlying140
 a53 := Tryz.isAgg140
 z53 := Tryz.sizeOf140
 v53 := Tryz.zeroValue140
 t57 := Tryz.underlying144
 a57 := Tryz.isAgg144
 z57 := Tryz.sizeOf144
 v57 := Tryz.zeroValue144
 t63 := Tryz.underlying146
 a63 := Tryz.isAgg146
 z63 := Tryz.sizeOf146
 v63 := Tryz.zeroValue146
 t64 := Tryz.underlying147
 a64 := Tryz.isAgg147
 z64 := Tryz.sizeOf147
 v64 := Tryz.zeroValue147 }
open Go.RowKit Go.Sort Go.Proofs.YtkadeelplnkpgaaGreatW.PrintWords Go.Proofs.YtkadeelplnkpgaaGreatW.PrintLast
/-- the numbers, rising -/
def sortI (l : List Int) : List Int := l.mergeSort fun x y => decide (x ≤ y)
theorem sortI_length (l : List Int) : (sortI l).length = l.length := List.length_mergeSort _
theorem reps_int {w : World} {base : Nat} {ok : Nat → Prop} {l : List Int} {inner : List Value} (h : Reps ((Kd.int .i64).M w base ok) 1 l inner) : inner = l.map (Value.int .i64) := by
 obtain ⟨h1, h2⟩ := h
 apply List.ext_getElem (by simpa using h1)
 intro i hi hi2
 have hl : i < l.length := by simpa using hi2
 have h3 : [inner[i]] = [Value.int .i64 l[i]] := by
  have := h2 i l[i] (List.getElem?_eq_getElem hl)
  rw [Nat.mul_one, List.drop_eq_getElem_cons (by omega)] at this
  exact this
 simpa using h3
theorem int_reps {w : World} {base : Nat} {ok : Nat → Prop} (l : List Int) : Reps ((Kd.int .i64).M w base ok) 1 l (l.map (Value.int .i64)) := by
 refine ⟨by simp, fun j p hj => ?_⟩
 obtain ⟨hl, rfl⟩ := List.getElem?_eq_some_iff.1 hj
 rw [Nat.mul_one, List.drop_eq_getElem_cons (by simpa using hl)]
 show [_] = [_]
 simp
/-- a slice of the call's own is sorted in place -/
theorem sortOwn.calls {base : Nat} {ok : Nat → Prop} {v : Value} {l : List Int} (w : World) (h : Kd.R (Kd.int .i64) 2 w base ok v l) (hn : l.length ≤ 1048576) :
  Calls Tryz.prog 103 #[v] w fun e w' => e = .returned (.tuple #[]) ∧ Kd.R (Kd.int .i64) 2 w' base ok v (sortI l) ∧ w.grownBy w' v.ownBlock := by
 obtain ⟨h0, inner, ho, hr⟩ := h
 have hi := reps_int hr
 subst hi
 obtain ⟨h1, h2⟩ := ho
 rcases h2 with ⟨rfl, h2⟩ | ⟨g, cap, cur, rfl, hg, hb, hl, hc, hs, ht⟩
 ·have hl : l = [] := List.eq_nil_of_length_eq_zero h2
  subst hl
  refine (AnyM.slices_Sort_int_none Tryz.sortL none 0 w).mono ?_
  rintro e w' ⟨rfl, rfl⟩
  have e : sortI [] = [] := by simp [sortI]
  rw [e]
  exact ⟨rfl, ⟨h0, [], ⟨rfl, .inl ⟨rfl, rfl⟩⟩, int_reps (w := w') (base := base) []⟩, grown_of_below (Below.refl _ _) _⟩
 ·have hmm := AnyM.slices_Sort_int Tryz.sortL g 0 cap l w (holds_of_blockI hb (by have ht : List.take (l.length * 1) cur.toList = _ := ht; rw [Nat.mul_one] at ht; exact ht)) (blk_lt hb) (by omega)
  refine hmm.mono ?_
  rintro e w' ⟨rfl, n, os, rfl⟩
  refine ⟨rfl, ⟨h0, (sortI l).map (Value.int .i64), ?_, int_reps _⟩, grownBy_sortedI _⟩
  have := ownsRow_sortedI (w := w) (base := base) (g := g) (cap := cap) (n := n) (e := 2) (os := os) (cur := cur) (ss := l) (ts := sortI l) (sortI_length l) hg hb hl hc hs
  rw [sortI_length]
  exact this

end Go.Proofs.YtkadeelplnkpgaaGreatW.PrintMore

namespace Go.Proofs.YtkadeelplnkpgaaGreat.Q
open Go.RowKit Go.Proofs.YtkadeelplnkpgaaGreatW.PrintWords Go.Proofs.YtkadeelplnkpgaaGreatW.PrintLast Go.Proofs.YtkadeelplnkpgaaGreatW.PrintMore
attribute [local go_sem] max2_int min2_int max_two min_two max_three min_three max_four min_four   -- for this text's walks alone
set_option linter.unusedVariables false
set_option linter.unusedSimpArgs false
/-! ### impl_Tree_nodesUnder: function 98 -/
/-- the lists of some things, one behind the other -/
def underL (g : Int → Option (List Int)) : List Int → List Int → Option (List Int)
 | out, [] => some out
 | out, x :: xs => (g x).bind fun l => if out.length + l.length ≤ 1048576 then underL g (out ++ l) xs else none
theorem underL_here (g : Int → Option (List Int)) (out l : List Int) (i : Int) (h0 : 0 ≤ i) (h1 : i < (l.length : Int)) : underL g out (l.drop i.toNat) = (g (rd l i)).bind fun t => if out.length + t.length ≤ 1048576 then underL g (out ++ t) (l.drop (i + 1).toNat) else none := by
 obtain ⟨n, rfl⟩ := Int.eq_ofNat_of_zero_le h0
 have hl : n < l.length := by omega
 have e : ((n : Int) + 1).toNat = n + 1 := by omega
 have er : rd l (n : Int) = l[n] := by unfold rd; rw [Int.toNat_natCast, List.getD_eq_getElem?_getD, List.getElem?_eq_getElem hl]; rfl
 rw [e, Int.toNat_natCast, List.drop_eq_getElem_cons hl, er]
 rfl
theorem underL_length (g : Int → Option (List Int)) : ∀ l out t, out.length ≤ 1048576 → underL g out l = some t → t.length ≤ 1048576
 | [], out, t, h0, h => by
  obtain rfl := Option.some.inj h
  exact h0
 | x :: xs, out, t, h0, h => by
  obtain ⟨y, hy, h2⟩ := Option.bind_eq_some_iff.1 h
  by_cases c : out.length + y.length ≤ 1048576
  ·rw [if_pos c] at h2
   exact underL_length g xs (out ++ y) t (by rw [List.length_append]; exact c) h2
  ·rw [if_neg c] at h2; cases h2
def impl_Tree_nodesUnder.f : Nat → List (S72) → List (S68) → Int → Option (List Int)
 | 0, _, _, _ => none
 | k + 1, l0_0, l0_1, a1 => if bucketAt l0_1 a1 < 0 then some [a1] else (underL (fun x => impl_Tree_nodesUnder.f k l0_0 l0_1 x) [] (rd_T68 l0_1 (bucketAt l0_1 a1)).f2).map sortI
set_option maxHeartbeats 4000000 in
set_option maxRecDepth 100000 in
theorem impl_Tree_nodesUnder.calls : ∀ (k : Nat) (A0_0 : Option Addr) (c0_0 : Nat) (l0_0 : List (S72)) (A0_1 : Option Addr) (c0_1 : Nat) (l0_1 : List (S68)) (a1 : Int) (r : List Int) (w : World) (hr0_0 : Kd.C k72 w A0_0 l0_0.length l0_0) (hc0_0 : l0_0.length ≤ c0_0) (hr0_1 : Kd.C k68 w A0_1 l0_1.length l0_1) (hc0_1 : l0_1.length ≤ c0_1) (h : impl_Tree_nodesUnder.f k l0_0 l0_1 a1 = some r),
  Calls Tryz.prog 98 #[.agg #[.slice A0_0 l0_0.length c0_0, .slice A0_1 l0_1.length c0_1], .int .i64 a1] w fun e w' => ∃ v_ : Value, e = .returned v_ ∧ Kd.R (Kd.int .i64) 2 w' w.heap.size (fun _ => True) v_ r ∧ Below w.heap.size w w'
 | 0, _, _, _, _, _, _, _, _, _, _, _, _, _, h => by cases h
 | k + 1, A0_0, c0_0, l0_0, A0_1, c0_1, l0_1, a1, r, w, hr0_0, hc0_0, hr0_1, hc0_1, h => by
  have HR0 := Aside0.mk hr0_0
  have HR1 := Aside0.mk hr0_1
  have HC0 := Aside0.mk hc0_0
  have HC1 := Aside0.mk hc0_1
  have HIH := Aside0.mk (impl_Tree_nodesUnder.calls k)
  clear hr0_0 hr0_1 hc0_0 hc0_1
  unfold impl_Tree_nodesUnder.f at h
  by_cases hb : bucketAt l0_1 a1 < 0
  ·rw [if_pos hb] at h
   obtain rfl := Option.some.inj h
   clear h
   go_enter Tryz.func98, Tryz.ntmps98
   go_wp2_with fail
   have HB := Aside0.mk (below_alloc (Below.refl w.heap.size w) (.cells #[.slice A0_0 l0_0.length c0_0, .slice A0_1 l0_1.length c0_1] 35))
   refine (bucket_none.calls A0_0 c0_0 l0_0 A0_1 c0_1 l0_1 a1 _ (Kd.C_below HR1.out HB.out) hb).mono ?_
   rintro e w1 ⟨rfl, hb1⟩
   replace HB := Aside0.mk (below_step HB.out hb1)
   clear hb1 hb
   go_wp2_with (first | ((with_reducible refine gate_dst (N := 15) rfl ?_); refine Kd.R_lit (Kd.int .i64) _ 2 ?hg (N := 15) ?hd (xs := ([a1] : List Int)) (inner := [.int .i64 a1]) (ok := fun _ => True) (okp := fun _ => True) ?hr ?hp (fun _ hk => hk) trivial (Below.refl _ _) (Nat.le_refl _) (by simp) ?_; (case hd => rfl); (case hg => rfl); (case hr => first | (go_simp; done) | (go_simp; rfl)); (case hp => exact (Reps.one (show Kd.M (Kd.int .i64) _ _ _ a1 [.int .i64 a1] from rfl) (Reps.none _ _))); intro v2 w2 ho hb2 hg_ hnew_; have HO := Aside0.mk (Kd.R_lower ho (below_size HB.out)); have HB2 := Aside0.mk (below_step HB.out hb2); clear ho hb2 hg_ hnew_))
   go_ret
   exact ⟨_, rfl, HO.out, HB2.out⟩
  ·rw [if_neg hb] at h
   obtain ⟨tot, htot, rfl⟩ := Option.map_eq_some_iff.1 h
   have hb0 : 0 ≤ bucketAt l0_1 a1 := by omega
   have hlt := bucketAt_lt l0_1 a1 hb0
   obtain ⟨ad, A2, c2, rfl, hx0, hx1, hx2, hl2, hg2⟩ := at_T68 HR1.out _ hb0 hlt
   have HTL := Aside0.mk (underL_length _ _ _ _ (by simp) htot)
   have HT := Aside0.mk (show underL (fun x => impl_Tree_nodesUnder.f k l0_0 l0_1 x) [] ((rd_T68 l0_1 (bucketAt l0_1 a1)).f2.drop (0 : Int).toNat) = some tot from htot)
   have HX2 := Aside0.mk hx2
   have HG2 := Aside0.mk hg2
   clear h htot hb hx0 hx1 hx2 hl2 hg2
   go_enter Tryz.func98, Tryz.ntmps98
   go_wp2_with fail
   have BK := Aside0.mk (blk_new w (.cells #[.slice A0_0 l0_0.length c0_0, .slice (some ad) l0_1.length c0_1] 35))
   have HB := Aside0.mk (below_alloc (Below.refl w.heap.size w) (.cells #[.slice A0_0 l0_0.length c0_0, .slice (some ad) l0_1.length c0_1] 35))
   refine (bucket_some.calls A0_0 c0_0 l0_0 (some ad) c0_1 l0_1 a1 _ (Kd.C_below HR1.out HB.out) ad rfl hb0).mono ?_
   rintro e w1 ⟨rfl, hb1⟩
   replace BK := Aside0.mk (blk_below BK.out hb1)
   replace HB := Aside0.mk (below_step HB.out hb1)
   clear hb1
   have hx2 := (HB.out.cell (World.block_lt_of_cell? w _ HX2.out)).trans HX2.out
   clear HX2 hb0 hlt
   generalize bucketAt l0_1 a1 = j at hx2 HT HG2 ⊢
   generalize (rd_T68 l0_1 j).f2 = items at hx2 HT HG2
   have hmi := Kd.C_max HG2.out
   go_wp2_with fail
   clear hx2
   obtain ⟨gt, hgt⟩ : ∃ g, g = w.heap.size := ⟨_, rfl⟩
   have HGT := Aside0.mk hgt
   rw [← hgt] at BK ⊢
   clear hgt
   go_loopg [6, 21] items.length (fun gg s6 s21 wr => ∃ (kk : Int) (out : List Int), 0 ≤ kk ∧ kk ≤ items.length ∧ (items.length : Int) - kk ≤ gg ∧ s21 = .int .i64 kk ∧ out.length ≤ 1048576 ∧ Aside0 (Below w.heap.size w wr) ∧ Aside0 (wr.heap[gt]? = some (.cells #[.slice A0_0 l0_0.length c0_0, .slice (some ad) l0_1.length c0_1] 35 (0, 0))) ∧ Aside0 (Kd.R (Kd.int .i64) 2 wr w.heap.size (fun _ => True) s6 out) ∧ Aside0 (underL (fun x => impl_Tree_nodesUnder.f k l0_0 l0_1 x) out (items.drop kk.toNat) = some tot))
   case atStart => exact ⟨0, [], by omega, by omega, by omega, rfl, by simp, HB, BK, ⟨Kd.R_nil _ _ _ _ _⟩, HT⟩
   case round =>
    clear HB BK HT
    obtain ⟨kk, out, h0, hk, hg, rfl, hol, HB, BK, HO, HT⟩ := hrel
    have ht0 := (blk_cell BK.out 0).trans rfl
    have ht1 := (blk_cell BK.out 1).trans rfl
    by_cases hlt : kk < (items.length : Int)
    ·obtain ⟨ae, rfl, hy0⟩ := Kd.at_int HG2.out kk h0 hlt
     replace hy0 := (HB.out.cell (World.block_lt_of_cell? w _ hy0)).trans hy0
     have q0 := eq_true h0
     have q1 := eq_true hlt
     have HN := Aside0.mk (by have := underL_here (fun x => impl_Tree_nodesUnder.f k l0_0 l0_1 x) out items kk h0 hlt; rw [HT.out] at this; exact this.symm)
     clear HT
     generalize rd items kk = x at hy0 HN
     obtain ⟨tl, htl, hn⟩ := Option.bind_eq_some_iff.1 HN.out
     have HTL2 := Aside0.mk htl
     by_cases hsm : out.length + tl.length ≤ 1048576
     case neg => rw [if_neg hsm] at hn; cases hn
     rw [if_pos hsm] at hn
     have HSM := Aside0.mk hsm
     replace HN := Aside0.mk hn
     clear htl hn hsm
     go_wp2_with fail
     refine (HIH.out A0_0 c0_0 l0_0 (some ad) c0_1 l0_1 x tl _ (Kd.C_below HR0.out HB.out) HC0.out (Kd.C_below HR1.out HB.out) HC1.out HTL2.out).mono ?_
     rintro e w2 ⟨v2, rfl, ho2, hb2⟩
     have HB2 := Aside0.mk (below_step HB.out hb2)
     have BK2 := Aside0.mk (blk_below BK.out hb2)
     have HO2 := Aside0.mk (Kd.R_below HO.out hb2)
     obtain ⟨Av, cv, ev, hlv, hCv⟩ := Kd.R_reads ho2
     subst ev
     have HCV := Aside0.mk hCv
     clear ho2 hb2 hlv hCv HB BK HO ht0 ht1 hy0
     go_wp2_with (first | ((with_reducible refine gate_builtin (b := .append) (xs := #[.tmp 25, .tmp 28]) rfl ?_); at_builtin; refine Kd.R_append_rows (Kd.int .i64) (w0 := w) w.heap.size rfl (.tmp 25) (.tmp 28) 29 2 (.int .i64 0) 8 rfl Tryz.underlying29 info2 rfl (by decide) (by omega) _ out tl _ _ _ (fun _ => True) (fun _ => False) rfl rfl ?aO ?aR (fun _ _ h => h) (fun _ h => h.elim) ?aF ?aB ?aS ?aL ?_; (case aR => exact HCV.out); (case aB => exact HB2.out); (case aF => exact (fun _ _ => trivial)); (case aO => exact HO2.out); (case aS => exact below_size HB2.out); (case aL => have := HSM.out; omega); intro v3 w3 ho3 hb3 hg3 hat3; have HO3 := Aside0.mk ho3; have HB3 := Aside0.mk hb3; have BK3 := Aside0.mk (hg3.block _ (blk_lt BK2.out) (Kd.R_ne HO2.out BK2.out (by decide)) |>.trans BK2.out); clear ho3 hb3 hg3 hat3))
     go_roundg (gk - 1)
     case measure => omega
     case rel => exact ⟨kk + 1, out ++ tl, by omega, by omega, by omega, by go_num, by rw [List.length_append]; exact HSM.out, HB3, BK3, HO3, HN⟩
    ·obtain rfl : kk = items.length := by omega
     have HE := Aside0.mk (show out = tot from by have := HT.out; rw [Int.toNat_natCast, List.drop_length] at this; exact Option.some.inj this)
     clear HT
     go_wp2_with fail
     refine (sortOwn.calls wr HO.out hol).mono ?_
     rintro e w2 ⟨rfl, ho, hg2⟩
     have HO2 := Aside0.mk ho
     have HB2 := Aside0.mk (pw_below_grown HB.out _ HB.out.size hg2 (fun k hk => Kd.R_base HO.out k hk))
     clear ho hg2
     go_wp2_with fail
     go_ret
     exact ⟨_, rfl, by rw [← HE.out]; exact HO2.out, HB2.out⟩

/-! ### impl_Tree_weight: function 93 -/
def impl_Tree_weight.l0 : Nat → Int → List Int → Int → Int → List (S72) → List (S68) → Option (Int)
 | 0, _, _, _, _, _, _ => none
 | k + 1, x5, x10, x11, x12, x355000, x355001 => if x12 < x11 then (if 0 ≤ x12 then (if x12 < (x10.length : Int) then ((impl_Tree_device.f x355000 x355001 (rd x10 x12)).bind fun t359 => (if 0 ≤ t359 then (if t359 < (x355000.length : Int) then (impl_Tree_weight.l0 k (wrap64 (x5 + ((rd_T72 x355000 t359).f1))) x10 x11 (wrap64 (x12 + 1)) x355000 x355001) else (none)) else (none))) else (none)) else (none)) else (some x5)
def impl_Tree_weight.f (k : Nat) (l0_0 : List (S72)) (l0_1 : List (S68)) (a1 : Int) : Option (Int) := (impl_Tree_nodesUnder.f k l0_0 l0_1 a1).bind fun t355 => (impl_Tree_weight.l0 k 0 t355 (t355.length : Int) 0 l0_0 l0_1)
def impl_Tree_weight.T5 : Bool × List (List Nat × List Nat) := (true, [([], []), ([], []), ([1], [1]), ([], []), ([], []), ([3, 4], [3, 4]), ([2, 5], [2, 5]), ([6], [6]), ([7], [7]), ([0, 8], [0, 8]), ([9, 5, 0, 1, 2, 3, 4, 5, 6, 7, 8, 9], [0, 9])])
def impl_Tree_weight.B5 : List Nat := [0, 0, 2, 0, 0, 24, 62, 126, 254, 511, 1023]
theorem impl_Tree_weight.tab5 : rtab .any (opsOf Tryz.f93 5) = impl_Tree_weight.T5 := by kernel_rfl
theorem impl_Tree_weight.bits5 : waitsOk impl_Tree_weight.T5.2 impl_Tree_weight.B5 = true := by kernel_rfl
set_option maxHeartbeats 8000000 in
set_option maxRecDepth 100000 in
theorem impl_Tree_weight.calls (k : Nat) (A0_0 : Option Addr) (c0_0 : Nat) (l0_0 : List (S72)) (A0_1 : Option Addr) (c0_1 : Nat) (l0_1 : List (S68)) (a1 : Int) (r : Int) (w : World) (hr0_0 : Kd.C k72 w A0_0 l0_0.length l0_0) (hc0_0 : l0_0.length ≤ c0_0) (hr0_1 : Kd.C k68 w A0_1 l0_1.length l0_1) (hc0_1 : l0_1.length ≤ c0_1) (h : impl_Tree_weight.f k l0_0 l0_1 a1 = some r) :
  Calls Tryz.prog 93 #[.agg #[.slice A0_0 l0_0.length c0_0, .slice A0_1 l0_1.length c0_1], .int .i64 a1] w fun e w' => e = .returned (.int .i64 r) ∧ Below w.heap.size w w' := by
 have hu35 := Tryz.underlying35
 have HR0_0 := Aside0.mk hr0_0
 have HC0_0 := Aside0.mk hc0_0
 clear hr0_0 hc0_0
 have HR0_1 := Aside0.mk hr0_1
 have HC0_1 := Aside0.mk hc0_1
 clear hr0_1 hc0_1
 have HB := Aside0.mk (Below.refl w.heap.size w)
 have H : ((impl_Tree_nodesUnder.f k l0_0 l0_1 a1).bind fun t355 => (impl_Tree_weight.l0 k 0 t355 (t355.length : Int) 0 l0_0 l0_1)) = some r := h
 clear h
 replace H := Option.bind_eq_some_iff.mp H
 obtain ⟨t355, A30, H⟩ := H
 set_option simprocs false in try dsimp only at H
 have A3 := Aside0.mk A30
 clear A30
 have H' := Aside0.mk H
 clear H
 go_enter Tryz.func93, Tryz.ntmps93
 go_wp2_with (first | ((with_reducible refine gate_dst (N := 2) rfl ?_); refine box_event ?hg (N := 2) ?hd (cs := #[.slice A0_0 l0_0.length c0_0, .slice A0_1 l0_1.length c0_1]) (t := 35) ?hr ?_; (case hd => rfl); (case hg => rfl); (case hr => first | (go_simp; done) | (go_simp; rfl)); intro gb354 hg w4 hbox hb; have n0_ := Aside0.mk (below_step (by repeat first | exact HB.out | apply pw_below_drewN) hb); have n1_ := Aside0.mk (hbox); clear HB; have HB := n0_; have BK354 := n1_; clear n0_ n1_; clear hb hbox hg; have hcz5_0 := (blk_cell BK354.out 0).trans rfl; have hcz5_1 := (blk_cell BK354.out 1).trans rfl) | ((with_reducible refine gate_callee (f := 98) rfl ?_); refine gl (some 10) Tryz.func98 #[.agg #[.slice A0_0 l0_0.length c0_0, .slice A0_1 l0_1.length c0_1], .int .i64 a1] ?_; (with_reducible refine (impl_Tree_nodesUnder.calls k _ _ l0_0 _ _ l0_1 a1 t355 _ ?side1 ?side2 ?side3 ?side4 A3.out).mono ?_); (case side1 => exact (Kd.C_below HR0_0.out HB.out)); (case side2 => exact HC0_0.out); (case side3 => exact (Kd.C_below HR0_1.out HB.out)); (case side4 => exact HC0_1.out); rintro e w6 ⟨v356, rfl, ho0, hb⟩; refine ⟨_, rfl, ?_⟩; have n0_ := Aside0.mk (Kd.R_lower ho0 (below_size (by repeat first | exact HB.out | apply pw_below_drewN))); have n1_ := Aside0.mk (blk_below (by exact BK354.out) hb); have n2_ := Aside0.mk (below_step (by repeat first | exact HB.out | apply pw_below_drewN) hb); clear BK354; clear HB; have HO357 := n0_; have BK354 := n1_; have HB := n2_; clear n0_ n1_ n2_; (try clear hb); (try clear hb2); (try clear hk); (try clear hi); (try clear ho0); obtain ⟨Ao7, co7, eo7⟩ := Kd.R_slice HO357.out; subst eo7))
 go_loopg [5, 12] k (fun kq v5 v12 w' => ∃ (x5_1 : Int) (x12_1 : Int), v5 = .int .i64 x5_1 ∧ v12 = .int .i64 x12_1 ∧ Aside0 (impl_Tree_weight.l0 kq x5_1 t355 (t355.length : Int) x12_1 l0_0 l0_1 = some r) ∧ Aside0 (kq ≤ k) ∧ Aside0 (Kd.R (Kd.int .i64) 2 w' w.heap.size (fun _ => True) (.slice Ao7 t355.length co7) t355) ∧ Aside0 (w'.heap[gb354]? = some (.cells #[(.slice A0_0 l0_0.length c0_0), (.slice A0_1 l0_1.length c0_1)] 35 (0, 0))) ∧ Aside0 (Below w.heap.size w w'))
 case atStart => exact ⟨(0), (0), (by first | rfl | (simp; done) | (simp [*]; done)), (by first | rfl | (simp; done) | (simp [*]; done)), H', ⟨Nat.le_refl _⟩, ⟨by (with_reducible repeat (first | apply Kd.R_alloc | apply Kd.R_drewN | apply Kd.R_drew)); exact HO357.out⟩, ⟨by exact BK354.out⟩, ⟨by repeat first | exact HB.out | apply pw_below_drewN⟩⟩
 case round =>
  clear H'
  try clear p2
  try clear hcz5_0
  try clear hcz5_1
  obtain ⟨x5_1, x12_1, rfl, rfl, HA, HK1, HO_10, BK354, HB⟩ := hrel
  cases gk with
  | zero => exact absurd HA.out (by simp [impl_Tree_weight.l0])
  | succ k1 =>
   have H := HA.out
   clear HA
   simp only [impl_Tree_weight.l0] at H
   by_cases c8 : x12_1 < (t355.length : Int)
   ·rw [if_pos c8] at H
    have c8b0 : decide (x12_1 < (t355.length : Int)) = true := decide_eq_true c8
    clear c8
    by_cases c9 : 0 ≤ x12_1
    ·rw [if_pos c9] at H
     have c9b0 : decide (0 ≤ x12_1) = true := decide_eq_true c9
     clear c9
     by_cases c10 : x12_1 < (t355.length : Int)
     ·rw [if_pos c10] at H
      have c10b0 : decide (x12_1 < (t355.length : Int)) = true := decide_eq_true c10
      clear c10
      replace H := Option.bind_eq_some_iff.mp H
      obtain ⟨t359, A110, H⟩ := H
      set_option simprocs false in try dsimp only at H
      have A11 := Aside0.mk A110
      clear A110
      by_cases c12 : 0 ≤ t359
      ·rw [if_pos c12] at H
       have c12b0 : decide (0 ≤ t359) = true := decide_eq_true c12
       clear c12
       by_cases c13 : t359 < (l0_0.length : Int)
       ·rw [if_pos c13] at H
        have c13b0 : decide (t359 < (l0_0.length : Int)) = true := decide_eq_true c13
        clear c13
        have H' := Aside0.mk H
        clear H
        have p358 : 0 ≤ (x12_1 : Int) := of_decide_eq_true (by assumption)
        have q358 : x12_1 < (t355.length : Int) := of_decide_eq_true (by assumption)
        obtain ⟨ad358, e358, hx358_0⟩ := Kd.at_int (Kd.R_reads' HO_10.out).2.2 x12_1 p358 q358
        cases e358
        replace p358 := eq_true p358
        replace q358 := eq_true q358
        try go_wp2
        have n0_ := Aside0.mk (Kd.R_drew HO_10.out)
        have n1_ := Aside0.mk (blk_drew BK354.out)
        have n2_ := Aside0.mk (below_drew1 HB.out)
        clear HO_10
        clear BK354
        clear HB
        have HO_10 := n0_
        have BK354 := n1_
        have HB := n2_
        clear n0_ n1_ n2_
        have p360 : 0 ≤ (t359 : Int) := of_decide_eq_true (by assumption)
        have q360 : t359 < (l0_0.length : Int) := of_decide_eq_true (by assumption)
        obtain ⟨ad360, e360, hx360_0, hx360_1⟩ := at_T72 HR0_0.out t359 p360 q360
        have hw360_1 := hx360_1
        have hw360_0 := hx360_0
        cases e360
        replace hx360_0 := (HB.out.cell (World.block_lt_of_cell? w _ hx360_0)).trans hx360_0
        replace hx360_1 := (HB.out.cell (World.block_lt_of_cell? w _ hx360_1)).trans hx360_1
        replace p360 := eq_true p360
        replace q360 := eq_true q360
        refine start_ (n := 11) (S := fun w' => w'.cell? ⟨gb354, 0, none⟩ = some (.slice (some ad360) l0_0.length c0_0) ∧ w'.cell? ⟨gb354, 1, none⟩ = some (.slice A0_1 l0_1.length c0_1) ∧ w'.cell? (ad360.add ((t359).toNat * 2)) = some (.int .i64 ((rd_T72 l0_0 t359).f0)) ∧ w'.cell? ⟨(ad360.add ((t359).toNat * 2)).block, (ad360.add ((t359).toNat * 2)).off + 1, none⟩ = some (.int .i64 ((rd_T72 l0_0 t359).f1))) (ds := []) #[false, false, false, false, false, false, false, false, false, false, false] (by kernel_rfl) rfl rfl ⟨(blk_cell BK354.out 0).trans rfl, (blk_cell BK354.out 1).trans rfl, ((HB.out.cell (World.block_lt_of_cell? w _ hw360_0)).trans hw360_0), ((HB.out.cell (World.block_lt_of_cell? w _ hw360_1)).trans hw360_1)⟩ (fun hHeld => ?_); refine with_tabW impl_Tree_weight.tab5 impl_Tree_weight.bits5 (fun HT_ HW_ => ?_)
        generalize wr.drew = w14 at HO_10 BK354 HB hx360_0 hx360_1 hHeld ⊢
        refine pure_ (i := 0) (N := some 16) (v := ?_) (a' := ?_) #[true, false, false, false, false, false, false, false, false, false, false] rfl rfl (any_of HT_.out (by kernel_rfl)) (fun _ _ _ h => h) (Or.inl ⟨by rfl, ?_⟩) ?_ ?_
        rotate_left
        ·intro w'
         go_simp
         with_reducible rfl
        rotate_left
        ·simp only [Act.put, List.setIfInBounds_toArray, List.set_cons_zero, List.set_cons_succ, i64_w, i32_w]
         rfl
        refine pure_ (i := 1) (N := some 17) (v := ?_) (a' := ?_) #[true, true, false, false, false, false, false, false, false, false, false] rfl rfl (any_of HT_.out (by kernel_rfl)) (fun _ _ _ h => h) (Or.inl ⟨by rfl, ?_⟩) ?_ ?_
        rotate_left
        ·intro w'
         go_simp
         with_reducible rfl
        rotate_left
        ·simp only [Act.put, List.setIfInBounds_toArray, List.set_cons_zero, List.set_cons_succ, i64_w, i32_w]
         rfl
        refine pure_ (i := 4) (N := some 20) (v := ?_) (a' := ?_) #[true, true, false, false, true, false, false, false, false, false, false] rfl rfl (any_of HT_.out (by kernel_rfl)) (fun _ _ _ h => h) (Or.inl ⟨by rfl, ?_⟩) ?_ ?_
        rotate_left
        ·intro w'
         go_simp
         with_reducible rfl
        rotate_left
        ·simp only [Act.put, List.setIfInBounds_toArray, List.set_cons_zero, List.set_cons_succ, i64_w, i32_w]
         rfl
        refine take_ (i := 2) (N := some 18) (v := ?_) (a' := ?_) #[true, true, true, false, true, false, false, false, false, false, false] rfl rfl (take_ofW HT_.out HW_.out (by kernel_rfl)) (fun _ _ _ h => h) (Or.inl ⟨by rfl, ?_⟩) hHeld ?_ ?_
        rotate_left
        ·rintro w' ⟨s0, s1, s2, s3⟩
         go_simp
         with_reducible rfl
        rotate_left
        ·simp only [Act.put, List.setIfInBounds_toArray, List.set_cons_zero, List.set_cons_succ, i64_w, i32_w]
         rfl
        refine take_ (i := 3) (N := some 19) (v := ?_) (a' := ?_) #[true, true, true, true, true, false, false, false, false, false, false] rfl rfl (take_ofW HT_.out HW_.out (by kernel_rfl)) (fun _ _ _ h => h) (Or.inl ⟨by rfl, ?_⟩) hHeld ?_ ?_
        rotate_left
        ·rintro w' ⟨s0, s1, s2, s3⟩
         go_simp
         with_reducible rfl
        rotate_left
        ·simp only [Act.put, List.setIfInBounds_toArray, List.set_cons_zero, List.set_cons_succ, i64_w, i32_w]
         rfl
        refine one_ (i := 5) (N := some 21) #[true, true, true, true, true, true, false, false, false, false, false] rfl rfl (one_of HT_.out (by kernel_rfl)) (by decide) (fun K hK => ?_)
        refine goes_ Tryz.func79 (by kernel_rfl) rfl #[.agg #[.slice (some ad360) l0_0.length c0_0, .slice A0_1 l0_1.length c0_1], .int .i64 (rd t355 x12_1)] (by rfl) rfl rfl (by (try simp only [List.map_toArray, List.map_cons, List.map_nil]); first | done | rfl) ?_
        with_reducible refine (impl_Tree_device.calls _ _ l0_0 _ _ l0_1 (rd t355 x12_1) t359 _ ?side1 ?side2 ?side3 ?side4 A11.out).mono ?_
        (case side1 => exact (Kd.C_below HR0_0.out HB.out))
        (case side2 => exact HC0_0.out)
        (case side3 => exact (Kd.C_below HR0_1.out HB.out))
        (case side4 => exact HC0_1.out)
        rintro e w15 ⟨rfl, hb⟩
        refine ⟨_, rfl, ?_⟩
        have n0_ := Aside0.mk (Kd.R_below (by (with_reducible repeat (first | apply Kd.R_alloc | apply Kd.R_drewN | apply Kd.R_drew)); exact HO_10.out) hb)
        have n1_ := Aside0.mk (blk_below (by exact BK354.out) hb)
        have n2_ := Aside0.mk (below_step (by repeat first | exact HB.out | apply pw_below_drewN) hb)
        clear HO_10
        clear BK354
        clear HB
        have HO_10 := n0_
        have BK354 := n1_
        have HB := n2_
        clear n0_ n1_ n2_
        (try clear hb)
        (try clear hb2)
        (try clear hk)
        (try clear hi)
        refine hK.out _ _ ⟨(blk_cell BK354.out 0).trans rfl, (blk_cell BK354.out 1).trans rfl, ((HB.out.cell (World.block_lt_of_cell? w _ hw360_0)).trans hw360_0), ((HB.out.cell (World.block_lt_of_cell? w _ hw360_1)).trans hw360_1)⟩ (fun hHeld => ?_)
        clear hK K
        refine norm_ (a' := ?_) ?_ ?_
        rotate_left
        ·show Act.put _ (some 21) _ = _
         simp only [Act.put, List.setIfInBounds_toArray, List.set_cons_zero, List.set_cons_succ, i64_w, i32_w]
         rfl
        refine pure_ (i := 6) (N := some 22) (v := ?_) (a' := ?_) #[true, true, true, true, true, true, true, false, false, false, false] rfl rfl (any_of HT_.out (by kernel_rfl)) (fun _ _ _ h => h) (Or.inl ⟨by rfl, ?_⟩) ?_ ?_
        rotate_left
        ·intro w'
         go_simp
         with_reducible rfl
        rotate_left
        ·simp only [Act.put, List.setIfInBounds_toArray, List.set_cons_zero, List.set_cons_succ, i64_w, i32_w]
         rfl
        refine pure_ (i := 7) (N := some 23) (v := ?_) (a' := ?_) #[true, true, true, true, true, true, true, true, false, false, false] rfl rfl (any_of HT_.out (by kernel_rfl)) (fun _ _ _ h => h) (Or.inl ⟨by rfl, ?_⟩) ?_ ?_
        rotate_left
        ·intro w'
         go_simp
         with_reducible rfl
        rotate_left
        ·simp only [Act.put, List.setIfInBounds_toArray, List.set_cons_zero, List.set_cons_succ, i64_w, i32_w]
         rfl
        refine take_ (i := 8) (N := some 24) (v := ?_) (a' := ?_) #[true, true, true, true, true, true, true, true, true, false, false] rfl rfl (take_ofW HT_.out HW_.out (by kernel_rfl)) (fun _ _ _ h => h) (Or.inl ⟨by rfl, ?_⟩) hHeld ?_ ?_
        rotate_left
        ·rintro w' ⟨s0, s1, s2, s3⟩
         go_simp
         with_reducible rfl
        rotate_left
        ·simp only [Act.put, List.setIfInBounds_toArray, List.set_cons_zero, List.set_cons_succ, i64_w, i32_w]
         rfl
        refine pure_ (i := 9) (N := some 25) (v := ?_) (a' := ?_) #[true, true, true, true, true, true, true, true, true, true, false] rfl rfl (any_of HT_.out (by kernel_rfl)) (fun _ _ _ h => h) (Or.inl ⟨by rfl, ?_⟩) ?_ ?_
        rotate_left
        ·intro w'
         go_simp
         with_reducible rfl
        rotate_left
        ·simp only [Act.put, List.setIfInBounds_toArray, List.set_cons_zero, List.set_cons_succ, i64_w, i32_w]
         rfl
        refine pure_ (i := 10) (N := some 5) (v := ?_) (a' := ?_) #[true, true, true, true, true, true, true, true, true, true, true] rfl rfl (any_of HT_.out (by kernel_rfl)) (fun _ _ _ h => h) (Or.inl ⟨by rfl, ?_⟩) ?_ ?_
        rotate_left
        ·intro w'
         go_simp
         with_reducible rfl
        rotate_left
        ·simp only [Act.put, List.setIfInBounds_toArray, List.set_cons_zero, List.set_cons_succ, i64_w, i32_w]
         rfl
        refine done_ (done_of HT_.out (by kernel_rfl)) ?_
        try go_wp2
        go_roundg k1
        case measure => have := HK1.out; omega
        case rel => exact ⟨(wrap64 (x5_1 + ((rd_T72 l0_0 t359).f1))), (wrap64 (x12_1 + 1)), (by first | rfl | (simp; done) | (simp [*]; done)), (by first | rfl | (simp; done) | (simp [*]; done)), H', ⟨by have := HK1.out; omega⟩, ⟨by (with_reducible repeat (first | apply Kd.R_alloc | apply Kd.R_drewN | apply Kd.R_drew)); exact HO_10.out⟩, ⟨by exact BK354.out⟩, ⟨by repeat first | exact HB.out | apply pw_below_drewN⟩⟩
       ·rw [if_neg c13] at H
        exact absurd H (by simp)
      ·rw [if_neg c12] at H
       exact absurd H (by simp)
     ·rw [if_neg c10] at H
      exact absurd H (by simp)
    ·rw [if_neg c9] at H
     exact absurd H (by simp)
   ·rw [if_neg c8] at H
    have c8b0 : decide (x12_1 < (t355.length : Int)) = false := decide_eq_false c8
    clear c8
    obtain rfl := Option.some.inj H
    go_wp2
    go_ret
    exact ⟨by first | rfl | (simp [*, errW_none, errW_some] <;> rfl), by repeat first | exact HB.out | apply pw_below_drewN⟩

/-! ### impl_Mix: function 108 -/
def impl_Mix.l0 : Nat → Int → List Int → Int → Int → Option (Int)
 | 0, _, _, _, _ => none
 | k + 1, x3, x6, x7, x8 => if x8 < x7 then (if 0 ≤ x8 then (if x8 < (x6.length : Int) then (impl_Mix.l0 k (Go.bits .xor .u32 (((Go.bits .xor .u32 (((Go.bits .xor .u32 x3 ((rd x6 x8) % 4294967296)) * 16777619) % 4294967296) ((((Go.bits .xor .u32 x3 ((rd x6 x8) % 4294967296)) * 16777619) % 4294967296) / 32768)) * 1540483477) % 4294967296) ((((Go.bits .xor .u32 (((Go.bits .xor .u32 x3 ((rd x6 x8) % 4294967296)) * 16777619) % 4294967296) ((((Go.bits .xor .u32 x3 ((rd x6 x8) % 4294967296)) * 16777619) % 4294967296) / 32768)) * 1540483477) % 4294967296) / 8192)) x6 x7 (wrap64 (x8 + 1))) else (none)) else (none)) else (some (wrap64 (x3)))
def impl_Mix.f (k : Nat) (l0 : List Int) : Option (Int) := impl_Mix.l0 k 2166136261 l0 (l0.length : Int) 0
set_option maxHeartbeats 8000000 in
set_option maxRecDepth 100000 in
theorem impl_Mix.calls (k : Nat) (A0 : Option Addr) (c0 : Nat) (l0 : List Int) (r : Int) (w : World) (hr0 : Kd.C (Kd.int .i64) w A0 l0.length l0) (hc0 : l0.length ≤ c0) (h : impl_Mix.f k l0 = some r) :
  Calls Tryz.prog 108 #[.slice A0 l0.length c0] w fun e w' => e = .returned (.int .i64 r) ∧ Drawn0 w w' := by
 have HR0 := Aside0.mk hr0
 have HC0 := Aside0.mk hc0
 clear hr0 hc0
 have H : (impl_Mix.l0 k 2166136261 l0 (l0.length : Int) 0) = some r := h
 clear h
 have H' := Aside0.mk H
 clear H
 go_enter Tryz.func108, Tryz.ntmps108
 go_wp2
 go_loopg [3, 8] k (fun kq v3 v8 w' => ∃ (x3_1 : Int) (x8_1 : Int), v3 = .int .u32 x3_1 ∧ v8 = .int .i64 x8_1 ∧ Aside0 (impl_Mix.l0 kq x3_1 l0 (l0.length : Int) x8_1 = some r) ∧ Aside0 (kq ≤ k) ∧ Drawn0 w w')
 case atStart => exact ⟨(2166136261), (0), (by first | rfl | (simp; done) | (simp [*]; done)), (by first | rfl | (simp; done) | (simp [*]; done)), H', ⟨Nat.le_refl _⟩, by repeat (first | exact Drawn0.refl _ | apply Drawn0.step)⟩
 case round =>
  clear H'
  try clear c1
  obtain ⟨x3_1, x8_1, rfl, rfl, HA, HK1, ⟨m1, rfl⟩⟩ := hrel
  cases gk with
  | zero => exact absurd HA.out (by simp [impl_Mix.l0])
  | succ k1 =>
   have H := HA.out
   clear HA
   simp only [impl_Mix.l0] at H
   by_cases c2 : x8_1 < (l0.length : Int)
   ·rw [if_pos c2] at H
    have c2b0 : decide (x8_1 < (l0.length : Int)) = true := decide_eq_true c2
    clear c2
    by_cases c3 : 0 ≤ x8_1
    ·rw [if_pos c3] at H
     have c3b0 : decide (0 ≤ x8_1) = true := decide_eq_true c3
     clear c3
     by_cases c4 : x8_1 < (l0.length : Int)
     ·rw [if_pos c4] at H
      have c4b0 : decide (x8_1 < (l0.length : Int)) = true := decide_eq_true c4
      clear c4
      have H' := Aside0.mk H
      clear H
      have p361 : 0 ≤ (x8_1 : Int) := of_decide_eq_true (by assumption)
      have q361 : x8_1 < (l0.length : Int) := of_decide_eq_true (by assumption)
      obtain ⟨ad361, e361, hx361_0⟩ := Kd.at_int HR0.out x8_1 p361 q361
      cases e361
      replace p361 := eq_true p361
      replace q361 := eq_true q361
      go_wp2
      go_roundg k1
      case measure => have := HK1.out; omega
      case rel => exact ⟨(Go.bits .xor .u32 (((Go.bits .xor .u32 (((Go.bits .xor .u32 x3_1 ((rd l0 x8_1) % 4294967296)) * 16777619) % 4294967296) ((((Go.bits .xor .u32 x3_1 ((rd l0 x8_1) % 4294967296)) * 16777619) % 4294967296) / 32768)) * 1540483477) % 4294967296) ((((Go.bits .xor .u32 (((Go.bits .xor .u32 x3_1 ((rd l0 x8_1) % 4294967296)) * 16777619) % 4294967296) ((((Go.bits .xor .u32 x3_1 ((rd l0 x8_1) % 4294967296)) * 16777619) % 4294967296) / 32768)) * 1540483477) % 4294967296) / 8192)), (wrap64 (x8_1 + 1)), (by first | rfl | (simp; done) | (simp [*]; done)), (by first | rfl | (simp; done) | (simp [*]; done)), H', ⟨by have := HK1.out; omega⟩, by repeat (first | exact Drawn0.refl _ | apply Drawn0.step)⟩
     ·rw [if_neg c4] at H
      exact absurd H (by simp)
    ·rw [if_neg c3] at H
     exact absurd H (by simp)
   ·rw [if_neg c2] at H
    have c2b0 : decide (x8_1 < (l0.length : Int)) = false := decide_eq_false c2
    clear c2
    obtain rfl := Option.some.inj H
    go_wp2
    go_ret
    exact ⟨by first | rfl | (simp; done) | (simp [*]; done), by repeat (first | exact Drawn0.refl _ | apply Drawn0.step)⟩

/-! ### impl_TicketOf: function 104 -/
def impl_TicketOf.f (k : Nat) (a0 : Int) (a1 : Int) (a2 : Int) (a3 : Int) : Option (Int) := (impl_Mix.f k (([a2, a3, a0, a1] : List Int))).bind fun t365 => (some t365)
set_option maxHeartbeats 8000000 in
set_option maxRecDepth 100000 in
theorem impl_TicketOf.calls (k : Nat) (a0 : Int) (a1 : Int) (a2 : Int) (a3 : Int) (r : Int) (w : World) (h : impl_TicketOf.f k a0 a1 a2 a3 = some r) :
  Calls Tryz.prog 104 #[.int .i64 a0, .int .i64 a1, .int .i64 a2, .int .i64 a3] w fun e w' => e = .returned (.int .i64 r) ∧ Below w.heap.size w w' := by
 have HB := Aside0.mk (Below.refl w.heap.size w)
 have H : ((impl_Mix.f k (([a2, a3, a0, a1] : List Int))).bind fun t365 => (some t365)) = some r := h
 clear h
 obtain ⟨y362, hy362⟩ : ∃ y_ : List Int, y_ = (([a2, a3, a0, a1] : List Int)) := ⟨_, rfl⟩
 replace H : ((impl_Mix.f k y362).bind fun t365 => (some t365)) = some r := by first | (rw [hy362]; with_reducible exact H) | (have H2_ := (Option.bind_some _ _).symm.trans H; rw [hy362]; with_reducible exact H2_) | (have H2_ := (Option.bind_some _ _).symm.trans H; with_reducible exact H2_) | with_reducible exact H | (rw [hy362]; exact H) | exact H
 have Ny362 := Aside0.mk hy362
 clear hy362
 replace H := Option.bind_eq_some_iff.mp H
 obtain ⟨t365, A50, H⟩ := H
 set_option simprocs false in try dsimp only at H
 have A5 := Aside0.mk A50
 clear A50
 obtain rfl := Option.some.inj H
 go_enter Tryz.func104, Tryz.ntmps104
 go_wp2_with (first | ((with_reducible refine gate_dst (N := 13) rfl ?_); refine Kd.R_lit (Kd.int .i64) _ 2 ?hg (N := 13) ?hd (xs := ([a2, a3, a0, a1] : List Int)) (inner := [.int .i64 a2, .int .i64 a3, .int .i64 a0, .int .i64 a1]) (ok := fun _ => True) (okp := fun _ => True) ?hr ?hp (fun _ hk => hk) trivial (Below.refl _ _) (Nat.le_refl _) (by simp) ?_; (case hd => rfl); (case hg => rfl); (case hr => first | (go_simp; done) | (go_simp; rfl)); (case hp => exact (Reps.one (show Kd.M (Kd.int .i64) _ _ _ a2 [.int .i64 a2] from rfl) (Reps.one (show Kd.M (Kd.int .i64) _ _ _ a3 [.int .i64 a3] from rfl) (Reps.one (show Kd.M (Kd.int .i64) _ _ _ a0 [.int .i64 a0] from rfl) (Reps.one (show Kd.M (Kd.int .i64) _ _ _ a1 [.int .i64 a1] from rfl) (Reps.none _ _)))))); intro v363 w6 ho7 hb hg_ hnew_; clear hg_ hnew_; (first | rw [← Ny362.out] at ho7 | (simp only [Int.reduceToNat] at ho7; rw [← Ny362.out] at ho7)); have n0_ := Aside0.mk (Kd.R_lower ho7 (below_size (by repeat first | exact HB.out | apply pw_below_drewN))); have n1_ := Aside0.mk (below_step (by repeat first | exact HB.out | apply pw_below_drewN) hb); clear HB; have HO364 := n0_; have HB := n1_; clear n0_ n1_; clear hb ho7; obtain ⟨Ao8, co8, eo8⟩ := Kd.R_slice HO364.out; subst eo8) | ((with_reducible refine gate_callee (f := 108) rfl ?_); refine gl (some 14) Tryz.func108 #[.slice Ao8 y362.length co8] ?_; (with_reducible refine (impl_Mix.calls k _ _ y362 t365 _ ?side1 ?side2 A5.out).mono ?_); (case side1 => exact (Kd.R_reads' HO364.out).2.2); (case side2 => exact (Kd.R_reads' HO364.out).2.1); rintro e w' ⟨rfl, ⟨nd, rfl⟩⟩; refine ⟨_, rfl, ?_⟩))
 go_ret
 exact ⟨by first | rfl | (simp [*, errW_none, errW_some] <;> rfl), by repeat first | exact HB.out | apply pw_below_drewN⟩

/-! ### impl_Item_best: function 99 -/
def impl_Item_best.l0 : Nat → Int → Int → Int → Int → Int → Int → Int → Option (Int)
 | 0, _, _, _, _, _, _, _ => none
 | k + 1, x1, x2, x7, x10, x11, x367000, x367001 => if x11 < x10 then ((impl_TicketOf.f k x367000 x11 x1 x2).bind fun t367 => (impl_Item_best.l0 k x1 x2 (mx x7 t367) x10 (wrap64 (x11 + 1)) x367000 x367001)) else (some x7)
def impl_Item_best.f (k : Nat) (a0_0 : Int) (a0_1 : Int) (a1 : Int) (a2 : Int) : Option (Int) := impl_Item_best.l0 k a1 a2 (-1) a0_1 0 a0_0 a0_1
set_option maxHeartbeats 8000000 in
set_option maxRecDepth 100000 in
theorem impl_Item_best.calls (k : Nat) (a0_0 : Int) (a0_1 : Int) (a1 : Int) (a2 : Int) (r : Int) (w : World) (h : impl_Item_best.f k a0_0 a0_1 a1 a2 = some r) :
  Calls Tryz.prog 99 #[.agg #[.int .i64 a0_0, .int .i64 a0_1], .int .i64 a1, .int .i64 a2] w fun e w' => e = .returned (.int .i64 r) ∧ Below w.heap.size w w' := by
 have hu109 := Tryz.underlying109
 have HB := Aside0.mk (Below.refl w.heap.size w)
 have H : (impl_Item_best.l0 k a1 a2 (-1) a0_1 0 a0_0 a0_1) = some r := h
 clear h
 have H' := Aside0.mk H
 clear H
 go_enter Tryz.func99, Tryz.ntmps99
 go_wp2_with (first | ((with_reducible refine gate_dst (N := 3) rfl ?_); refine box_event ?hg (N := 3) ?hd (cs := #[.int .i64 a0_0, .int .i64 a0_1]) (t := 109) ?hr ?_; (case hd => rfl); (case hg => rfl); (case hr => first | (go_simp; done) | (go_simp; rfl)); intro gb366 hg w4 hbox hb; have n0_ := Aside0.mk (below_step (by repeat first | exact HB.out | apply pw_below_drewN) hb); have n1_ := Aside0.mk (hbox); clear HB; have HB := n0_; have BK366 := n1_; clear n0_ n1_; clear hb hbox hg; have hcz5_0 := (blk_cell BK366.out 0).trans rfl; have hcz5_1 := (blk_cell BK366.out 1).trans rfl))
 go_loopg [7, 11] k (fun kq v7 v11 w' => ∃ (x7_1 : Int) (x11_1 : Int), v7 = .int .i64 x7_1 ∧ v11 = .int .i64 x11_1 ∧ Aside0 (impl_Item_best.l0 kq a1 a2 x7_1 a0_1 x11_1 a0_0 a0_1 = some r) ∧ Aside0 (kq ≤ k) ∧ Aside0 (w'.heap[gb366]? = some (.cells #[.int .i64 a0_0, .int .i64 a0_1] 109 (0, 0))) ∧ Aside0 (Below w.heap.size w w'))
 case atStart => exact ⟨((-1)), (0), (by first | rfl | (simp; done) | (simp [*]; done)), (by first | rfl | (simp; done) | (simp [*]; done)), H', ⟨Nat.le_refl _⟩, ⟨by exact BK366.out⟩, ⟨by repeat first | exact HB.out | apply pw_below_drewN⟩⟩
 case round =>
  clear H'
  try clear p2
  try clear hcz5_0
  try clear hcz5_1
  obtain ⟨x7_1, x11_1, rfl, rfl, HA, HK1, BK366, HB⟩ := hrel
  cases gk with
  | zero => exact absurd HA.out (by simp [impl_Item_best.l0])
  | succ k1 =>
   have H := HA.out
   clear HA
   simp only [impl_Item_best.l0] at H
   by_cases c6 : x11_1 < a0_1
   ·rw [if_pos c6] at H
    have c6b0 : decide (x11_1 < a0_1) = true := decide_eq_true c6
    clear c6
    replace H := Option.bind_eq_some_iff.mp H
    obtain ⟨t367, A70, H⟩ := H
    set_option simprocs false in try dsimp only at H
    have A7 := Aside0.mk A70
    clear A70
    obtain ⟨ji8, hji8⟩ : ∃ j_ : Int, (mx x7_1 t367) = j_ := ⟨_, rfl⟩
    replace H : (impl_Item_best.l0 k1 a1 a2 ji8 a0_1 (wrap64 (x11_1 + 1)) a0_0 a0_1) = some r := by first | (rw [hji8] at H; exact H) | (simp only [hji8] at H ⊢; exact H)
    (try rw [hji8] at A7)
    have hji8_ : (if x7_1 < t367 then t367 else x7_1) = ji8 := hji8
    have H' := Aside0.mk H
    clear H
    have hcz9_0 := (blk_cell BK366.out 0).trans rfl
    have hcz9_1 := (blk_cell BK366.out 1).trans rfl
    go_wp2_with (first | ((with_reducible refine gate_callee (f := 104) rfl ?_); refine gl (some 20) Tryz.func104 #[.int .i64 a0_0, .int .i64 x11_1, .int .i64 a1, .int .i64 a2] ?_; (with_reducible refine (impl_TicketOf.calls k1 a0_0 x11_1 a1 a2 t367 _ A7.out).mono ?_); rintro e w10 ⟨rfl, hb⟩; refine ⟨_, rfl, ?_⟩; have n0_ := Aside0.mk (blk_below (by exact BK366.out) hb); have n1_ := Aside0.mk (below_step (by repeat first | exact HB.out | apply pw_below_drewN) hb); clear BK366; clear HB; have BK366 := n0_; have HB := n1_; clear n0_ n1_; (try clear hb); (try clear hb2); (try clear hk); (try clear hi)))
    go_roundg k1
    case measure => have := HK1.out; omega
    case rel => exact ⟨(ji8), (wrap64 (x11_1 + 1)), (by first | rfl | (simp; done) | (simp only [← hji8] <;> (first | rfl | simp)) | (simp [*]; done)), (by first | rfl | (simp; done) | (simp [*]; done)), H', ⟨by have := HK1.out; omega⟩, ⟨by exact BK366.out⟩, ⟨by repeat first | exact HB.out | apply pw_below_drewN⟩⟩
   ·rw [if_neg c6] at H
    have c6b0 : decide (x11_1 < a0_1) = false := decide_eq_false c6
    clear c6
    obtain rfl := Option.some.inj H
    go_wp2
    go_ret
    exact ⟨by first | rfl | (simp [*, errW_none, errW_some] <;> rfl), by repeat first | exact HB.out | apply pw_below_drewN⟩

/-! ### impl_choose: function 94 -/
def impl_choose.l0 : Nat → Int → Int → Int → Int → List (S109) → Int → Int → Option (Int × Bool)
 | 0, _, _, _, _, _, _, _ => none
 | k + 1, x1, x2, x8, x9, x13, x14, x15 => if x15 < x14 then (if 0 ≤ x15 then (if x15 < (x13.length : Int) then ((impl_Item_best.f k ((rd_T109 x13 x15).f0) ((rd_T109 x13 x15).f1) x1 x2).bind fun t370 => (if t370 > x8 then (impl_choose.l0 k x1 x2 t370 ((rd_T109 x13 x15).f0) x13 x14 (wrap64 (x15 + 1))) else (impl_choose.l0 k x1 x2 x8 x9 x13 x14 (wrap64 (x15 + 1))))) else (none)) else (none)) else (some (x9, decide (x8 ≥ 0)))
def impl_choose.f (k : Nat) (l0 : List (S109)) (a1 : Int) (a2 : Int) : Option (Int × Bool) := impl_choose.l0 k a1 a2 (-1) 0 l0 (l0.length : Int) 0
set_option maxHeartbeats 8000000 in
set_option maxRecDepth 100000 in
theorem impl_choose.calls (k : Nat) (A0 : Option Addr) (c0 : Nat) (l0 : List (S109)) (a1 : Int) (a2 : Int) (r1 : Int) (r2 : Bool) (w : World) (hr0 : Kd.C k109 w A0 l0.length l0) (hc0 : l0.length ≤ c0) (h : impl_choose.f k l0 a1 a2 = some (r1, r2)) :
  Calls Tryz.prog 94 #[.slice A0 l0.length c0, .int .i64 a1, .int .i64 a2] w fun e w' => e = .returned (.tuple #[.int .i64 r1, .bool r2]) ∧ Below w.heap.size w w' := by
 have hu109 := Tryz.underlying109
 have HR0 := Aside0.mk hr0
 have HC0 := Aside0.mk hc0
 clear hr0 hc0
 have HB := Aside0.mk (Below.refl w.heap.size w)
 have H : (impl_choose.l0 k a1 a2 (-1) 0 l0 (l0.length : Int) 0) = some (r1, r2) := h
 clear h
 have H' := Aside0.mk H
 clear H
 go_enter Tryz.func94, Tryz.ntmps94
 go_wp2
 repeat (go_quiet (fail); try go_wp2)
 go_loopg [8, 9, 15] k (fun kq v8 v9 v15 w' => ∃ (x8_1 : Int) (x9_1 : Int) (x15_1 : Int), v8 = .int .i64 x8_1 ∧ v9 = .int .i64 x9_1 ∧ v15 = .int .i64 x15_1 ∧ Aside0 (impl_choose.l0 kq a1 a2 x8_1 x9_1 l0 (l0.length : Int) x15_1 = some (r1, r2)) ∧ Aside0 (kq ≤ k) ∧ Aside0 (Below w.heap.size w w'))
 case atStart => exact ⟨((-1)), (0), (0), (by first | rfl | (simp; done) | (simp [*]; done)), (by first | rfl | (simp; done) | (simp [*]; done)), (by first | rfl | (simp; done) | (simp [*]; done)), H', ⟨Nat.le_refl _⟩, ⟨by repeat first | exact HB.out | apply below_alloc | apply pw_below_drewN | apply below_drew1⟩⟩
 case round =>
  clear H'
  try clear p2
  obtain ⟨x8_1, x9_1, x15_1, rfl, rfl, rfl, HA, HK1, HB⟩ := hrel
  cases gk with
  | zero => exact absurd HA.out (by simp [impl_choose.l0])
  | succ k1 =>
   have H := HA.out
   clear HA
   simp only [impl_choose.l0] at H
   by_cases c4 : x15_1 < (l0.length : Int)
   ·rw [if_pos c4] at H
    have c4b0 : decide (x15_1 < (l0.length : Int)) = true := decide_eq_true c4
    clear c4
    by_cases c5 : 0 ≤ x15_1
    ·rw [if_pos c5] at H
     have c5b0 : decide (0 ≤ x15_1) = true := decide_eq_true c5
     clear c5
     by_cases c6 : x15_1 < (l0.length : Int)
     ·rw [if_pos c6] at H
      have c6b0 : decide (x15_1 < (l0.length : Int)) = true := decide_eq_true c6
      clear c6
      replace H := Option.bind_eq_some_iff.mp H
      obtain ⟨t370, A70, H⟩ := H
      replace H : (if t370 > x8_1 then (impl_choose.l0 k1 a1 a2 t370 ((rd_T109 l0 x15_1).f0) l0 (l0.length : Int) (wrap64 (x15_1 + 1))) else (impl_choose.l0 k1 a1 a2 x8_1 x9_1 l0 (l0.length : Int) (wrap64 (x15_1 + 1)))) = some (r1, r2) := H
      have A7 := Aside0.mk A70
      clear A70
      by_cases c8 : t370 > x8_1
      ·rw [if_pos c8] at H
       have c8b0 : decide (x8_1 < t370) = true := decide_eq_true c8
       clear c8
       have H' := Aside0.mk H
       clear H
       have p368 : 0 ≤ (x15_1 : Int) := of_decide_eq_true (by assumption)
       have q368 : x15_1 < (l0.length : Int) := of_decide_eq_true (by assumption)
       obtain ⟨ad368, e368, hx368_0, hx368_1⟩ := at_T109 HR0.out x15_1 p368 q368
       cases e368
       replace hx368_0 := (HB.out.cell (World.block_lt_of_cell? w _ hx368_0)).trans hx368_0
       replace hx368_1 := (HB.out.cell (World.block_lt_of_cell? w _ hx368_1)).trans hx368_1
       replace p368 := eq_true p368
       replace q368 := eq_true q368
       go_wp2_with (first | ((with_reducible refine gate_dst (N := 11) rfl ?_); refine box_event ?hg (N := 11) ?hd (cs := #[.int .i64 0, .int .i64 0]) (t := 109) ?hr ?_; (case hd => rfl); (case hg => rfl); (case hr => first | (go_simp; done) | (go_simp; rfl)); intro gb369 hg w9 hbox hb; have n0_ := Aside0.mk (below_step (by repeat first | exact HB.out | apply below_alloc | apply pw_below_drewN | apply below_drew1) hb); have n1_ := Aside0.mk (hbox); have n2_ := Aside0.mk ((by rw [hg]; exact (below_size (by repeat first | exact HB.out | apply below_alloc | apply pw_below_drewN | apply below_drew1)) : w.heap.size ≤ gb369)); have n3_ := Aside0.mk ((by rw [hg]; exact (below_size (by repeat first | exact HB.out | apply below_alloc | apply pw_below_drewN | apply below_drew1)) : w.heap.size ≤ gb369)); clear HB; have HB := n0_; have BK369 := n1_; have GW369 := n2_; have GE369 := n3_; clear n0_ n1_ n2_ n3_; clear hb hbox hg; have hcz10_0 := (blk_cell BK369.out 0).trans rfl; have hcz10_1 := (blk_cell BK369.out 1).trans rfl; have hfz10_0 := blk_frozen BK369.out 0; have hfz10_1 := blk_frozen BK369.out 1) | (go_at_call 99; (with_reducible refine (impl_Item_best.calls k1 ((rd_T109 l0 x15_1).f0) ((rd_T109 l0 x15_1).f1) a1 a2 t370 _ A7.out).mono ?_); rintro e w11 ⟨rfl, hb⟩; have n0_ := Aside0.mk (blk_below (g := gb369) (o := .cells #[.int .i64 ((rd_T109 l0 x15_1).f0), .int .i64 ((rd_T109 l0 x15_1).f1)] 109 (0, 0)) (by (with_reducible repeat first | apply blk_drewN | apply blk_drew | apply blk_alloc); refine blk_put (cs := #[.int .i64 ((rd_T109 l0 x15_1).f0), .int .i64 0]) ?_ 1 _ rfl; (with_reducible repeat first | apply blk_drewN | apply blk_drew | apply blk_alloc); refine blk_put (cs := #[.int .i64 0, .int .i64 0]) ?_ 0 _ rfl; (with_reducible repeat first | apply blk_drewN | apply blk_drew | apply blk_alloc); exact BK369.out) hb); have n1_ := Aside0.mk (below_step (by repeat (first | (with_reducible first | exact HB.out | apply below_alloc | apply pw_below_drewN | apply below_drew1 | refine below_set ?_ GE369.out) | exact HB.out)) hb); clear BK369; clear HB; have BK369 := n0_; have HB := n1_; clear n0_ n1_; (try clear hb); (try clear hb2); (try clear hk); (try clear hi); have hcz12_0 := (blk_cell BK369.out 0).trans rfl; have hcz12_1 := (blk_cell BK369.out 1).trans rfl; have hfz12_0 := blk_frozen BK369.out 0; have hfz12_1 := blk_frozen BK369.out 1))
       repeat (go_quiet (first | ((with_reducible refine gate_dst (N := 11) rfl ?_); refine box_event ?hg (N := 11) ?hd (cs := #[.int .i64 0, .int .i64 0]) (t := 109) ?hr ?_; (case hd => rfl); (case hg => rfl); (case hr => first | (go_simp; done) | (go_simp; rfl)); intro gb369 hg w9 hbox hb; have n0_ := Aside0.mk (below_step (by repeat first | exact HB.out | apply below_alloc | apply pw_below_drewN | apply below_drew1) hb); have n1_ := Aside0.mk (hbox); have n2_ := Aside0.mk ((by rw [hg]; exact (below_size (by repeat first | exact HB.out | apply below_alloc | apply pw_below_drewN | apply below_drew1)) : w.heap.size ≤ gb369)); have n3_ := Aside0.mk ((by rw [hg]; exact (below_size (by repeat first | exact HB.out | apply below_alloc | apply pw_below_drewN | apply below_drew1)) : w.heap.size ≤ gb369)); clear HB; have HB := n0_; have BK369 := n1_; have GW369 := n2_; have GE369 := n3_; clear n0_ n1_ n2_ n3_; clear hb hbox hg; have hcz10_0 := (blk_cell BK369.out 0).trans rfl; have hcz10_1 := (blk_cell BK369.out 1).trans rfl; have hfz10_0 := blk_frozen BK369.out 0; have hfz10_1 := blk_frozen BK369.out 1) | (go_at_call 99; (with_reducible refine (impl_Item_best.calls k1 ((rd_T109 l0 x15_1).f0) ((rd_T109 l0 x15_1).f1) a1 a2 t370 _ A7.out).mono ?_); rintro e w11 ⟨rfl, hb⟩; have n0_ := Aside0.mk (blk_below (g := gb369) (o := .cells #[.int .i64 ((rd_T109 l0 x15_1).f0), .int .i64 ((rd_T109 l0 x15_1).f1)] 109 (0, 0)) (by (with_reducible repeat first | apply blk_drewN | apply blk_drew | apply blk_alloc); refine blk_put (cs := #[.int .i64 ((rd_T109 l0 x15_1).f0), .int .i64 0]) ?_ 1 _ rfl; (with_reducible repeat first | apply blk_drewN | apply blk_drew | apply blk_alloc); refine blk_put (cs := #[.int .i64 0, .int .i64 0]) ?_ 0 _ rfl; (with_reducible repeat first | apply blk_drewN | apply blk_drew | apply blk_alloc); exact BK369.out) hb); have n1_ := Aside0.mk (below_step (by repeat (first | (with_reducible first | exact HB.out | apply below_alloc | apply pw_below_drewN | apply below_drew1 | refine below_set ?_ GE369.out) | exact HB.out)) hb); clear BK369; clear HB; have BK369 := n0_; have HB := n1_; clear n0_ n1_; (try clear hb); (try clear hb2); (try clear hk); (try clear hi); have hcz12_0 := (blk_cell BK369.out 0).trans rfl; have hcz12_1 := (blk_cell BK369.out 1).trans rfl; have hfz12_0 := blk_frozen BK369.out 0; have hfz12_1 := blk_frozen BK369.out 1)); try go_wp2_with (first | ((with_reducible refine gate_dst (N := 11) rfl ?_); refine box_event ?hg (N := 11) ?hd (cs := #[.int .i64 0, .int .i64 0]) (t := 109) ?hr ?_; (case hd => rfl); (case hg => rfl); (case hr => first | (go_simp; done) | (go_simp; rfl)); intro gb369 hg w9 hbox hb; have n0_ := Aside0.mk (below_step (by repeat first | exact HB.out | apply below_alloc | apply pw_below_drewN | apply below_drew1) hb); have n1_ := Aside0.mk (hbox); have n2_ := Aside0.mk ((by rw [hg]; exact (below_size (by repeat first | exact HB.out | apply below_alloc | apply pw_below_drewN | apply below_drew1)) : w.heap.size ≤ gb369)); have n3_ := Aside0.mk ((by rw [hg]; exact (below_size (by repeat first | exact HB.out | apply below_alloc | apply pw_below_drewN | apply below_drew1)) : w.heap.size ≤ gb369)); clear HB; have HB := n0_; have BK369 := n1_; have GW369 := n2_; have GE369 := n3_; clear n0_ n1_ n2_ n3_; clear hb hbox hg; have hcz10_0 := (blk_cell BK369.out 0).trans rfl; have hcz10_1 := (blk_cell BK369.out 1).trans rfl; have hfz10_0 := blk_frozen BK369.out 0; have hfz10_1 := blk_frozen BK369.out 1) | (go_at_call 99; (with_reducible refine (impl_Item_best.calls k1 ((rd_T109 l0 x15_1).f0) ((rd_T109 l0 x15_1).f1) a1 a2 t370 _ A7.out).mono ?_); rintro e w11 ⟨rfl, hb⟩; have n0_ := Aside0.mk (blk_below (g := gb369) (o := .cells #[.int .i64 ((rd_T109 l0 x15_1).f0), .int .i64 ((rd_T109 l0 x15_1).f1)] 109 (0, 0)) (by (with_reducible repeat first | apply blk_drewN | apply blk_drew | apply blk_alloc); refine blk_put (cs := #[.int .i64 ((rd_T109 l0 x15_1).f0), .int .i64 0]) ?_ 1 _ rfl; (with_reducible repeat first | apply blk_drewN | apply blk_drew | apply blk_alloc); refine blk_put (cs := #[.int .i64 0, .int .i64 0]) ?_ 0 _ rfl; (with_reducible repeat first | apply blk_drewN | apply blk_drew | apply blk_alloc); exact BK369.out) hb); have n1_ := Aside0.mk (below_step (by repeat (first | (with_reducible first | exact HB.out | apply below_alloc | apply pw_below_drewN | apply below_drew1 | refine below_set ?_ GE369.out) | exact HB.out)) hb); clear BK369; clear HB; have BK369 := n0_; have HB := n1_; clear n0_ n1_; (try clear hb); (try clear hb2); (try clear hk); (try clear hi); have hcz12_0 := (blk_cell BK369.out 0).trans rfl; have hcz12_1 := (blk_cell BK369.out 1).trans rfl; have hfz12_0 := blk_frozen BK369.out 0; have hfz12_1 := blk_frozen BK369.out 1)))
       go_roundg k1
       case measure => have := HK1.out; omega
       case rel => exact ⟨(t370), ((rd_T109 l0 x15_1).f0), (wrap64 (x15_1 + 1)), (by first | rfl | (simp; done) | (simp [*]; done)), (by first | rfl | (simp; done) | (simp [*]; done)), (by first | rfl | (simp; done) | (simp [*]; done)), H', ⟨by have := HK1.out; omega⟩, ⟨by repeat (first | (with_reducible first | exact HB.out | apply below_alloc | apply pw_below_drewN | apply below_drew1 | refine below_set ?_ GE369.out) | exact HB.out)⟩⟩
      ·rw [if_neg c8] at H
       have c8b0 : decide (x8_1 < t370) = false := decide_eq_false c8
       clear c8
       have H' := Aside0.mk H
       clear H
       have p368 : 0 ≤ (x15_1 : Int) := of_decide_eq_true (by assumption)
       have q368 : x15_1 < (l0.length : Int) := of_decide_eq_true (by assumption)
       obtain ⟨ad368, e368, hx368_0, hx368_1⟩ := at_T109 HR0.out x15_1 p368 q368
       cases e368
       replace hx368_0 := (HB.out.cell (World.block_lt_of_cell? w _ hx368_0)).trans hx368_0
       replace hx368_1 := (HB.out.cell (World.block_lt_of_cell? w _ hx368_1)).trans hx368_1
       replace p368 := eq_true p368
       replace q368 := eq_true q368
       go_wp2_with (first | ((with_reducible refine gate_dst (N := 11) rfl ?_); refine box_event ?hg (N := 11) ?hd (cs := #[.int .i64 0, .int .i64 0]) (t := 109) ?hr ?_; (case hd => rfl); (case hg => rfl); (case hr => first | (go_simp; done) | (go_simp; rfl)); intro gb369 hg w13 hbox hb; have n0_ := Aside0.mk (below_step (by repeat first | exact HB.out | apply below_alloc | apply pw_below_drewN | apply below_drew1) hb); have n1_ := Aside0.mk (hbox); have n2_ := Aside0.mk ((by rw [hg]; exact (below_size (by repeat first | exact HB.out | apply below_alloc | apply pw_below_drewN | apply below_drew1)) : w.heap.size ≤ gb369)); have n3_ := Aside0.mk ((by rw [hg]; exact (below_size (by repeat first | exact HB.out | apply below_alloc | apply pw_below_drewN | apply below_drew1)) : w.heap.size ≤ gb369)); clear HB; have HB := n0_; have BK369 := n1_; have GW369 := n2_; have GE369 := n3_; clear n0_ n1_ n2_ n3_; clear hb hbox hg; have hcz14_0 := (blk_cell BK369.out 0).trans rfl; have hcz14_1 := (blk_cell BK369.out 1).trans rfl; have hfz14_0 := blk_frozen BK369.out 0; have hfz14_1 := blk_frozen BK369.out 1) | (go_at_call 99; (with_reducible refine (impl_Item_best.calls k1 ((rd_T109 l0 x15_1).f0) ((rd_T109 l0 x15_1).f1) a1 a2 t370 _ A7.out).mono ?_); rintro e w15 ⟨rfl, hb⟩; have n0_ := Aside0.mk (blk_below (g := gb369) (o := .cells #[.int .i64 ((rd_T109 l0 x15_1).f0), .int .i64 ((rd_T109 l0 x15_1).f1)] 109 (0, 0)) (by (with_reducible repeat first | apply blk_drewN | apply blk_drew | apply blk_alloc); refine blk_put (cs := #[.int .i64 ((rd_T109 l0 x15_1).f0), .int .i64 0]) ?_ 1 _ rfl; (with_reducible repeat first | apply blk_drewN | apply blk_drew | apply blk_alloc); refine blk_put (cs := #[.int .i64 0, .int .i64 0]) ?_ 0 _ rfl; (with_reducible repeat first | apply blk_drewN | apply blk_drew | apply blk_alloc); exact BK369.out) hb); have n1_ := Aside0.mk (below_step (by repeat (first | (with_reducible first | exact HB.out | apply below_alloc | apply pw_below_drewN | apply below_drew1 | refine below_set ?_ GE369.out) | exact HB.out)) hb); clear BK369; clear HB; have BK369 := n0_; have HB := n1_; clear n0_ n1_; (try clear hb); (try clear hb2); (try clear hk); (try clear hi)))
       repeat (go_quiet (first | ((with_reducible refine gate_dst (N := 11) rfl ?_); refine box_event ?hg (N := 11) ?hd (cs := #[.int .i64 0, .int .i64 0]) (t := 109) ?hr ?_; (case hd => rfl); (case hg => rfl); (case hr => first | (go_simp; done) | (go_simp; rfl)); intro gb369 hg w13 hbox hb; have n0_ := Aside0.mk (below_step (by repeat first | exact HB.out | apply below_alloc | apply pw_below_drewN | apply below_drew1) hb); have n1_ := Aside0.mk (hbox); have n2_ := Aside0.mk ((by rw [hg]; exact (below_size (by repeat first | exact HB.out | apply below_alloc | apply pw_below_drewN | apply below_drew1)) : w.heap.size ≤ gb369)); have n3_ := Aside0.mk ((by rw [hg]; exact (below_size (by repeat first | exact HB.out | apply below_alloc | apply pw_below_drewN | apply below_drew1)) : w.heap.size ≤ gb369)); clear HB; have HB := n0_; have BK369 := n1_; have GW369 := n2_; have GE369 := n3_; clear n0_ n1_ n2_ n3_; clear hb hbox hg; have hcz14_0 := (blk_cell BK369.out 0).trans rfl; have hcz14_1 := (blk_cell BK369.out 1).trans rfl; have hfz14_0 := blk_frozen BK369.out 0; have hfz14_1 := blk_frozen BK369.out 1) | (go_at_call 99; (with_reducible refine (impl_Item_best.calls k1 ((rd_T109 l0 x15_1).f0) ((rd_T109 l0 x15_1).f1) a1 a2 t370 _ A7.out).mono ?_); rintro e w15 ⟨rfl, hb⟩; have n0_ := Aside0.mk (blk_below (g := gb369) (o := .cells #[.int .i64 ((rd_T109 l0 x15_1).f0), .int .i64 ((rd_T109 l0 x15_1).f1)] 109 (0, 0)) (by (with_reducible repeat first | apply blk_drewN | apply blk_drew | apply blk_alloc); refine blk_put (cs := #[.int .i64 ((rd_T109 l0 x15_1).f0), .int .i64 0]) ?_ 1 _ rfl; (with_reducible repeat first | apply blk_drewN | apply blk_drew | apply blk_alloc); refine blk_put (cs := #[.int .i64 0, .int .i64 0]) ?_ 0 _ rfl; (with_reducible repeat first | apply blk_drewN | apply blk_drew | apply blk_alloc); exact BK369.out) hb); have n1_ := Aside0.mk (below_step (by repeat (first | (with_reducible first | exact HB.out | apply below_alloc | apply pw_below_drewN | apply below_drew1 | refine below_set ?_ GE369.out) | exact HB.out)) hb); clear BK369; clear HB; have BK369 := n0_; have HB := n1_; clear n0_ n1_; (try clear hb); (try clear hb2); (try clear hk); (try clear hi))); try go_wp2_with (first | ((with_reducible refine gate_dst (N := 11) rfl ?_); refine box_event ?hg (N := 11) ?hd (cs := #[.int .i64 0, .int .i64 0]) (t := 109) ?hr ?_; (case hd => rfl); (case hg => rfl); (case hr => first | (go_simp; done) | (go_simp; rfl)); intro gb369 hg w13 hbox hb; have n0_ := Aside0.mk (below_step (by repeat first | exact HB.out | apply below_alloc | apply pw_below_drewN | apply below_drew1) hb); have n1_ := Aside0.mk (hbox); have n2_ := Aside0.mk ((by rw [hg]; exact (below_size (by repeat first | exact HB.out | apply below_alloc | apply pw_below_drewN | apply below_drew1)) : w.heap.size ≤ gb369)); have n3_ := Aside0.mk ((by rw [hg]; exact (below_size (by repeat first | exact HB.out | apply below_alloc | apply pw_below_drewN | apply below_drew1)) : w.heap.size ≤ gb369)); clear HB; have HB := n0_; have BK369 := n1_; have GW369 := n2_; have GE369 := n3_; clear n0_ n1_ n2_ n3_; clear hb hbox hg; have hcz14_0 := (blk_cell BK369.out 0).trans rfl; have hcz14_1 := (blk_cell BK369.out 1).trans rfl; have hfz14_0 := blk_frozen BK369.out 0; have hfz14_1 := blk_frozen BK369.out 1) | (go_at_call 99; (with_reducible refine (impl_Item_best.calls k1 ((rd_T109 l0 x15_1).f0) ((rd_T109 l0 x15_1).f1) a1 a2 t370 _ A7.out).mono ?_); rintro e w15 ⟨rfl, hb⟩; have n0_ := Aside0.mk (blk_below (g := gb369) (o := .cells #[.int .i64 ((rd_T109 l0 x15_1).f0), .int .i64 ((rd_T109 l0 x15_1).f1)] 109 (0, 0)) (by (with_reducible repeat first | apply blk_drewN | apply blk_drew | apply blk_alloc); refine blk_put (cs := #[.int .i64 ((rd_T109 l0 x15_1).f0), .int .i64 0]) ?_ 1 _ rfl; (with_reducible repeat first | apply blk_drewN | apply blk_drew | apply blk_alloc); refine blk_put (cs := #[.int .i64 0, .int .i64 0]) ?_ 0 _ rfl; (with_reducible repeat first | apply blk_drewN | apply blk_drew | apply blk_alloc); exact BK369.out) hb); have n1_ := Aside0.mk (below_step (by repeat (first | (with_reducible first | exact HB.out | apply below_alloc | apply pw_below_drewN | apply below_drew1 | refine below_set ?_ GE369.out) | exact HB.out)) hb); clear BK369; clear HB; have BK369 := n0_; have HB := n1_; clear n0_ n1_; (try clear hb); (try clear hb2); (try clear hk); (try clear hi))))
       go_roundg k1
       case measure => have := HK1.out; omega
       case rel => exact ⟨(x8_1), (x9_1), (wrap64 (x15_1 + 1)), (by first | rfl | (simp; done) | (simp [*]; done)), (by first | rfl | (simp; done) | (simp [*]; done)), (by first | rfl | (simp; done) | (simp [*]; done)), H', ⟨by have := HK1.out; omega⟩, ⟨by repeat (first | (with_reducible first | exact HB.out | apply below_alloc | apply pw_below_drewN | apply below_drew1 | refine below_set ?_ GE369.out) | exact HB.out)⟩⟩
     ·rw [if_neg c6] at H
      exact absurd H (by simp)
    ·rw [if_neg c5] at H
     exact absurd H (by simp)
   ·rw [if_neg c4] at H
    have c4b0 : decide (x15_1 < (l0.length : Int)) = false := decide_eq_false c4
    clear c4
    simp only [Option.some.injEq, Prod.mk.injEq] at H
    obtain ⟨rfl, rfl⟩ := H
    go_wp2
    repeat (go_quiet (fail); try go_wp2)
    go_ret2
    exact ⟨by first | rfl | (simp [*, errW_none, errW_some] <;> rfl), by repeat first | exact HB.out | apply below_alloc | apply pw_below_drewN | apply below_drew1⟩

/-! ### impl_Tree_chooseIn: function 82 -/
/-- items with their weights, one behind the other -/
def itemsW (g : Int → Option Int) : List (S109) → List Int → Option (List (S109))
 | out, [] => some out
 | out, x :: xs => (g x).bind fun t => if out.length < 1048576 then itemsW g (out ++ [⟨x, t⟩]) xs else none
theorem itemsW_here (g : Int → Option Int) (out : List (S109)) (l : List Int) (i : Int) (h0 : 0 ≤ i) (h1 : i < (l.length : Int)) : itemsW g out (l.drop i.toNat) = (g (rd l i)).bind fun t => if out.length < 1048576 then itemsW g (out ++ [⟨rd l i, t⟩]) (l.drop (i + 1).toNat) else none := by
 obtain ⟨n, rfl⟩ := Int.eq_ofNat_of_zero_le h0
 have hl : n < l.length := by omega
 have e : ((n : Int) + 1).toNat = n + 1 := by omega
 have er : rd l (n : Int) = l[n] := by unfold rd; rw [Int.toNat_natCast, List.getD_eq_getElem?_getD, List.getElem?_eq_getElem hl]; rfl
 rw [e, Int.toNat_natCast, List.drop_eq_getElem_cons hl, er]
 rfl
def impl_Tree_chooseIn.f (k : Nat) (l0_0 : List (S72)) (l0_1 : List (S68)) (a1 a2 a3 : Int) : Option (Int × Bool) :=
 if bucketAt l0_1 a1 < 0 then some (0, false) else (itemsW (fun x => impl_Tree_weight.f k l0_0 l0_1 x) [] (rd_T68 l0_1 (bucketAt l0_1 a1)).f2).bind fun l => impl_choose.f k l a2 a3
set_option maxHeartbeats 4000000 in
set_option maxRecDepth 100000 in
theorem impl_Tree_chooseIn.calls (k : Nat) (A0_0 : Option Addr) (c0_0 : Nat) (l0_0 : List (S72)) (A0_1 : Option Addr) (c0_1 : Nat) (l0_1 : List (S68)) (a1 : Int) (a2 : Int) (a3 : Int) (r1 : Int) (r2 : Bool) (w : World) (hr0_0 : Kd.C k72 w A0_0 l0_0.length l0_0) (hc0_0 : l0_0.length ≤ c0_0) (hr0_1 : Kd.C k68 w A0_1 l0_1.length l0_1) (hc0_1 : l0_1.length ≤ c0_1) (h : impl_Tree_chooseIn.f k l0_0 l0_1 a1 a2 a3 = some (r1, r2)) :
  Calls Tryz.prog 82 #[.agg #[.slice A0_0 l0_0.length c0_0, .slice A0_1 l0_1.length c0_1], .int .i64 a1, .int .i64 a2, .int .i64 a3] w fun e w' => e = .returned (.tuple #[.int .i64 r1, .bool r2]) ∧ Below w.heap.size w w' := by
 have HR0 := Aside0.mk hr0_0
 have HR1 := Aside0.mk hr0_1
 have HC0 := Aside0.mk hc0_0
 have HC1 := Aside0.mk hc0_1
 clear hr0_0 hr0_1 hc0_0 hc0_1
 unfold impl_Tree_chooseIn.f at h
 by_cases hb : bucketAt l0_1 a1 < 0
 ·rw [if_pos hb] at h
  obtain ⟨rfl, rfl⟩ := (show r1 = 0 ∧ r2 = false from by have := (Option.some.inj h).symm; simpa using this)
  clear h
  go_enter Tryz.func82, Tryz.ntmps82
  go_wp2_with fail
  have HB := Aside0.mk (below_alloc (Below.refl w.heap.size w) (.cells #[.slice A0_0 l0_0.length c0_0, .slice A0_1 l0_1.length c0_1] 35))
  refine (bucket_none.calls A0_0 c0_0 l0_0 A0_1 c0_1 l0_1 a1 _ (Kd.C_below HR1.out HB.out) hb).mono ?_
  rintro e w1 ⟨rfl, hb1⟩
  replace HB := Aside0.mk (below_step HB.out hb1)
  clear hb1 hb
  go_wp2_with fail
  go_ret2
  exact ⟨rfl, HB.out⟩
 ·rw [if_neg hb] at h
  obtain ⟨tot, htot, hch⟩ := Option.bind_eq_some_iff.1 h
  have hb0 : 0 ≤ bucketAt l0_1 a1 := by omega
  have hlt := bucketAt_lt l0_1 a1 hb0
  obtain ⟨ad, A2, c2, rfl, hx0, hx1, hx2, hl2, hg2⟩ := at_T68 HR1.out _ hb0 hlt
  have HCH := Aside0.mk hch
  have HT := Aside0.mk (show itemsW (fun x => impl_Tree_weight.f k l0_0 l0_1 x) [] ((rd_T68 l0_1 (bucketAt l0_1 a1)).f2.drop (0 : Int).toNat) = some tot from htot)
  have HX2 := Aside0.mk hx2
  have HG2 := Aside0.mk hg2
  clear h htot hch hb hx0 hx1 hx2 hl2 hg2
  go_enter Tryz.func82, Tryz.ntmps82
  go_wp2_with fail
  have BK := Aside0.mk (blk_new w (.cells #[.slice A0_0 l0_0.length c0_0, .slice (some ad) l0_1.length c0_1] 35))
  have HB := Aside0.mk (below_alloc (Below.refl w.heap.size w) (.cells #[.slice A0_0 l0_0.length c0_0, .slice (some ad) l0_1.length c0_1] 35))
  refine (bucket_some.calls A0_0 c0_0 l0_0 (some ad) c0_1 l0_1 a1 _ (Kd.C_below HR1.out HB.out) ad rfl hb0).mono ?_
  rintro e w1 ⟨rfl, hb1⟩
  replace BK := Aside0.mk (blk_below BK.out hb1)
  replace HB := Aside0.mk (below_step HB.out hb1)
  clear hb1
  have hx2 := (HB.out.cell (World.block_lt_of_cell? w _ HX2.out)).trans HX2.out
  clear HX2 hb0 hlt
  generalize bucketAt l0_1 a1 = j at hx2 HT HG2 ⊢
  generalize (rd_T68 l0_1 j).f2 = items at hx2 HT HG2
  have hmi := Kd.C_max HG2.out
  go_wp2_with fail
  clear hx2
  obtain ⟨gt, hgt⟩ : ∃ g, g = w.heap.size := ⟨_, rfl⟩
  rw [← hgt] at BK ⊢
  clear hgt
  go_loopg [11, 24] items.length (fun gg s11 s24 wr => ∃ (kk : Int) (out : List (S109)), 0 ≤ kk ∧ kk ≤ items.length ∧ (items.length : Int) - kk ≤ gg ∧ s24 = .int .i64 kk ∧ out.length ≤ 1048576 ∧ Aside0 (Below w.heap.size w wr) ∧ Aside0 (wr.heap[gt]? = some (.cells #[.slice A0_0 l0_0.length c0_0, .slice (some ad) l0_1.length c0_1] 35 (0, 0))) ∧ Aside0 (Kd.R k109 109 wr w.heap.size (fun _ => True) s11 out) ∧ Aside0 (itemsW (fun x => impl_Tree_weight.f k l0_0 l0_1 x) out (items.drop kk.toNat) = some tot))
  case atStart => exact ⟨0, [], by omega, by omega, by omega, rfl, by simp, HB, BK, ⟨Kd.R_nil _ _ _ _ _⟩, HT⟩
  case round =>
   clear HB BK HT
   obtain ⟨kk, out, h0, hk, hg, rfl, hol, HB, BK, HO, HT⟩ := hrel
   have ht0 := (blk_cell BK.out 0).trans rfl
   have ht1 := (blk_cell BK.out 1).trans rfl
   by_cases hlt : kk < (items.length : Int)
   ·obtain ⟨ae, rfl, hy0⟩ := Kd.at_int HG2.out kk h0 hlt
    replace hy0 := (HB.out.cell (World.block_lt_of_cell? w _ hy0)).trans hy0
    have q0 := eq_true h0
    have q1 := eq_true hlt
    have HN := Aside0.mk (by have := itemsW_here (fun x => impl_Tree_weight.f k l0_0 l0_1 x) out items kk h0 hlt; rw [HT.out] at this; exact this.symm)
    clear HT
    generalize rd items kk = x at hy0 HN
    obtain ⟨wt, hwt, hn⟩ := Option.bind_eq_some_iff.1 HN.out
    have HWT := Aside0.mk hwt
    by_cases hsm : out.length < 1048576
    case neg => rw [if_neg hsm] at hn; cases hn
    rw [if_pos hsm] at hn
    have HSM := Aside0.mk hsm
    replace HN := Aside0.mk hn
    clear hwt hn hsm
    go_wp2_with fail
    refine (impl_Tree_weight.calls k A0_0 c0_0 l0_0 (some ad) c0_1 l0_1 x wt _ (Kd.C_below HR0.out HB.out) HC0.out (Kd.C_below HR1.out HB.out) HC1.out HWT.out).mono ?_
    rintro e w2 ⟨rfl, hb2⟩
    have HB2 := Aside0.mk (below_step HB.out hb2)
    have BK2 := Aside0.mk (blk_below BK.out hb2)
    have HO2 := Aside0.mk (Kd.R_below HO.out hb2)
    clear hb2 HB BK HO ht0 ht1 hy0
    go_wp2_with (first | ((with_reducible refine gate_builtin (b := .append) (xs := #[.tmp 28, .tmp 34]) rfl ?_); at_builtin; refine Kd.R_append k109 (w0 := w) w.heap.size rfl (.tmp 28) (.tmp 34) 108 109 (.agg #[(.int .i64 0), (.int .i64 0)]) 16 rfl Tryz.underlying108 info109 rfl (by decide) (by omega) _ out (⟨x, wt⟩ : S109) [.int .i64 x, .int .i64 wt] (fun _ => True) (fun _ => False) rfl rfl ?aP (fun _ hk => hk.elim) ?aF ?aO ?aB ?aS ?aL ?_; (case aP => exact k109_mkM _ _ _ (⟨x, wt⟩ : S109)); (case aB => exact HB2.out); (case aF => exact (fun _ _ => trivial)); (case aO => exact HO2.out); (case aS => exact below_size HB2.out); (case aL => have := HSM.out; omega); intro v3 w3 ho3 hb3 hg3 hat3; have HO3 := Aside0.mk ho3; have HB3 := Aside0.mk hb3; have BK3 := Aside0.mk (hg3.block _ (blk_lt BK2.out) (Kd.R_ne HO2.out BK2.out (by decide)) |>.trans BK2.out); clear ho3 hb3 hg3 hat3))
    go_roundg (gk - 1)
    case measure => omega
    case rel => exact ⟨kk + 1, out ++ [⟨x, wt⟩], by omega, by omega, by omega, by go_num, by rw [List.length_append]; have := HSM.out; simp; omega, HB3, BK3, HO3, HN⟩
   ·obtain rfl : kk = items.length := by omega
    have HE := Aside0.mk (show out = tot from by have := HT.out; rw [Int.toNat_natCast, List.drop_length] at this; exact Option.some.inj this)
    clear HT
    obtain ⟨Av, cv, ev, hlv, hCv⟩ := Kd.R_reads HO.out
    subst ev
    have HCV := Aside0.mk hCv
    have HLV := Aside0.mk hlv
    clear hlv hCv HO
    go_wp2_with fail
    refine (impl_choose.calls k Av cv out a2 a3 r1 r2 wr HCV.out HLV.out (by rw [HE.out]; exact HCH.out)).mono ?_
    rintro e w2 ⟨rfl, hb2⟩
    have HB2 := Aside0.mk (below_step HB.out hb2)
    clear hb2
    go_wp2_with fail
    go_ret2
    exact ⟨rfl, HB2.out⟩

/-! ### impl_Tree_descend: function 69 -/
def impl_Tree_descend.l0 : Nat → Int → Int → Int → Int → Bool → List (S72) → List (S68) → Option (Int × Bool)
 | 0, _, _, _, _, _, _, _ => none
 | k + 1, x1, x2, x3, x4, x12, x372000, x372001 => if x12 = true then ((impl_Tree_kindOf.f x372000 x372001 x1).bind fun t373 => (if t373 = x2 then (some (x1, x12)) else ((impl_Tree_chooseIn.f k x372000 x372001 x1 x3 x4).bind fun bt374 => (impl_Tree_descend.l0 k bt374.1 x2 x3 x4 bt374.2 x372000 x372001)))) else (some (x1, x12))
def impl_Tree_descend.f (k : Nat) (l0_0 : List (S72)) (l0_1 : List (S68)) (a1 : Int) (a2 : Int) (a3 : Int) (a4 : Int) : Option (Int × Bool) := (impl_Tree_kindOf.f l0_0 l0_1 a1).bind fun t372 => (impl_Tree_descend.l0 k a1 a2 a3 a4 (decide (t372 ≥ 0)) l0_0 l0_1)
set_option maxHeartbeats 8000000 in
set_option maxRecDepth 100000 in
theorem impl_Tree_descend.calls (k : Nat) (A0_0 : Option Addr) (c0_0 : Nat) (l0_0 : List (S72)) (A0_1 : Option Addr) (c0_1 : Nat) (l0_1 : List (S68)) (a1 : Int) (a2 : Int) (a3 : Int) (a4 : Int) (r1 : Int) (r2 : Bool) (w : World) (hr0_0 : Kd.C k72 w A0_0 l0_0.length l0_0) (hc0_0 : l0_0.length ≤ c0_0) (hr0_1 : Kd.C k68 w A0_1 l0_1.length l0_1) (hc0_1 : l0_1.length ≤ c0_1) (h : impl_Tree_descend.f k l0_0 l0_1 a1 a2 a3 a4 = some (r1, r2)) :
  Calls Tryz.prog 69 #[.agg #[.slice A0_0 l0_0.length c0_0, .slice A0_1 l0_1.length c0_1], .int .i64 a1, .int .i64 a2, .int .i64 a3, .int .i64 a4] w fun e w' => e = .returned (.tuple #[.int .i64 r1, .bool r2]) ∧ Below w.heap.size w w' := by
 have hu35 := Tryz.underlying35
 have HR0_0 := Aside0.mk hr0_0
 have HC0_0 := Aside0.mk hc0_0
 clear hr0_0 hc0_0
 have HR0_1 := Aside0.mk hr0_1
 have HC0_1 := Aside0.mk hc0_1
 clear hr0_1 hc0_1
 have HB := Aside0.mk (Below.refl w.heap.size w)
 have H : ((impl_Tree_kindOf.f l0_0 l0_1 a1).bind fun t372 => (impl_Tree_descend.l0 k a1 a2 a3 a4 (decide (t372 ≥ 0)) l0_0 l0_1)) = some (r1, r2) := h
 clear h
 replace H := Option.bind_eq_some_iff.mp H
 obtain ⟨t372, A60, H⟩ := H
 set_option simprocs false in try dsimp only at H
 have A6 := Aside0.mk A60
 clear A60
 have H' := Aside0.mk H
 clear H
 go_enter Tryz.func69, Tryz.ntmps69
 go_wp2_with (first | ((with_reducible refine gate_dst (N := 5) rfl ?_); refine box_event ?hg (N := 5) ?hd (cs := #[.slice A0_0 l0_0.length c0_0, .slice A0_1 l0_1.length c0_1]) (t := 35) ?hr ?_; (case hd => rfl); (case hg => rfl); (case hr => first | (go_simp; done) | (go_simp; rfl)); intro gb371 hg w7 hbox hb; have n0_ := Aside0.mk (below_step (by repeat first | exact HB.out | apply pw_below_drewN) hb); have n1_ := Aside0.mk (hbox); clear HB; have HB := n0_; have BK371 := n1_; clear n0_ n1_; clear hb hbox hg; have hcz8_0 := (blk_cell BK371.out 0).trans rfl; have hcz8_1 := (blk_cell BK371.out 1).trans rfl) | ((with_reducible refine gate_callee (f := 67) rfl ?_); refine gl (some 15) Tryz.func67 #[.agg #[.slice A0_0 l0_0.length c0_0, .slice A0_1 l0_1.length c0_1], .int .i64 a1] ?_; (with_reducible refine (impl_Tree_kindOf.calls _ _ l0_0 _ _ l0_1 a1 t372 _ ?side1 ?side2 ?side3 ?side4 A6.out).mono ?_); (case side1 => exact (Kd.C_below HR0_0.out HB.out)); (case side2 => exact HC0_0.out); (case side3 => exact (Kd.C_below HR0_1.out HB.out)); (case side4 => exact HC0_1.out); rintro e w9 ⟨rfl, hb⟩; refine ⟨_, rfl, ?_⟩; have n0_ := Aside0.mk (blk_below (by exact BK371.out) hb); have n1_ := Aside0.mk (below_step (by repeat first | exact HB.out | apply pw_below_drewN) hb); clear BK371; clear HB; have BK371 := n0_; have HB := n1_; clear n0_ n1_; (try clear hb); (try clear hb2); (try clear hk); (try clear hi)))
 go_loopg [1, 12] k (fun kq v1 v12 w' => ∃ (x1_1 : Int) (x12_1 : Bool), v1 = .int .i64 x1_1 ∧ v12 = .bool x12_1 ∧ Aside0 (impl_Tree_descend.l0 kq x1_1 a2 a3 a4 x12_1 l0_0 l0_1 = some (r1, r2)) ∧ Aside0 (kq ≤ k) ∧ Aside0 (w'.heap[gb371]? = some (.cells #[(.slice A0_0 l0_0.length c0_0), (.slice A0_1 l0_1.length c0_1)] 35 (0, 0))) ∧ Aside0 (Below w.heap.size w w'))
 case atStart => exact ⟨(a1), (decide (t372 ≥ 0)), (by first | rfl | (simp; done) | (simp [*]; done)), (by first | rfl | (simp; done) | (simp [*]; done)), H', ⟨Nat.le_refl _⟩, ⟨by exact BK371.out⟩, ⟨by repeat first | exact HB.out | apply pw_below_drewN⟩⟩
 case round =>
  clear H'
  try clear p2
  try clear c6
  try clear hcz8_0
  try clear hcz8_1
  obtain ⟨x1_1, x12_1, rfl, rfl, HA, HK1, BK371, HB⟩ := hrel
  cases gk with
  | zero => exact absurd HA.out (by simp [impl_Tree_descend.l0])
  | succ k1 =>
   have H := HA.out
   clear HA
   simp only [impl_Tree_descend.l0] at H
   by_cases c10 : x12_1 = true
   ·subst c10
    rw [if_pos rfl] at H
    replace H := Option.bind_eq_some_iff.mp H
    obtain ⟨t373, A110, H⟩ := H
    set_option simprocs false in try dsimp only at H
    have A11 := Aside0.mk A110
    clear A110
    by_cases c12 : t373 = a2
    ·rw [if_pos c12] at H
     have c12b0 : (t373 == a2) = true := beq_iff_eq.mpr c12
     have c12b1 : (t373 != a2) = false := bne_eq_false_iff_eq.mpr c12
     clear c12
     simp only [Option.some.injEq, Prod.mk.injEq] at H
     obtain ⟨rfl, rfl⟩ := H
     have hcz13_0 := (blk_cell BK371.out 0).trans rfl
     have hcz13_1 := (blk_cell BK371.out 1).trans rfl
     go_wp2_with (first | (go_at_call 67; (with_reducible refine (impl_Tree_kindOf.calls _ _ l0_0 _ _ l0_1 x1_1 t373 _ ?side1 ?side2 ?side3 ?side4 A11.out).mono ?_); (case side1 => exact (Kd.C_below HR0_0.out HB.out)); (case side2 => exact HC0_0.out); (case side3 => exact (Kd.C_below HR0_1.out HB.out)); (case side4 => exact HC0_1.out); rintro e w14 ⟨rfl, hb⟩; have n0_ := Aside0.mk (blk_below (by exact BK371.out) hb); have n1_ := Aside0.mk (below_step (by repeat first | exact HB.out | apply pw_below_drewN) hb); clear BK371; clear HB; have BK371 := n0_; have HB := n1_; clear n0_ n1_; (try clear hb); (try clear hb2); (try clear hk); (try clear hi)))
     go_ret2
     exact ⟨by first | rfl | (simp [*, errW_none, errW_some] <;> rfl), by repeat first | exact HB.out | apply pw_below_drewN⟩
    ·rw [if_neg c12] at H
     have c12b0 : (t373 == a2) = false := beq_eq_false_iff_ne.mpr c12
     have c12b1 : (t373 != a2) = true := bne_iff_ne.mpr c12
     replace H := Option.bind_eq_some_iff.mp H
     obtain ⟨⟨t374, t375⟩, A150, H⟩ := H
     set_option simprocs false in try dsimp only at H
     have A15 := Aside0.mk A150
     clear A150
     have H' := Aside0.mk H
     clear H
     have hcz16_0 := (blk_cell BK371.out 0).trans rfl
     have hcz16_1 := (blk_cell BK371.out 1).trans rfl
     go_wp2_with (first | (go_at_call 67; (with_reducible refine (impl_Tree_kindOf.calls _ _ l0_0 _ _ l0_1 x1_1 t373 _ ?side1 ?side2 ?side3 ?side4 A11.out).mono ?_); (case side1 => exact (Kd.C_below HR0_0.out HB.out)); (case side2 => exact HC0_0.out); (case side3 => exact (Kd.C_below HR0_1.out HB.out)); (case side4 => exact HC0_1.out); rintro e w17 ⟨rfl, hb⟩; have n0_ := Aside0.mk (blk_below (by exact BK371.out) hb); have n1_ := Aside0.mk (below_step (by repeat first | exact HB.out | apply pw_below_drewN) hb); clear BK371; clear HB; have BK371 := n0_; have HB := n1_; clear n0_ n1_; (try clear hb); (try clear hb2); (try clear hk); (try clear hi); have hcz18_0 := (blk_cell BK371.out 0).trans rfl; have hcz18_1 := (blk_cell BK371.out 1).trans rfl) | ((with_reducible refine gate_callee (f := 82) rfl ?_); refine gl (some 30) Tryz.func82 #[.agg #[.slice A0_0 l0_0.length c0_0, .slice A0_1 l0_1.length c0_1], .int .i64 x1_1, .int .i64 a3, .int .i64 a4] ?_; (with_reducible refine (impl_Tree_chooseIn.calls k1 _ _ l0_0 _ _ l0_1 x1_1 a3 a4 t374 t375 _ ?side1 ?side2 ?side3 ?side4 A15.out).mono ?_); (case side1 => exact (Kd.C_below HR0_0.out HB.out)); (case side2 => exact HC0_0.out); (case side3 => exact (Kd.C_below HR0_1.out HB.out)); (case side4 => exact HC0_1.out); rintro e w19 ⟨rfl, hb⟩; refine ⟨_, rfl, ?_⟩; have n0_ := Aside0.mk (blk_below (by exact BK371.out) hb); have n1_ := Aside0.mk (below_step (by repeat first | exact HB.out | apply pw_below_drewN) hb); clear BK371; clear HB; have BK371 := n0_; have HB := n1_; clear n0_ n1_; (try clear hb); (try clear hb2); (try clear hk); (try clear hi)))
     go_roundg k1
     case measure => have := HK1.out; omega
     case rel => exact ⟨(t374), (t375), (by first | rfl | (simp; done) | (simp [*]; done)), (by first | rfl | (simp; done) | (simp [*]; done)), H', ⟨by have := HK1.out; omega⟩, ⟨by exact BK371.out⟩, ⟨by repeat first | exact HB.out | apply pw_below_drewN⟩⟩
   ·replace c10 := Bool.eq_false_iff.mpr c10
    subst c10
    rw [if_neg (show ¬ (false = true) by decide)] at H
    simp only [Option.some.injEq, Prod.mk.injEq] at H
    obtain ⟨rfl, rfl⟩ := H
    go_wp2
    go_ret2
    exact ⟨by first | rfl | (simp [*, errW_none, errW_some] <;> rfl), by repeat first | exact HB.out | apply pw_below_drewN⟩

/-! ### impl_Tree_above: function 95 -/
mutual
def impl_Tree_above.l0 : Nat → Int → Int → List (S68) → Int → Int → List (S72) → List (S68) → Option (Int)
 | 0, _, _, _, _, _, _, _ => none
 | k + 1, x1, x2, x10, x11, x12, x377000, x377001 => if x12 < x11 then (if 0 ≤ x12 then (if x12 < (x10.length : Int) then ((slices_Contains_int64_int64.f k ((rd_T68 x10 x12).f2) x1).bind fun t379 => (if t379 = true then (if ((rd_T68 x10 x12).f1) = x2 then (some ((rd_T68 x10 x12).f0)) else ((impl_Tree_above.f k x377000 x377001 ((rd_T68 x10 x12).f0) x2).bind fun t380 => (some t380))) else (impl_Tree_above.l0 k x1 x2 x10 x11 (wrap64 (x12 + 1)) x377000 x377001))) else (none)) else (none)) else (some 0)
def impl_Tree_above.f : Nat → List (S72) → List (S68) → Int → Int → Option (Int)
 | 0, _, _, _, _ => none
 | k + 1, l0_0, l0_1, a1, a2 => impl_Tree_above.l0 k a1 a2 l0_1 (l0_1.length : Int) 0 l0_0 l0_1
end
set_option maxHeartbeats 8000000 in
set_option maxRecDepth 100000 in
theorem impl_Tree_above.calls (k : Nat) : ∀ (A0_0 : Option Addr) (c0_0 : Nat) (l0_0 : List (S72)) (A0_1 : Option Addr) (c0_1 : Nat) (l0_1 : List (S68)) (a1 : Int) (a2 : Int) (r : Int) (w : World) (hr0_0 : Kd.C k72 w A0_0 l0_0.length l0_0) (hc0_0 : l0_0.length ≤ c0_0) (hr0_1 : Kd.C k68 w A0_1 l0_1.length l0_1) (hc0_1 : l0_1.length ≤ c0_1) (h : impl_Tree_above.f k l0_0 l0_1 a1 a2 = some r),
  Calls Tryz.prog 95 #[.agg #[.slice A0_0 l0_0.length c0_0, .slice A0_1 l0_1.length c0_1], .int .i64 a1, .int .i64 a2] w fun e w' => e = .returned (.int .i64 r) ∧ Below w.heap.size w w' := by
 induction k using Nat.strongRecOn with
 | _ k ih =>
 intro A0_0 c0_0 l0_0 A0_1 c0_1 l0_1 a1 a2 r w hr0_0 hc0_0 hr0_1 hc0_1 h
 cases k with
 | zero => exact absurd h (by simp [impl_Tree_above.f])
 | succ k =>
 simp only [impl_Tree_above.f] at h
 have hu35 := Tryz.underlying35
 have hu68 := Tryz.underlying68
 have HR0_0 := Aside0.mk hr0_0
 have HC0_0 := Aside0.mk hc0_0
 clear hr0_0 hc0_0
 have HR0_1 := Aside0.mk hr0_1
 have HC0_1 := Aside0.mk hc0_1
 clear hr0_1 hc0_1
 have HB := Aside0.mk (Below.refl w.heap.size w)
 have H : (impl_Tree_above.l0 k a1 a2 l0_1 (l0_1.length : Int) 0 l0_0 l0_1) = some r := h
 clear h
 have H' := Aside0.mk H
 clear H
 go_enter Tryz.func95, Tryz.ntmps95
 go_wp2_with (first | ((with_reducible refine gate_dst (N := 3) rfl ?_); refine box_event ?hg (N := 3) ?hd (cs := #[.slice A0_0 l0_0.length c0_0, .slice A0_1 l0_1.length c0_1]) (t := 35) ?hr ?_; (case hd => rfl); (case hg => rfl); (case hr => first | (go_simp; done) | (go_simp; rfl)); intro gb376 hg w4 hbox hb; have n0_ := Aside0.mk (below_step (by repeat first | exact HB.out | apply below_alloc | apply pw_below_drewN | apply below_drew1) hb); have n1_ := Aside0.mk (hbox); have n2_ := Aside0.mk ((by rw [hg]; exact (below_size (by repeat first | exact HB.out | apply below_alloc | apply pw_below_drewN | apply below_drew1)) : w.heap.size ≤ gb376)); have n3_ := Aside0.mk ((by rw [hg]; exact (below_size (by repeat first | exact HB.out | apply below_alloc | apply pw_below_drewN | apply below_drew1)) : w.heap.size ≤ gb376)); clear HB; have HB := n0_; have BK376 := n1_; have GW376 := n2_; have GE376 := n3_; clear n0_ n1_ n2_ n3_; clear hb hbox hg; have hcz5_0 := (blk_cell BK376.out 0).trans rfl; have hcz5_1 := (blk_cell BK376.out 1).trans rfl; have hfz5_0 := blk_frozen BK376.out 0; have hfz5_1 := blk_frozen BK376.out 1))
 go_loopg [12] k (fun kq v12 w' => ∃ (x12_1 : Int), v12 = .int .i64 x12_1 ∧ Aside0 (impl_Tree_above.l0 kq a1 a2 l0_1 (l0_1.length : Int) x12_1 l0_0 l0_1 = some r) ∧ Aside0 (kq ≤ k) ∧ Aside0 (w'.heap[gb376]? = some (.cells #[(.slice A0_0 l0_0.length c0_0), (.slice A0_1 l0_1.length c0_1)] 35 (0, 0))) ∧ Aside0 (Below w.heap.size w w'))
 case atStart => exact ⟨(0), (by first | rfl | (simp; done) | (simp [*]; done)), H', ⟨Nat.le_refl _⟩, ⟨by (with_reducible repeat first | apply blk_drewN | apply blk_drew | apply blk_alloc); exact BK376.out⟩, ⟨by repeat (first | (with_reducible first | exact HB.out | apply below_alloc | apply pw_below_drewN | apply below_drew1 | refine below_set ?_ GE376.out) | exact HB.out)⟩⟩
 case round =>
  clear H'
  try clear p2
  try clear hcz5_0
  try clear hcz5_1
  try clear hfz5_0
  try clear hfz5_1
  obtain ⟨x12_1, rfl, HA, HK1, BK376, HB⟩ := hrel
  cases gk with
  | zero => exact absurd HA.out (by simp [impl_Tree_above.l0])
  | succ k1 =>
   have H := HA.out
   clear HA
   simp only [impl_Tree_above.l0] at H
   by_cases c6 : x12_1 < (l0_1.length : Int)
   ·rw [if_pos c6] at H
    have c6b0 : decide (x12_1 < (l0_1.length : Int)) = true := decide_eq_true c6
    clear c6
    by_cases c7 : 0 ≤ x12_1
    ·rw [if_pos c7] at H
     have c7b0 : decide (0 ≤ x12_1) = true := decide_eq_true c7
     clear c7
     by_cases c8 : x12_1 < (l0_1.length : Int)
     ·rw [if_pos c8] at H
      have c8b0 : decide (x12_1 < (l0_1.length : Int)) = true := decide_eq_true c8
      clear c8
      replace H := Option.bind_eq_some_iff.mp H
      obtain ⟨t379, A90, H⟩ := H
      replace H : (if t379 = true then (if ((rd_T68 l0_1 x12_1).f1) = a2 then (some ((rd_T68 l0_1 x12_1).f0)) else ((impl_Tree_above.f k1 l0_0 l0_1 ((rd_T68 l0_1 x12_1).f0) a2).bind fun t380 => (some t380))) else (impl_Tree_above.l0 k1 a1 a2 l0_1 (l0_1.length : Int) (wrap64 (x12_1 + 1)) l0_0 l0_1)) = some r := H
      have A9 := Aside0.mk A90
      clear A90
      by_cases c10 : t379 = true
      ·subst c10
       rw [if_pos rfl] at H
       by_cases c11 : ((rd_T68 l0_1 x12_1).f1) = a2
       ·rw [if_pos c11] at H
        have c11b0 : (((rd_T68 l0_1 x12_1).f1) == a2) = true := beq_iff_eq.mpr c11
        have c11b1 : (((rd_T68 l0_1 x12_1).f1) != a2) = false := bne_eq_false_iff_eq.mpr c11
        clear c11
        obtain rfl := Option.some.inj H
        have p377 : 0 ≤ (x12_1 : Int) := of_decide_eq_true (by assumption)
        have q377 : x12_1 < (l0_1.length : Int) := of_decide_eq_true (by assumption)
        obtain ⟨ad377, A377_2, c377_2, e377, hx377_0, hx377_1, hx377_2, hl377_2, hi377_2⟩ := at_T68 HR0_1.out x12_1 p377 q377
        cases e377
        replace hx377_0 := (HB.out.cell (World.block_lt_of_cell? w _ hx377_0)).trans hx377_0
        replace hx377_1 := (HB.out.cell (World.block_lt_of_cell? w _ hx377_1)).trans hx377_1
        replace hx377_2 := (HB.out.cell (World.block_lt_of_cell? w _ hx377_2)).trans hx377_2
        have HR377_2 := Aside0.mk hi377_2
        have HC377_2 := Aside0.mk hl377_2
        clear hi377_2 hl377_2
        replace p377 := eq_true p377
        replace q377 := eq_true q377
        go_wp2_with (first | ((with_reducible refine gate_dst (N := 8) rfl ?_); refine box_event ?hg (N := 8) ?hd (cs := #[.int .i64 0, .int .i64 0, .slice none 0 0]) (t := 68) ?hr ?_; (case hd => rfl); (case hg => rfl); (case hr => first | (go_simp; done) | (go_simp; rfl)); intro gb378 hg w12 hbox hb; have n0_ := Aside0.mk (blk_below (g := gb376) (o := .cells #[.slice A0_0 l0_0.length c0_0, .slice (some ad377) l0_1.length c0_1] 35 (0, 0)) (by (with_reducible repeat first | apply blk_drewN | apply blk_drew | apply blk_alloc); exact BK376.out) hb); have n1_ := Aside0.mk (below_step (by repeat (first | (with_reducible first | exact HB.out | apply below_alloc | apply pw_below_drewN | apply below_drew1 | refine below_set ?_ GE376.out) | exact HB.out)) hb); have n2_ := Aside0.mk (hbox); have n3_ := Aside0.mk ((by rw [hg]; exact (below_size (by repeat (first | (with_reducible first | exact HB.out | apply below_alloc | apply pw_below_drewN | apply below_drew1 | refine below_set ?_ GE376.out) | exact HB.out))) : w.heap.size ≤ gb378)); have n4_ := Aside0.mk ((by rw [hg]; exact (below_size (by repeat (first | (with_reducible first | exact HB.out | apply below_alloc | apply pw_below_drewN | apply below_drew1 | refine below_set ?_ GE376.out) | exact HB.out))) : w.heap.size ≤ gb378)); have n5_ := Aside0.mk ((by rw [hg]; exact Nat.ne_of_lt (blk_lt (g := gb376) (o := .cells #[.slice A0_0 l0_0.length c0_0, .slice (some ad377) l0_1.length c0_1] 35 (0, 0)) (by (with_reducible repeat first | apply blk_drewN | apply blk_drew | apply blk_alloc); exact BK376.out)) : gb376 ≠ gb378)); have n6_ := Aside0.mk ((by rw [hg]; exact Nat.ne_of_gt (blk_lt (g := gb376) (o := .cells #[.slice A0_0 l0_0.length c0_0, .slice (some ad377) l0_1.length c0_1] 35 (0, 0)) (by (with_reducible repeat first | apply blk_drewN | apply blk_drew | apply blk_alloc); exact BK376.out)) : gb378 ≠ gb376)); clear BK376; clear HB; have BK376 := n0_; have HB := n1_; have BK378 := n2_; have GW378 := n3_; have GE378 := n4_; have NB376_378 := n5_; have NB378_376 := n6_; clear n0_ n1_ n2_ n3_ n4_ n5_ n6_; clear hb hbox hg; have hnb13 := NB378_376.out; have hnc13 := NB376_378.out; have hcz14_0 := (blk_cell BK378.out 0).trans rfl; have hcz14_1 := (blk_cell BK378.out 1).trans rfl; have hcz14_2 := (blk_cell BK378.out 2).trans rfl; have hfz14_0 := blk_frozen BK378.out 0; have hfz14_1 := blk_frozen BK378.out 1; have hfz14_2 := blk_frozen BK378.out 2) | ((with_reducible refine gate_callee (f := 56) rfl ?_); refine goesL_ (some 19) rfl rfl Tryz.func56 (by kernel_rfl) rfl #[.slice A377_2 ((rd_T68 l0_1 x12_1).f2).length c377_2, .int .i64 a1] rfl (by (try simp only [List.map_toArray, List.map_cons, List.map_nil]); first | done | rfl | (simp only [List.length_drop, List.length_take]; rfl)) ?_; (with_reducible refine (slices_Contains_int64_int64.calls k1 _ _ ((rd_T68 l0_1 x12_1).f2) a1 true _ ?side1 ?side2 A9.out).mono ?_); (case side1 => exact Kd.C_below HR377_2.out (by repeat (first | (with_reducible first | exact HB.out | apply below_alloc | apply pw_below_drewN | apply below_drew1 | refine below_set ?_ GE376.out | refine below_set ?_ GE378.out) | exact HB.out))); (case side2 => exact HC377_2.out); rintro e w' ⟨rfl, ⟨nd, rfl⟩⟩; refine ⟨_, rfl, ?_⟩))
        go_ret
        exact ⟨by first | rfl | (simp [*, errW_none, errW_some] <;> rfl), by repeat (first | (with_reducible first | exact HB.out | apply below_alloc | apply pw_below_drewN | apply below_drew1 | refine below_set ?_ GE376.out | refine below_set ?_ GE378.out) | exact HB.out)⟩
       ·rw [if_neg c11] at H
        have c11b0 : (((rd_T68 l0_1 x12_1).f1) == a2) = false := beq_eq_false_iff_ne.mpr c11
        have c11b1 : (((rd_T68 l0_1 x12_1).f1) != a2) = true := bne_iff_ne.mpr c11
        replace H := Option.bind_eq_some_iff.mp H
        obtain ⟨t380, A150, H⟩ := H
        replace H : (some t380) = some r := H
        have A15 := Aside0.mk A150
        clear A150
        obtain rfl := Option.some.inj H
        have p377 : 0 ≤ (x12_1 : Int) := of_decide_eq_true (by assumption)
        have q377 : x12_1 < (l0_1.length : Int) := of_decide_eq_true (by assumption)
        obtain ⟨ad377, A377_2, c377_2, e377, hx377_0, hx377_1, hx377_2, hl377_2, hi377_2⟩ := at_T68 HR0_1.out x12_1 p377 q377
        cases e377
        replace hx377_0 := (HB.out.cell (World.block_lt_of_cell? w _ hx377_0)).trans hx377_0
        replace hx377_1 := (HB.out.cell (World.block_lt_of_cell? w _ hx377_1)).trans hx377_1
        replace hx377_2 := (HB.out.cell (World.block_lt_of_cell? w _ hx377_2)).trans hx377_2
        have HR377_2 := Aside0.mk hi377_2
        have HC377_2 := Aside0.mk hl377_2
        clear hi377_2 hl377_2
        replace p377 := eq_true p377
        replace q377 := eq_true q377
        go_wp2_with (first | ((with_reducible refine gate_dst (N := 8) rfl ?_); refine box_event ?hg (N := 8) ?hd (cs := #[.int .i64 0, .int .i64 0, .slice none 0 0]) (t := 68) ?hr ?_; (case hd => rfl); (case hg => rfl); (case hr => first | (go_simp; done) | (go_simp; rfl)); intro gb378 hg w16 hbox hb; have n0_ := Aside0.mk (blk_below (g := gb376) (o := .cells #[.slice A0_0 l0_0.length c0_0, .slice (some ad377) l0_1.length c0_1] 35 (0, 0)) (by (with_reducible repeat first | apply blk_drewN | apply blk_drew | apply blk_alloc); exact BK376.out) hb); have n1_ := Aside0.mk (below_step (by repeat (first | (with_reducible first | exact HB.out | apply below_alloc | apply pw_below_drewN | apply below_drew1 | refine below_set ?_ GE376.out) | exact HB.out)) hb); have n2_ := Aside0.mk (hbox); have n3_ := Aside0.mk ((by rw [hg]; exact (below_size (by repeat (first | (with_reducible first | exact HB.out | apply below_alloc | apply pw_below_drewN | apply below_drew1 | refine below_set ?_ GE376.out) | exact HB.out))) : w.heap.size ≤ gb378)); have n4_ := Aside0.mk ((by rw [hg]; exact (below_size (by repeat (first | (with_reducible first | exact HB.out | apply below_alloc | apply pw_below_drewN | apply below_drew1 | refine below_set ?_ GE376.out) | exact HB.out))) : w.heap.size ≤ gb378)); have n5_ := Aside0.mk ((by rw [hg]; exact Nat.ne_of_lt (blk_lt (g := gb376) (o := .cells #[.slice A0_0 l0_0.length c0_0, .slice (some ad377) l0_1.length c0_1] 35 (0, 0)) (by (with_reducible repeat first | apply blk_drewN | apply blk_drew | apply blk_alloc); exact BK376.out)) : gb376 ≠ gb378)); have n6_ := Aside0.mk ((by rw [hg]; exact Nat.ne_of_gt (blk_lt (g := gb376) (o := .cells #[.slice A0_0 l0_0.length c0_0, .slice (some ad377) l0_1.length c0_1] 35 (0, 0)) (by (with_reducible repeat first | apply blk_drewN | apply blk_drew | apply blk_alloc); exact BK376.out)) : gb378 ≠ gb376)); clear BK376; clear HB; have BK376 := n0_; have HB := n1_; have BK378 := n2_; have GW378 := n3_; have GE378 := n4_; have NB376_378 := n5_; have NB378_376 := n6_; clear n0_ n1_ n2_ n3_ n4_ n5_ n6_; clear hb hbox hg; have hnb17 := NB378_376.out; have hnc17 := NB376_378.out; have hcz18_0 := (blk_cell BK378.out 0).trans rfl; have hcz18_1 := (blk_cell BK378.out 1).trans rfl; have hcz18_2 := (blk_cell BK378.out 2).trans rfl; have hfz18_0 := blk_frozen BK378.out 0; have hfz18_1 := blk_frozen BK378.out 1; have hfz18_2 := blk_frozen BK378.out 2) | ((with_reducible refine gate_callee (f := 56) rfl ?_); refine goesL_ (some 19) rfl rfl Tryz.func56 (by kernel_rfl) rfl #[.slice A377_2 ((rd_T68 l0_1 x12_1).f2).length c377_2, .int .i64 a1] rfl (by (try simp only [List.map_toArray, List.map_cons, List.map_nil]); first | done | rfl | (simp only [List.length_drop, List.length_take]; rfl)) ?_; (with_reducible refine (slices_Contains_int64_int64.calls k1 _ _ ((rd_T68 l0_1 x12_1).f2) a1 true _ ?side1 ?side2 A9.out).mono ?_); (case side1 => exact Kd.C_below HR377_2.out (by repeat (first | (with_reducible first | exact HB.out | apply below_alloc | apply pw_below_drewN | apply below_drew1 | refine below_set ?_ GE376.out | refine below_set ?_ GE378.out) | exact HB.out))); (case side2 => exact HC377_2.out); rintro e w' ⟨rfl, ⟨nd, rfl⟩⟩; refine ⟨_, rfl, ?_⟩; have hcz19_0 := (blk_cell BK376.out 0).trans rfl; have hcz19_1 := (blk_cell BK376.out 1).trans rfl; have hfz19_0 := blk_frozen BK376.out 0; have hfz19_1 := blk_frozen BK376.out 1) | ((with_reducible refine gate_callee (f := 95) rfl ?_); refine goesL_ (some 31) rfl rfl Tryz.func95 (by kernel_rfl) rfl #[.agg #[.slice A0_0 l0_0.length c0_0, .slice (some ad377) l0_1.length c0_1], .int .i64 ((rd_T68 l0_1 x12_1).f0), .int .i64 a2] rfl (by (try simp only [List.map_toArray, List.map_cons, List.map_nil]); first | done | rfl | (simp only [List.length_drop, List.length_take]; rfl)) ?_; (with_reducible refine (ih k1 (by have := HK1.out; omega) _ _ l0_0 _ _ l0_1 ((rd_T68 l0_1 x12_1).f0) a2 t380 _ ?side1 ?side2 ?side3 ?side4 A15.out).mono ?_); (case side1 => exact Kd.C_below HR0_0.out (by repeat (first | (with_reducible first | exact HB.out | apply below_alloc | apply pw_below_drewN | apply below_drew1 | refine below_set ?_ GE376.out | refine below_set ?_ GE378.out) | exact HB.out))); (case side2 => exact HC0_0.out); (case side3 => exact Kd.C_below HR0_1.out (by repeat (first | (with_reducible first | exact HB.out | apply below_alloc | apply pw_below_drewN | apply below_drew1 | refine below_set ?_ GE376.out | refine below_set ?_ GE378.out) | exact HB.out))); (case side4 => exact HC0_1.out); rintro e w20 ⟨rfl, hb⟩; refine ⟨_, rfl, ?_⟩; have n0_ := Aside0.mk (blk_below (g := gb376) (o := .cells #[.slice A0_0 l0_0.length c0_0, .slice (some ad377) l0_1.length c0_1] 35 (0, 0)) (by (with_reducible repeat first | apply blk_drewN | apply blk_drew | apply blk_alloc); refine blk_far ?_ NB376_378.out _; (with_reducible repeat first | apply blk_drewN | apply blk_drew | apply blk_alloc); refine blk_far ?_ NB376_378.out _; (with_reducible repeat first | apply blk_drewN | apply blk_drew | apply blk_alloc); refine blk_far ?_ NB376_378.out _; (with_reducible repeat first | apply blk_drewN | apply blk_drew | apply blk_alloc); exact BK376.out) hb); have n1_ := Aside0.mk (blk_below (g := gb378) (o := .cells #[.int .i64 ((rd_T68 l0_1 x12_1).f0), .int .i64 ((rd_T68 l0_1 x12_1).f1), .slice A377_2 ((rd_T68 l0_1 x12_1).f2).length c377_2] 68 (0, 0)) (by (with_reducible repeat first | apply blk_drewN | apply blk_drew | apply blk_alloc); refine blk_put (cs := #[.int .i64 ((rd_T68 l0_1 x12_1).f0), .int .i64 ((rd_T68 l0_1 x12_1).f1), .slice none 0 0]) ?_ 2 _ rfl; (with_reducible repeat first | apply blk_drewN | apply blk_drew | apply blk_alloc); refine blk_put (cs := #[.int .i64 ((rd_T68 l0_1 x12_1).f0), .int .i64 0, .slice none 0 0]) ?_ 1 _ rfl; (with_reducible repeat first | apply blk_drewN | apply blk_drew | apply blk_alloc); refine blk_put (cs := #[.int .i64 0, .int .i64 0, .slice none 0 0]) ?_ 0 _ rfl; (with_reducible repeat first | apply blk_drewN | apply blk_drew | apply blk_alloc); exact BK378.out) hb); have n2_ := Aside0.mk (below_step (by repeat (first | (with_reducible first | exact HB.out | apply below_alloc | apply pw_below_drewN | apply below_drew1 | refine below_set ?_ GE376.out | refine below_set ?_ GE378.out) | exact HB.out)) hb); clear BK376; clear BK378; clear HB; have BK376 := n0_; have BK378 := n1_; have HB := n2_; clear n0_ n1_ n2_; (try clear hb); (try clear hb2); (try clear hk); (try clear hi)))
        go_ret
        exact ⟨by first | rfl | (simp [*, errW_none, errW_some] <;> rfl), by repeat (first | (with_reducible first | exact HB.out | apply below_alloc | apply pw_below_drewN | apply below_drew1 | refine below_set ?_ GE376.out | refine below_set ?_ GE378.out) | exact HB.out)⟩
      ·replace c10 := Bool.eq_false_iff.mpr c10
       subst c10
       rw [if_neg (show ¬ (false = true) by decide)] at H
       have H' := Aside0.mk H
       clear H
       have p377 : 0 ≤ (x12_1 : Int) := of_decide_eq_true (by assumption)
       have q377 : x12_1 < (l0_1.length : Int) := of_decide_eq_true (by assumption)
       obtain ⟨ad377, A377_2, c377_2, e377, hx377_0, hx377_1, hx377_2, hl377_2, hi377_2⟩ := at_T68 HR0_1.out x12_1 p377 q377
       cases e377
       replace hx377_0 := (HB.out.cell (World.block_lt_of_cell? w _ hx377_0)).trans hx377_0
       replace hx377_1 := (HB.out.cell (World.block_lt_of_cell? w _ hx377_1)).trans hx377_1
       replace hx377_2 := (HB.out.cell (World.block_lt_of_cell? w _ hx377_2)).trans hx377_2
       have HR377_2 := Aside0.mk hi377_2
       have HC377_2 := Aside0.mk hl377_2
       clear hi377_2 hl377_2
       replace p377 := eq_true p377
       replace q377 := eq_true q377
       go_wp2_with (first | ((with_reducible refine gate_dst (N := 8) rfl ?_); refine box_event ?hg (N := 8) ?hd (cs := #[.int .i64 0, .int .i64 0, .slice none 0 0]) (t := 68) ?hr ?_; (case hd => rfl); (case hg => rfl); (case hr => first | (go_simp; done) | (go_simp; rfl)); intro gb378 hg w21 hbox hb; have n0_ := Aside0.mk (blk_below (g := gb376) (o := .cells #[.slice A0_0 l0_0.length c0_0, .slice (some ad377) l0_1.length c0_1] 35 (0, 0)) (by (with_reducible repeat first | apply blk_drewN | apply blk_drew | apply blk_alloc); exact BK376.out) hb); have n1_ := Aside0.mk (below_step (by repeat (first | (with_reducible first | exact HB.out | apply below_alloc | apply pw_below_drewN | apply below_drew1 | refine below_set ?_ GE376.out) | exact HB.out)) hb); have n2_ := Aside0.mk (hbox); have n3_ := Aside0.mk ((by rw [hg]; exact (below_size (by repeat (first | (with_reducible first | exact HB.out | apply below_alloc | apply pw_below_drewN | apply below_drew1 | refine below_set ?_ GE376.out) | exact HB.out))) : w.heap.size ≤ gb378)); have n4_ := Aside0.mk ((by rw [hg]; exact (below_size (by repeat (first | (with_reducible first | exact HB.out | apply below_alloc | apply pw_below_drewN | apply below_drew1 | refine below_set ?_ GE376.out) | exact HB.out))) : w.heap.size ≤ gb378)); have n5_ := Aside0.mk ((by rw [hg]; exact Nat.ne_of_lt (blk_lt (g := gb376) (o := .cells #[.slice A0_0 l0_0.length c0_0, .slice (some ad377) l0_1.length c0_1] 35 (0, 0)) (by (with_reducible repeat first | apply blk_drewN | apply blk_drew | apply blk_alloc); exact BK376.out)) : gb376 ≠ gb378)); have n6_ := Aside0.mk ((by rw [hg]; exact Nat.ne_of_gt (blk_lt (g := gb376) (o := .cells #[.slice A0_0 l0_0.length c0_0, .slice (some ad377) l0_1.length c0_1] 35 (0, 0)) (by (with_reducible repeat first | apply blk_drewN | apply blk_drew | apply blk_alloc); exact BK376.out)) : gb378 ≠ gb376)); clear BK376; clear HB; have BK376 := n0_; have HB := n1_; have BK378 := n2_; have GW378 := n3_; have GE378 := n4_; have NB376_378 := n5_; have NB378_376 := n6_; clear n0_ n1_ n2_ n3_ n4_ n5_ n6_; clear hb hbox hg; have hnb22 := NB378_376.out; have hnc22 := NB376_378.out; have hcz23_0 := (blk_cell BK378.out 0).trans rfl; have hcz23_1 := (blk_cell BK378.out 1).trans rfl; have hcz23_2 := (blk_cell BK378.out 2).trans rfl; have hfz23_0 := blk_frozen BK378.out 0; have hfz23_1 := blk_frozen BK378.out 1; have hfz23_2 := blk_frozen BK378.out 2) | ((with_reducible refine gate_callee (f := 56) rfl ?_); refine goesL_ (some 19) rfl rfl Tryz.func56 (by kernel_rfl) rfl #[.slice A377_2 ((rd_T68 l0_1 x12_1).f2).length c377_2, .int .i64 a1] rfl (by (try simp only [List.map_toArray, List.map_cons, List.map_nil]); first | done | rfl | (simp only [List.length_drop, List.length_take]; rfl)) ?_; (with_reducible refine (slices_Contains_int64_int64.calls k1 _ _ ((rd_T68 l0_1 x12_1).f2) a1 false _ ?side1 ?side2 A9.out).mono ?_); (case side1 => exact Kd.C_below HR377_2.out (by repeat (first | (with_reducible first | exact HB.out | apply below_alloc | apply pw_below_drewN | apply below_drew1 | refine below_set ?_ GE376.out | refine below_set ?_ GE378.out) | exact HB.out))); (case side2 => exact HC377_2.out); rintro e w' ⟨rfl, ⟨nd, rfl⟩⟩; refine ⟨_, rfl, ?_⟩))
       go_roundg k1
       case measure => have := HK1.out; omega
       case rel => exact ⟨(wrap64 (x12_1 + 1)), (by first | rfl | (simp; done) | (simp [*]; done)), H', ⟨by have := HK1.out; omega⟩, ⟨by (with_reducible repeat first | apply blk_drewN | apply blk_drew | apply blk_alloc); refine blk_far ?_ NB376_378.out _; (with_reducible repeat first | apply blk_drewN | apply blk_drew | apply blk_alloc); refine blk_far ?_ NB376_378.out _; (with_reducible repeat first | apply blk_drewN | apply blk_drew | apply blk_alloc); refine blk_far ?_ NB376_378.out _; (with_reducible repeat first | apply blk_drewN | apply blk_drew | apply blk_alloc); exact BK376.out⟩, ⟨by repeat (first | (with_reducible first | exact HB.out | apply below_alloc | apply pw_below_drewN | apply below_drew1 | refine below_set ?_ GE376.out | refine below_set ?_ GE378.out) | exact HB.out)⟩⟩
     ·rw [if_neg c8] at H
      exact absurd H (by simp)
    ·rw [if_neg c7] at H
     exact absurd H (by simp)
   ·rw [if_neg c6] at H
    have c6b0 : decide (x12_1 < (l0_1.length : Int)) = false := decide_eq_false c6
    clear c6
    obtain rfl := Option.some.inj H
    go_wp2
    go_ret
    exact ⟨by first | rfl | (simp [*, errW_none, errW_some] <;> rfl), by repeat (first | (with_reducible first | exact HB.out | apply below_alloc | apply pw_below_drewN | apply below_drew1 | refine below_set ?_ GE376.out) | exact HB.out)⟩

/-! ### impl_Tree_domain: function 83 -/
def impl_Tree_domain.f (k : Nat) (l0_0 : List (S72)) (l0_1 : List (S68)) (a1 : Int) (a2 : Int) : Option (Int × Bool) := (impl_Tree_device.f l0_0 l0_1 a2).bind fun t382 => (if t382 < 0 then (some (0, false)) else (if a1 = 0 then (some (a2, true)) else ((impl_Tree_above.f k l0_0 l0_1 a2 a1).bind fun t383 => (some (t383, (t383 != 0))))))
set_option maxHeartbeats 8000000 in
set_option maxRecDepth 100000 in
theorem impl_Tree_domain.calls (k : Nat) (A0_0 : Option Addr) (c0_0 : Nat) (l0_0 : List (S72)) (A0_1 : Option Addr) (c0_1 : Nat) (l0_1 : List (S68)) (a1 : Int) (a2 : Int) (r1 : Int) (r2 : Bool) (w : World) (hr0_0 : Kd.C k72 w A0_0 l0_0.length l0_0) (hc0_0 : l0_0.length ≤ c0_0) (hr0_1 : Kd.C k68 w A0_1 l0_1.length l0_1) (hc0_1 : l0_1.length ≤ c0_1) (h : impl_Tree_domain.f k l0_0 l0_1 a1 a2 = some (r1, r2)) :
  Calls Tryz.prog 83 #[.agg #[.slice A0_0 l0_0.length c0_0, .slice A0_1 l0_1.length c0_1], .int .i64 a1, .int .i64 a2] w fun e w' => e = .returned (.tuple #[.int .i64 r1, .bool r2]) ∧ Below w.heap.size w w' := by
 have hu35 := Tryz.underlying35
 have HR0_0 := Aside0.mk hr0_0
 have HC0_0 := Aside0.mk hc0_0
 clear hr0_0 hc0_0
 have HR0_1 := Aside0.mk hr0_1
 have HC0_1 := Aside0.mk hc0_1
 clear hr0_1 hc0_1
 have HB := Aside0.mk (Below.refl w.heap.size w)
 have H : ((impl_Tree_device.f l0_0 l0_1 a2).bind fun t382 => (if t382 < 0 then (some (0, false)) else (if a1 = 0 then (some (a2, true)) else ((impl_Tree_above.f k l0_0 l0_1 a2 a1).bind fun t383 => (some (t383, (t383 != 0))))))) = some (r1, r2) := h
 clear h
 replace H := Option.bind_eq_some_iff.mp H
 obtain ⟨t382, A40, H⟩ := H
 set_option simprocs false in try dsimp only at H
 have A4 := Aside0.mk A40
 clear A40
 by_cases c5 : t382 < 0
 ·rw [if_pos c5] at H
  have c5b0 : decide (t382 < 0) = true := decide_eq_true c5
  clear c5
  simp only [Option.some.injEq, Prod.mk.injEq] at H
  obtain ⟨rfl, rfl⟩ := H
  go_enter Tryz.func83, Tryz.ntmps83
  go_wp2_with (first | ((with_reducible refine gate_dst (N := 3) rfl ?_); refine box_event ?hg (N := 3) ?hd (cs := #[.slice A0_0 l0_0.length c0_0, .slice A0_1 l0_1.length c0_1]) (t := 35) ?hr ?_; (case hd => rfl); (case hg => rfl); (case hr => first | (go_simp; done) | (go_simp; rfl)); intro gb381 hg w6 hbox hb; have n0_ := Aside0.mk (below_step (by repeat first | exact HB.out | apply pw_below_drewN) hb); have n1_ := Aside0.mk (hbox); clear HB; have HB := n0_; have BK381 := n1_; clear n0_ n1_; clear hb hbox hg; have hcz7_0 := (blk_cell BK381.out 0).trans rfl; have hcz7_1 := (blk_cell BK381.out 1).trans rfl) | ((with_reducible refine gate_callee (f := 79) rfl ?_); refine gl (some 11) Tryz.func79 #[.agg #[.slice A0_0 l0_0.length c0_0, .slice A0_1 l0_1.length c0_1], .int .i64 a2] ?_; (with_reducible refine (impl_Tree_device.calls _ _ l0_0 _ _ l0_1 a2 t382 _ ?side1 ?side2 ?side3 ?side4 A4.out).mono ?_); (case side1 => exact (Kd.C_below HR0_0.out HB.out)); (case side2 => exact HC0_0.out); (case side3 => exact (Kd.C_below HR0_1.out HB.out)); (case side4 => exact HC0_1.out); rintro e w8 ⟨rfl, hb⟩; refine ⟨_, rfl, ?_⟩; have n0_ := Aside0.mk (blk_below (by exact BK381.out) hb); have n1_ := Aside0.mk (below_step (by repeat first | exact HB.out | apply pw_below_drewN) hb); clear BK381; clear HB; have BK381 := n0_; have HB := n1_; clear n0_ n1_; (try clear hb); (try clear hb2); (try clear hk); (try clear hi)))
  go_ret2
  exact ⟨by first | rfl | (simp [*, errW_none, errW_some] <;> rfl), by repeat first | exact HB.out | apply pw_below_drewN⟩
 ·rw [if_neg c5] at H
  have c5b0 : decide (t382 < 0) = false := decide_eq_false c5
  clear c5
  by_cases c9 : a1 = 0
  ·rw [if_pos c9] at H
   have c9b0 : (a1 == 0) = true := beq_iff_eq.mpr c9
   have c9b1 : (a1 != 0) = false := bne_eq_false_iff_eq.mpr c9
   clear c9
   simp only [Option.some.injEq, Prod.mk.injEq] at H
   obtain ⟨rfl, rfl⟩ := H
   go_enter Tryz.func83, Tryz.ntmps83
   go_wp2_with (first | ((with_reducible refine gate_dst (N := 3) rfl ?_); refine box_event ?hg (N := 3) ?hd (cs := #[.slice A0_0 l0_0.length c0_0, .slice A0_1 l0_1.length c0_1]) (t := 35) ?hr ?_; (case hd => rfl); (case hg => rfl); (case hr => first | (go_simp; done) | (go_simp; rfl)); intro gb381 hg w10 hbox hb; have n0_ := Aside0.mk (below_step (by repeat first | exact HB.out | apply pw_below_drewN) hb); have n1_ := Aside0.mk (hbox); clear HB; have HB := n0_; have BK381 := n1_; clear n0_ n1_; clear hb hbox hg; have hcz11_0 := (blk_cell BK381.out 0).trans rfl; have hcz11_1 := (blk_cell BK381.out 1).trans rfl) | ((with_reducible refine gate_callee (f := 79) rfl ?_); refine gl (some 11) Tryz.func79 #[.agg #[.slice A0_0 l0_0.length c0_0, .slice A0_1 l0_1.length c0_1], .int .i64 a2] ?_; (with_reducible refine (impl_Tree_device.calls _ _ l0_0 _ _ l0_1 a2 t382 _ ?side1 ?side2 ?side3 ?side4 A4.out).mono ?_); (case side1 => exact (Kd.C_below HR0_0.out HB.out)); (case side2 => exact HC0_0.out); (case side3 => exact (Kd.C_below HR0_1.out HB.out)); (case side4 => exact HC0_1.out); rintro e w12 ⟨rfl, hb⟩; refine ⟨_, rfl, ?_⟩; have n0_ := Aside0.mk (blk_below (by exact BK381.out) hb); have n1_ := Aside0.mk (below_step (by repeat first | exact HB.out | apply pw_below_drewN) hb); clear BK381; clear HB; have BK381 := n0_; have HB := n1_; clear n0_ n1_; (try clear hb); (try clear hb2); (try clear hk); (try clear hi)))
   go_ret2
   exact ⟨by first | rfl | (simp [*, errW_none, errW_some] <;> rfl), by repeat first | exact HB.out | apply pw_below_drewN⟩
  ·rw [if_neg c9] at H
   have c9b0 : (a1 == 0) = false := beq_eq_false_iff_ne.mpr c9
   have c9b1 : (a1 != 0) = true := bne_iff_ne.mpr c9
   replace H := Option.bind_eq_some_iff.mp H
   obtain ⟨t383, A130, H⟩ := H
   set_option simprocs false in try dsimp only at H
   have A13 := Aside0.mk A130
   clear A130
   simp only [Option.some.injEq, Prod.mk.injEq] at H
   obtain ⟨rfl, rfl⟩ := H
   go_enter Tryz.func83, Tryz.ntmps83
   go_wp2_with (first | ((with_reducible refine gate_dst (N := 3) rfl ?_); refine box_event ?hg (N := 3) ?hd (cs := #[.slice A0_0 l0_0.length c0_0, .slice A0_1 l0_1.length c0_1]) (t := 35) ?hr ?_; (case hd => rfl); (case hg => rfl); (case hr => first | (go_simp; done) | (go_simp; rfl)); intro gb381 hg w14 hbox hb; have n0_ := Aside0.mk (below_step (by repeat first | exact HB.out | apply pw_below_drewN) hb); have n1_ := Aside0.mk (hbox); clear HB; have HB := n0_; have BK381 := n1_; clear n0_ n1_; clear hb hbox hg; have hcz15_0 := (blk_cell BK381.out 0).trans rfl; have hcz15_1 := (blk_cell BK381.out 1).trans rfl) | ((with_reducible refine gate_callee (f := 79) rfl ?_); refine gl (some 11) Tryz.func79 #[.agg #[.slice A0_0 l0_0.length c0_0, .slice A0_1 l0_1.length c0_1], .int .i64 a2] ?_; (with_reducible refine (impl_Tree_device.calls _ _ l0_0 _ _ l0_1 a2 t382 _ ?side1 ?side2 ?side3 ?side4 A4.out).mono ?_); (case side1 => exact (Kd.C_below HR0_0.out HB.out)); (case side2 => exact HC0_0.out); (case side3 => exact (Kd.C_below HR0_1.out HB.out)); (case side4 => exact HC0_1.out); rintro e w16 ⟨rfl, hb⟩; refine ⟨_, rfl, ?_⟩; have n0_ := Aside0.mk (blk_below (by exact BK381.out) hb); have n1_ := Aside0.mk (below_step (by repeat first | exact HB.out | apply pw_below_drewN) hb); clear BK381; clear HB; have BK381 := n0_; have HB := n1_; clear n0_ n1_; (try clear hb); (try clear hb2); (try clear hk); (try clear hi); have hcz17_0 := (blk_cell BK381.out 0).trans rfl; have hcz17_1 := (blk_cell BK381.out 1).trans rfl) | ((with_reducible refine gate_callee (f := 95) rfl ?_); refine gl (some 19) Tryz.func95 #[.agg #[.slice A0_0 l0_0.length c0_0, .slice A0_1 l0_1.length c0_1], .int .i64 a2, .int .i64 a1] ?_; (with_reducible refine (impl_Tree_above.calls k _ _ l0_0 _ _ l0_1 a2 a1 t383 _ ?side1 ?side2 ?side3 ?side4 A13.out).mono ?_); (case side1 => exact (Kd.C_below HR0_0.out HB.out)); (case side2 => exact HC0_0.out); (case side3 => exact (Kd.C_below HR0_1.out HB.out)); (case side4 => exact HC0_1.out); rintro e w18 ⟨rfl, hb⟩; refine ⟨_, rfl, ?_⟩; have n0_ := Aside0.mk (blk_below (by exact BK381.out) hb); have n1_ := Aside0.mk (below_step (by repeat first | exact HB.out | apply pw_below_drewN) hb); clear BK381; clear HB; have BK381 := n0_; have HB := n1_; clear n0_ n1_; (try clear hb); (try clear hb2); (try clear hk); (try clear hi)))
   go_ret2
   exact ⟨by first | rfl | (simp [*, errW_none, errW_some] <;> rfl), by repeat first | exact HB.out | apply pw_below_drewN⟩

/-! ### impl_Tree_conflict: function 70 -/
mutual
def impl_Tree_conflict.l0 : Nat → Int → Int → Int → Int → List Int → Int → Int → List (S72) → List (S68) → Option (Bool)
 | 0, _, _, _, _, _, _, _, _, _ => none
 | k + 1, x1, x3, x4, x11, x24, x25, x26, x385000, x385001 => if x26 < x25 then (if 0 ≤ x26 then (if x26 < (x24.length : Int) then (if x26 = x3 then (impl_Tree_conflict.j1 k x1 x3 x4 x11 (rd x24 x26) x24 x25 x26 true x385000 x385001) else (impl_Tree_conflict.j1 k x1 x3 x4 x11 (rd x24 x26) x24 x25 x26 (decide ((rd x24 x26) < 0)) x385000 x385001)) else (none)) else (none)) else (some false)
def impl_Tree_conflict.j1 : Nat → Int → Int → Int → Int → Int → List Int → Int → Int → Bool → List (S72) → List (S68) → Option (Bool)
 | 0, _, _, _, _, _, _, _, _, _, _, _ => none
 | k + 1, x1, x3, x4, x11, x14, x24, x25, x26, x37, x385000, x385001 => if x37 = true then (impl_Tree_conflict.l0 k x1 x3 x4 x11 x24 x25 (wrap64 (x26 + 1)) x385000 x385001) else ((impl_Tree_domain.f k x385000 x385001 x1 x14).bind fun bt388 => (if x14 = x4 then (some true) else (if bt388.1 = x11 then (some true) else (impl_Tree_conflict.l0 k x1 x3 x4 x11 x24 x25 (wrap64 (x26 + 1)) x385000 x385001))))
end
def impl_Tree_conflict.f (k : Nat) (l0_0 : List (S72)) (l0_1 : List (S68)) (a1 : Int) (l2 : List Int) (a3 : Int) (a4 : Int) : Option (Bool) := (impl_Tree_domain.f k l0_0 l0_1 a1 a4).bind fun bt385 => (impl_Tree_conflict.l0 k a1 a3 a4 bt385.1 l2 (l2.length : Int) 0 l0_0 l0_1)
set_option maxHeartbeats 8000000 in
set_option maxRecDepth 100000 in
theorem impl_Tree_conflict.calls (k : Nat) (A0_0 : Option Addr) (c0_0 : Nat) (l0_0 : List (S72)) (A0_1 : Option Addr) (c0_1 : Nat) (l0_1 : List (S68)) (a1 : Int) (A2 : Option Addr) (c2 : Nat) (l2 : List Int) (a3 : Int) (a4 : Int) (r : Bool) (w : World) (hr0_0 : Kd.C k72 w A0_0 l0_0.length l0_0) (hc0_0 : l0_0.length ≤ c0_0) (hr0_1 : Kd.C k68 w A0_1 l0_1.length l0_1) (hc0_1 : l0_1.length ≤ c0_1) (hr2 : Kd.C (Kd.int .i64) w A2 l2.length l2) (hc2 : l2.length ≤ c2) (h : impl_Tree_conflict.f k l0_0 l0_1 a1 l2 a3 a4 = some r) :
  Calls Tryz.prog 70 #[.agg #[.slice A0_0 l0_0.length c0_0, .slice A0_1 l0_1.length c0_1], .int .i64 a1, .slice A2 l2.length c2, .int .i64 a3, .int .i64 a4] w fun e w' => e = .returned (.bool r) ∧ Below w.heap.size w w' := by
 have hu35 := Tryz.underlying35
 have HR0_0 := Aside0.mk hr0_0
 have HC0_0 := Aside0.mk hc0_0
 clear hr0_0 hc0_0
 have HR0_1 := Aside0.mk hr0_1
 have HC0_1 := Aside0.mk hc0_1
 clear hr0_1 hc0_1
 have HR2 := Aside0.mk hr2
 have HC2 := Aside0.mk hc2
 clear hr2 hc2
 have HB := Aside0.mk (Below.refl w.heap.size w)
 have H : ((impl_Tree_domain.f k l0_0 l0_1 a1 a4).bind fun bt385 => (impl_Tree_conflict.l0 k a1 a3 a4 bt385.1 l2 (l2.length : Int) 0 l0_0 l0_1)) = some r := h
 clear h
 replace H := Option.bind_eq_some_iff.mp H
 obtain ⟨⟨t385, t386⟩, A60, H⟩ := H
 set_option simprocs false in try dsimp only at H
 have A6 := Aside0.mk A60
 clear A60
 have H' := Aside0.mk H
 clear H
 go_enter Tryz.func70, Tryz.ntmps70
 go_wp2_with (first | ((with_reducible refine gate_dst (N := 5) rfl ?_); refine box_event ?hg (N := 5) ?hd (cs := #[.slice A0_0 l0_0.length c0_0, .slice A0_1 l0_1.length c0_1]) (t := 35) ?hr ?_; (case hd => rfl); (case hg => rfl); (case hr => first | (go_simp; done) | (go_simp; rfl)); intro gb384 hg w7 hbox hb; have n0_ := Aside0.mk (below_step (by repeat first | exact HB.out | apply pw_below_drewN) hb); have n1_ := Aside0.mk (hbox); clear HB; have HB := n0_; have BK384 := n1_; clear n0_ n1_; clear hb hbox hg; have hcz8_0 := (blk_cell BK384.out 0).trans rfl; have hcz8_1 := (blk_cell BK384.out 1).trans rfl) | ((with_reducible refine gate_callee (f := 83) rfl ?_); refine gl (some 21) Tryz.func83 #[.agg #[.slice A0_0 l0_0.length c0_0, .slice A0_1 l0_1.length c0_1], .int .i64 a1, .int .i64 a4] ?_; (with_reducible refine (impl_Tree_domain.calls k _ _ l0_0 _ _ l0_1 a1 a4 t385 t386 _ ?side1 ?side2 ?side3 ?side4 A6.out).mono ?_); (case side1 => exact (Kd.C_below HR0_0.out HB.out)); (case side2 => exact HC0_0.out); (case side3 => exact (Kd.C_below HR0_1.out HB.out)); (case side4 => exact HC0_1.out); rintro e w9 ⟨rfl, hb⟩; refine ⟨_, rfl, ?_⟩; have n0_ := Aside0.mk (blk_below (by exact BK384.out) hb); have n1_ := Aside0.mk (below_step (by repeat first | exact HB.out | apply pw_below_drewN) hb); clear BK384; clear HB; have BK384 := n0_; have HB := n1_; clear n0_ n1_; (try clear hb); (try clear hb2); (try clear hk); (try clear hi)))
 go_loopg [26] k (fun kq v26 w' => ∃ (x26_1 : Int), v26 = .int .i64 x26_1 ∧ Aside0 (impl_Tree_conflict.l0 kq a1 a3 a4 t385 l2 (l2.length : Int) x26_1 l0_0 l0_1 = some r) ∧ Aside0 (kq ≤ k) ∧ Aside0 (w'.heap[gb384]? = some (.cells #[(.slice A0_0 l0_0.length c0_0), (.slice A0_1 l0_1.length c0_1)] 35 (0, 0))) ∧ Aside0 (Below w.heap.size w w'))
 case atStart => exact ⟨(0), (by first | rfl | (simp; done) | (simp [*]; done)), H', ⟨Nat.le_refl _⟩, ⟨by exact BK384.out⟩, ⟨by repeat first | exact HB.out | apply pw_below_drewN⟩⟩
 case round =>
  clear H'
  try clear c2
  try clear p2
  try clear c7
  try clear c8
  try clear hcz8_0
  try clear hcz8_1
  obtain ⟨x26_1, rfl, HA, HK1, BK384, HB⟩ := hrel
  cases gk with
  | zero => exact absurd HA.out (by simp [impl_Tree_conflict.l0])
  | succ k1 =>
   have H := HA.out
   clear HA
   simp only [impl_Tree_conflict.l0] at H
   by_cases c10 : x26_1 < (l2.length : Int)
   ·rw [if_pos c10] at H
    have c10b0 : decide (x26_1 < (l2.length : Int)) = true := decide_eq_true c10
    clear c10
    by_cases c11 : 0 ≤ x26_1
    ·rw [if_pos c11] at H
     have c11b0 : decide (0 ≤ x26_1) = true := decide_eq_true c11
     clear c11
     by_cases c12 : x26_1 < (l2.length : Int)
     ·rw [if_pos c12] at H
      have c12b0 : decide (x26_1 < (l2.length : Int)) = true := decide_eq_true c12
      clear c12
      have HC13 := Aside0.mk H
      clear H
      have p387 : 0 ≤ (x26_1 : Int) := of_decide_eq_true (by assumption)
      have q387 : x26_1 < (l2.length : Int) := of_decide_eq_true (by assumption)
      obtain ⟨ad387, e387, hx387_0⟩ := Kd.at_int HR2.out x26_1 p387 q387
      cases e387
      replace hx387_0 := (HB.out.cell (World.block_lt_of_cell? w _ hx387_0)).trans hx387_0
      replace p387 := eq_true p387
      replace q387 := eq_true q387
      go_upto_region 5 with (fail)
      go_cut [37] (fun v37 wc => ∃ (kq : Nat) (x37_12 : Bool), v37 = .bool x37_12 ∧ Aside0 (impl_Tree_conflict.j1 kq a1 a3 a4 t385 (rd l2 x26_1) l2 (l2.length : Int) x26_1 x37_12 l0_0 l0_1 = some r) ∧ Aside0 (kq ≤ k1) ∧ Aside0 (wc.heap[gb384]? = some (.cells #[(.slice A0_0 l0_0.length c0_0), (.slice A0_1 l0_1.length c0_1)] 35 (0, 0))) ∧ Aside0 (Below w.heap.size w wc))
      case first =>
       have H := HC13.out
       clear HC13
       by_cases c14 : x26_1 = a3
       ·rw [if_pos c14] at H
        have c14b0 : (x26_1 == a3) = true := beq_iff_eq.mpr c14
        have c14b1 : (x26_1 != a3) = false := bne_eq_false_iff_eq.mpr c14
        clear c14
        (first | rw [c14b0] | (simp only [i64_w, i32_w]; rw [c14b0]) | skip)
        have H' := Aside0.mk H
        clear H
        go_wp2
        go_meet
        case rel => exact ⟨_, (true), (by first | rfl | (simp; done) | (simp [*]; done)), H', ⟨by have := HK1.out; first | omega | exact Nat.le_refl _⟩, ⟨by exact BK384.out⟩, ⟨by repeat first | exact HB.out | apply pw_below_drewN⟩⟩
       ·rw [if_neg c14] at H
        have c14b0 : (x26_1 == a3) = false := beq_eq_false_iff_ne.mpr c14
        have c14b1 : (x26_1 != a3) = true := bne_iff_ne.mpr c14
        (first | rw [c14b0] | (simp only [i64_w, i32_w]; rw [c14b0]) | skip)
        have H' := Aside0.mk H
        clear H
        go_wp2
        go_meet
        case rel => exact ⟨_, (decide ((rd l2 x26_1) < 0)), (by first | rfl | (simp; done) | (simp [*]; done)), H', ⟨by have := HK1.out; first | omega | exact Nat.le_refl _⟩, ⟨by exact BK384.out⟩, ⟨by repeat first | exact HB.out | apply pw_below_drewN⟩⟩
      case rest =>
       clear HC13
       try clear c1
       try clear c2
       try clear p2
       try clear p3
       try clear q3
       try clear hx3
       try clear c7
       try clear c8
       try clear c10
       try clear c10b0
       try clear c11
       try clear c11b0
       try clear c12
       try clear c12b0
       try clear c14
       try clear c14b0
       try clear c14b1
       try clear hcz8_0
       try clear hcz8_1
       try clear hx387_0
       try clear p2
       try clear p387
       try clear q387
       obtain ⟨kq, x37_12, rfl, HA, HJ12, BK384, HB⟩ := hcut
       cases kq with
       | zero => exact absurd HA.out (by simp [impl_Tree_conflict.j1])
       | succ kj12 =>
        have H := HA.out
        clear HA
        simp only [impl_Tree_conflict.j1] at H
        by_cases c15 : x37_12 = true
        ·subst c15
         rw [if_pos rfl] at H
         have H' := Aside0.mk H
         clear H
         go_wp2
         go_roundg kj12
         case measure => have := HK1.out; have := HJ12.out; omega
         case rel => exact ⟨(wrap64 (x26_1 + 1)), (by first | rfl | (simp; done) | (simp [*]; done)), H', ⟨by have := HK1.out; have := HJ12.out; omega⟩, ⟨by exact BK384.out⟩, ⟨by repeat first | exact HB.out | apply pw_below_drewN⟩⟩
        ·replace c15 := Bool.eq_false_iff.mpr c15
         subst c15
         rw [if_neg (show ¬ (false = true) by decide)] at H
         replace H := Option.bind_eq_some_iff.mp H
         obtain ⟨⟨t388, t389⟩, A160, H⟩ := H
         set_option simprocs false in try dsimp only at H
         have A16 := Aside0.mk A160
         clear A160
         by_cases c17 : (rd l2 x26_1) = a4
         ·rw [if_pos c17] at H
          have c17b0 : ((rd l2 x26_1) == a4) = true := beq_iff_eq.mpr c17
          have c17b1 : ((rd l2 x26_1) != a4) = false := bne_eq_false_iff_eq.mpr c17
          clear c17
          obtain rfl := Option.some.inj H
          have hcz18_0 := (blk_cell BK384.out 0).trans rfl
          have hcz18_1 := (blk_cell BK384.out 1).trans rfl
          go_wp2_with (first | ((with_reducible refine gate_callee (f := 83) rfl ?_); refine gl (some 42) Tryz.func83 #[.agg #[.slice A0_0 l0_0.length c0_0, .slice A0_1 l0_1.length c0_1], .int .i64 a1, .int .i64 (rd l2 x26_1)] ?_; (with_reducible refine (impl_Tree_domain.calls kj12 _ _ l0_0 _ _ l0_1 a1 (rd l2 x26_1) t388 t389 _ ?side1 ?side2 ?side3 ?side4 A16.out).mono ?_); (case side1 => exact (Kd.C_below HR0_0.out HB.out)); (case side2 => exact HC0_0.out); (case side3 => exact (Kd.C_below HR0_1.out HB.out)); (case side4 => exact HC0_1.out); rintro e w19 ⟨rfl, hb⟩; refine ⟨_, rfl, ?_⟩; have n0_ := Aside0.mk (blk_below (by exact BK384.out) hb); have n1_ := Aside0.mk (below_step (by repeat first | exact HB.out | apply pw_below_drewN) hb); clear BK384; clear HB; have BK384 := n0_; have HB := n1_; clear n0_ n1_; (try clear hb); (try clear hb2); (try clear hk); (try clear hi)))
          go_ret
          exact ⟨by first | rfl | (simp [*, errW_none, errW_some] <;> rfl), by repeat first | exact HB.out | apply pw_below_drewN⟩
         ·rw [if_neg c17] at H
          have c17b0 : ((rd l2 x26_1) == a4) = false := beq_eq_false_iff_ne.mpr c17
          have c17b1 : ((rd l2 x26_1) != a4) = true := bne_iff_ne.mpr c17
          by_cases c20 : t388 = t385
          ·rw [if_pos c20] at H
           have c20b0 : (t388 == t385) = true := beq_iff_eq.mpr c20
           have c20b1 : (t388 != t385) = false := bne_eq_false_iff_eq.mpr c20
           clear c20
           obtain rfl := Option.some.inj H
           have hcz21_0 := (blk_cell BK384.out 0).trans rfl
           have hcz21_1 := (blk_cell BK384.out 1).trans rfl
           go_wp2_with (first | ((with_reducible refine gate_callee (f := 83) rfl ?_); refine gl (some 42) Tryz.func83 #[.agg #[.slice A0_0 l0_0.length c0_0, .slice A0_1 l0_1.length c0_1], .int .i64 a1, .int .i64 (rd l2 x26_1)] ?_; (with_reducible refine (impl_Tree_domain.calls kj12 _ _ l0_0 _ _ l0_1 a1 (rd l2 x26_1) t388 t389 _ ?side1 ?side2 ?side3 ?side4 A16.out).mono ?_); (case side1 => exact (Kd.C_below HR0_0.out HB.out)); (case side2 => exact HC0_0.out); (case side3 => exact (Kd.C_below HR0_1.out HB.out)); (case side4 => exact HC0_1.out); rintro e w22 ⟨rfl, hb⟩; refine ⟨_, rfl, ?_⟩; have n0_ := Aside0.mk (blk_below (by exact BK384.out) hb); have n1_ := Aside0.mk (below_step (by repeat first | exact HB.out | apply pw_below_drewN) hb); clear BK384; clear HB; have BK384 := n0_; have HB := n1_; clear n0_ n1_; (try clear hb); (try clear hb2); (try clear hk); (try clear hi)))
           go_ret
           exact ⟨by first | rfl | (simp [*, errW_none, errW_some] <;> rfl), by repeat first | exact HB.out | apply pw_below_drewN⟩
          ·rw [if_neg c20] at H
           have c20b0 : (t388 == t385) = false := beq_eq_false_iff_ne.mpr c20
           have c20b1 : (t388 != t385) = true := bne_iff_ne.mpr c20
           have H' := Aside0.mk H
           clear H
           have hcz23_0 := (blk_cell BK384.out 0).trans rfl
           have hcz23_1 := (blk_cell BK384.out 1).trans rfl
           go_wp2_with (first | ((with_reducible refine gate_callee (f := 83) rfl ?_); refine gl (some 42) Tryz.func83 #[.agg #[.slice A0_0 l0_0.length c0_0, .slice A0_1 l0_1.length c0_1], .int .i64 a1, .int .i64 (rd l2 x26_1)] ?_; (with_reducible refine (impl_Tree_domain.calls kj12 _ _ l0_0 _ _ l0_1 a1 (rd l2 x26_1) t388 t389 _ ?side1 ?side2 ?side3 ?side4 A16.out).mono ?_); (case side1 => exact (Kd.C_below HR0_0.out HB.out)); (case side2 => exact HC0_0.out); (case side3 => exact (Kd.C_below HR0_1.out HB.out)); (case side4 => exact HC0_1.out); rintro e w24 ⟨rfl, hb⟩; refine ⟨_, rfl, ?_⟩; have n0_ := Aside0.mk (blk_below (by exact BK384.out) hb); have n1_ := Aside0.mk (below_step (by repeat first | exact HB.out | apply pw_below_drewN) hb); clear BK384; clear HB; have BK384 := n0_; have HB := n1_; clear n0_ n1_; (try clear hb); (try clear hb2); (try clear hk); (try clear hi)))
           go_roundg kj12
           case measure => have := HK1.out; have := HJ12.out; omega
           case rel => exact ⟨(wrap64 (x26_1 + 1)), (by first | rfl | (simp; done) | (simp [*]; done)), H', ⟨by have := HK1.out; have := HJ12.out; omega⟩, ⟨by exact BK384.out⟩, ⟨by repeat first | exact HB.out | apply pw_below_drewN⟩⟩
     ·rw [if_neg c12] at H
      exact absurd H (by simp)
    ·rw [if_neg c11] at H
     exact absurd H (by simp)
   ·rw [if_neg c10] at H
    have c10b0 : decide (x26_1 < (l2.length : Int)) = false := decide_eq_false c10
    clear c10
    obtain rfl := Option.some.inj H
    go_wp2
    go_ret
    exact ⟨by first | rfl | (simp [*, errW_none, errW_some] <;> rfl), by repeat first | exact HB.out | apply pw_below_drewN⟩

/-! ### impl_Tree_search: function 49 -/
def impl_Tree_search.l0 : Nat → Int → List Int → Int → List Int → Int → List (S72) → List (S68) → Int → Int → Int → Bool → Option (Int)
  | 0, _, _, _, _, _, _, _, _, _, _, _ => none
  | k + 1, x2, x3, x4, x5, x18, x391000, x391001, x392000, x392001, x392002, x392003 => if x18 < 30 then ((impl_Tree_descend.f k x391000 x391001 x392001 x392002 x2 (wrap64 ((wrap64 (x18 * 7)) + x4))).bind fun bt392 => (if bt392.2 = true then ((impl_Tree_descend.f k x391000 x391001 bt392.1 0 x2 (wrap64 ((wrap64 (x18 * 7)) + x4))).bind fun bt394 => (if bt394.2 = true then ((slices_Contains_int64_int64.f k x5 bt394.1).bind fun t396 => (if t396 = true then (impl_Tree_search.l0 k x2 x3 x4 x5 (wrap64 (x18 + 1)) x391000 x391001 x392000 x392001 x392002 x392003) else ((impl_Tree_conflict.f k x391000 x391001 x392002 x3 x4 bt394.1).bind fun t397 => (if t397 = true then (impl_Tree_search.l0 k x2 x3 x4 x5 (wrap64 (x18 + 1)) x391000 x391001 x392000 x392001 x392002 x392003) else (some bt394.1))))) else (impl_Tree_search.l0 k x2 x3 x4 x5 (wrap64 (x18 + 1)) x391000 x391001 x392000 x392001 x392002 x392003))) else (some (-1)))) else (some (-1))
def impl_Tree_search.f (k : Nat) (l0_0 : List (S72)) (l0_1 : List (S68)) (a1_0 : Int) (a1_1 : Int) (a1_2 : Int) (a1_3 : Bool) (a2 : Int) (l3 : List Int) (a4 : Int) (l5 : List Int) : Option (Int) := impl_Tree_search.l0 k a2 l3 a4 l5 0 l0_0 l0_1 a1_0 a1_1 a1_2 a1_3
set_option maxHeartbeats 8000000 in
set_option maxRecDepth 100000 in
theorem impl_Tree_search.calls (k : Nat) (A0_0 : Option Addr) (c0_0 : Nat) (l0_0 : List (S72)) (A0_1 : Option Addr) (c0_1 : Nat) (l0_1 : List (S68)) (a1_0 : Int) (a1_1 : Int) (a1_2 : Int) (a1_3 : Bool) (a2 : Int) (A3 : Option Addr) (c3 : Nat) (l3 : List Int) (a4 : Int) (A5 : Option Addr) (c5 : Nat) (l5 : List Int) (r : Int) (w : World) (hr0_0 : Kd.C k72 w A0_0 l0_0.length l0_0) (hc0_0 : l0_0.length ≤ c0_0) (hr0_1 : Kd.C k68 w A0_1 l0_1.length l0_1) (hc0_1 : l0_1.length ≤ c0_1) (hr3 : Kd.C (Kd.int .i64) w A3 l3.length l3) (hc3 : l3.length ≤ c3) (hr5 : Kd.C (Kd.int .i64) w A5 l5.length l5) (hc5 : l5.length ≤ c5) (h : impl_Tree_search.f k l0_0 l0_1 a1_0 a1_1 a1_2 a1_3 a2 l3 a4 l5 = some r) :
  Calls Tryz.prog 49 #[.agg #[.slice A0_0 l0_0.length c0_0, .slice A0_1 l0_1.length c0_1], .agg #[.int .i64 a1_0, .int .i64 a1_1, .int .i64 a1_2, .bool a1_3], .int .i64 a2, .slice A3 l3.length c3, .int .i64 a4, .slice A5 l5.length c5] w fun e w' => e = .returned (.int .i64 r) ∧ Below w.heap.size w w' := by
 have hu35 := Tryz.underlying35
 have hu37 := Tryz.underlying37
 have HR0_0 := Aside0.mk hr0_0
 have HC0_0 := Aside0.mk hc0_0
 clear hr0_0 hc0_0
 have HR0_1 := Aside0.mk hr0_1
 have HC0_1 := Aside0.mk hc0_1
 clear hr0_1 hc0_1
 have HR3 := Aside0.mk hr3
 have HC3 := Aside0.mk hc3
 clear hr3 hc3
 have HR5 := Aside0.mk hr5
 have HC5 := Aside0.mk hc5
 clear hr5 hc5
 have HB := Aside0.mk (Below.refl w.heap.size w)
 have H : (impl_Tree_search.l0 k a2 l3 a4 l5 0 l0_0 l0_1 a1_0 a1_1 a1_2 a1_3) = some r := h
 clear h
 have H' := Aside0.mk H
 clear H
 go_enter Tryz.func49, Tryz.ntmps49
 go_wp2_with (first | ((with_reducible refine gate_dst (N := 6) rfl ?_); refine box_event ?hg (N := 6) ?hd (cs := #[.slice A0_0 l0_0.length c0_0, .slice A0_1 l0_1.length c0_1]) (t := 35) ?hr ?_; (case hd => rfl); (case hg => rfl); (case hr => first | (go_simp; done) | (go_simp; rfl)); intro gb390 hg w7 hbox hb; have n0_ := Aside0.mk (below_step (by repeat first | exact HB.out | apply pw_below_drewN) hb); have n1_ := Aside0.mk (hbox); clear HB; have HB := n0_; have BK390 := n1_; clear n0_ n1_; clear hb hbox hg) | ((with_reducible refine gate_dst (N := 7) rfl ?_); refine box_event ?hg (N := 7) ?hd (cs := #[.int .i64 a1_0, .int .i64 a1_1, .int .i64 a1_2, .bool a1_3]) (t := 37) ?hr ?_; (case hd => rfl); (case hg => rfl); (case hr => first | (go_simp; done) | (go_simp; rfl)); intro gb391 hg w8 hbox hb; have n0_ := Aside0.mk (blk_below (by exact BK390.out) hb); have n1_ := Aside0.mk (below_step (by repeat first | exact HB.out | apply pw_below_drewN) hb); have n2_ := Aside0.mk (hbox); clear BK390; clear HB; have BK390 := n0_; have HB := n1_; have BK391 := n2_; clear n0_ n1_ n2_; clear hb hbox hg))
 go_loopg [18] k (fun kq v18 w' => ∃ (x18_1 : Int), v18 = .int .i64 x18_1 ∧ Aside0 (impl_Tree_search.l0 kq a2 l3 a4 l5 x18_1 l0_0 l0_1 a1_0 a1_1 a1_2 a1_3 = some r) ∧ Aside0 (kq ≤ k) ∧ Aside0 (w'.heap[gb390]? = some (.cells #[(.slice A0_0 l0_0.length c0_0), (.slice A0_1 l0_1.length c0_1)] 35 (0, 0))) ∧ Aside0 (w'.heap[gb391]? = some (.cells #[.int .i64 a1_0, .int .i64 a1_1, .int .i64 a1_2, .bool a1_3] 37 (0, 0))) ∧ Aside0 (Below w.heap.size w w'))
 case atStart => exact ⟨(0), (by first | rfl | (simp; done) | (simp [*]; done)), H', ⟨Nat.le_refl _⟩, ⟨by exact BK390.out⟩, ⟨by exact BK391.out⟩, ⟨by repeat first | exact HB.out | apply pw_below_drewN⟩⟩
 case round =>
  clear H'
  try clear p2
  try clear c3
  try clear c4
  try clear c5
  obtain ⟨x18_1, rfl, HA, HK1, BK390, BK391, HB⟩ := hrel
  cases gk with
  | zero => exact absurd HA.out (by simp [impl_Tree_search.l0])
  | succ k1 =>
   have H := HA.out
   clear HA
   simp only [impl_Tree_search.l0] at H
   by_cases c9 : x18_1 < 30
   ·rw [if_pos c9] at H
    have c9b0 : decide (x18_1 < 30) = true := decide_eq_true c9
    clear c9
    replace H := Option.bind_eq_some_iff.mp H
    obtain ⟨⟨t392, t393⟩, A100, H⟩ := H
    set_option simprocs false in try dsimp only at H
    have A10 := Aside0.mk A100
    clear A100
    by_cases c11 : t393 = true
    ·subst c11
     rw [if_pos rfl] at H
     replace H := Option.bind_eq_some_iff.mp H
     obtain ⟨⟨t394, t395⟩, A120, H⟩ := H
     set_option simprocs false in try dsimp only at H
     have A12 := Aside0.mk A120
     clear A120
     by_cases c13 : t395 = true
     ·subst c13
      rw [if_pos rfl] at H
      replace H := Option.bind_eq_some_iff.mp H
      obtain ⟨t396, A140, H⟩ := H
      set_option simprocs false in try dsimp only at H
      have A14 := Aside0.mk A140
      clear A140
      by_cases c15 : t396 = true
      ·subst c15
       rw [if_pos rfl] at H
       have H' := Aside0.mk H
       clear H
       have hcz17_0 := (blk_cell BK390.out 0).trans rfl
       have hcz17_1 := (blk_cell BK390.out 1).trans rfl
       have hcz18_0 := (blk_cell BK391.out 0).trans rfl
       have hcz18_1 := (blk_cell BK391.out 1).trans rfl
       have hcz18_2 := (blk_cell BK391.out 2).trans rfl
       have hcz18_3 := (blk_cell BK391.out 3).trans rfl
       go_wp2_with (first | ((with_reducible refine gate_callee (f := 69) rfl ?_); refine gl (some 33) Tryz.func69 #[.agg #[.slice A0_0 l0_0.length c0_0, .slice A0_1 l0_1.length c0_1], .int .i64 a1_1, .int .i64 a1_2, .int .i64 a2, .int .i64 (wrap64 ((wrap64 (x18_1 * 7)) + a4))] ?_; (with_reducible refine (impl_Tree_descend.calls k1 _ _ l0_0 _ _ l0_1 a1_1 a1_2 a2 (wrap64 ((wrap64 (x18_1 * 7)) + a4)) t392 true _ ?side1 ?side2 ?side3 ?side4 A10.out).mono ?_); (case side1 => exact (Kd.C_below HR0_0.out HB.out)); (case side2 => exact HC0_0.out); (case side3 => exact (Kd.C_below HR0_1.out HB.out)); (case side4 => exact HC0_1.out); rintro e w19 ⟨rfl, hb⟩; refine ⟨_, rfl, ?_⟩; have n0_ := Aside0.mk (blk_below (by exact BK390.out) hb); have n1_ := Aside0.mk (blk_below (by exact BK391.out) hb); have n2_ := Aside0.mk (below_step (by repeat first | exact HB.out | apply pw_below_drewN) hb); clear BK390; clear BK391; clear HB; have BK390 := n0_; have BK391 := n1_; have HB := n2_; clear n0_ n1_ n2_; (try clear hb); (try clear hb2); (try clear hk); (try clear hi); have hcz20_0 := (blk_cell BK390.out 0).trans rfl; have hcz20_1 := (blk_cell BK390.out 1).trans rfl) | ((with_reducible refine gate_callee (f := 69) rfl ?_); refine gl (some 43) Tryz.func69 #[.agg #[.slice A0_0 l0_0.length c0_0, .slice A0_1 l0_1.length c0_1], .int .i64 t392, .int .i64 0, .int .i64 a2, .int .i64 (wrap64 ((wrap64 (x18_1 * 7)) + a4))] ?_; (with_reducible refine (impl_Tree_descend.calls k1 _ _ l0_0 _ _ l0_1 t392 0 a2 (wrap64 ((wrap64 (x18_1 * 7)) + a4)) t394 true _ ?side1 ?side2 ?side3 ?side4 A12.out).mono ?_); (case side1 => exact (Kd.C_below HR0_0.out HB.out)); (case side2 => exact HC0_0.out); (case side3 => exact (Kd.C_below HR0_1.out HB.out)); (case side4 => exact HC0_1.out); rintro e w21 ⟨rfl, hb⟩; refine ⟨_, rfl, ?_⟩; have n0_ := Aside0.mk (blk_below (by exact BK390.out) hb); have n1_ := Aside0.mk (blk_below (by exact BK391.out) hb); have n2_ := Aside0.mk (below_step (by repeat first | exact HB.out | apply pw_below_drewN) hb); clear BK390; clear BK391; clear HB; have BK390 := n0_; have BK391 := n1_; have HB := n2_; clear n0_ n1_ n2_; (try clear hb); (try clear hb2); (try clear hk); (try clear hi)) | (go_at_call 56; (with_reducible refine (slices_Contains_int64_int64.calls k1 _ _ l5 t394 true _ ?side1 ?side2 A14.out).mono ?_); (case side1 => exact (Kd.C_below HR5.out HB.out)); (case side2 => exact HC5.out); rintro e w' ⟨rfl, ⟨nd, rfl⟩⟩))
       go_roundg k1
       case measure => have := HK1.out; omega
       case rel => exact ⟨(wrap64 (x18_1 + 1)), (by first | rfl | (simp; done) | (simp [*]; done)), H', ⟨by have := HK1.out; omega⟩, ⟨by exact BK390.out⟩, ⟨by exact BK391.out⟩, ⟨by repeat first | exact HB.out | apply pw_below_drewN⟩⟩
      ·replace c15 := Bool.eq_false_iff.mpr c15
       subst c15
       rw [if_neg (show ¬ (false = true) by decide)] at H
       replace H := Option.bind_eq_some_iff.mp H
       obtain ⟨t397, A220, H⟩ := H
       set_option simprocs false in try dsimp only at H
       have A22 := Aside0.mk A220
       clear A220
       by_cases c23 : t397 = true
       ·subst c23
        rw [if_pos rfl] at H
        have H' := Aside0.mk H
        clear H
        have hcz25_0 := (blk_cell BK390.out 0).trans rfl
        have hcz25_1 := (blk_cell BK390.out 1).trans rfl
        have hcz26_0 := (blk_cell BK391.out 0).trans rfl
        have hcz26_1 := (blk_cell BK391.out 1).trans rfl
        have hcz26_2 := (blk_cell BK391.out 2).trans rfl
        have hcz26_3 := (blk_cell BK391.out 3).trans rfl
        go_wp2_with (first | ((with_reducible refine gate_callee (f := 69) rfl ?_); refine gl (some 33) Tryz.func69 #[.agg #[.slice A0_0 l0_0.length c0_0, .slice A0_1 l0_1.length c0_1], .int .i64 a1_1, .int .i64 a1_2, .int .i64 a2, .int .i64 (wrap64 ((wrap64 (x18_1 * 7)) + a4))] ?_; (with_reducible refine (impl_Tree_descend.calls k1 _ _ l0_0 _ _ l0_1 a1_1 a1_2 a2 (wrap64 ((wrap64 (x18_1 * 7)) + a4)) t392 true _ ?side1 ?side2 ?side3 ?side4 A10.out).mono ?_); (case side1 => exact (Kd.C_below HR0_0.out HB.out)); (case side2 => exact HC0_0.out); (case side3 => exact (Kd.C_below HR0_1.out HB.out)); (case side4 => exact HC0_1.out); rintro e w27 ⟨rfl, hb⟩; refine ⟨_, rfl, ?_⟩; have n0_ := Aside0.mk (blk_below (by exact BK390.out) hb); have n1_ := Aside0.mk (blk_below (by exact BK391.out) hb); have n2_ := Aside0.mk (below_step (by repeat first | exact HB.out | apply pw_below_drewN) hb); clear BK390; clear BK391; clear HB; have BK390 := n0_; have BK391 := n1_; have HB := n2_; clear n0_ n1_ n2_; (try clear hb); (try clear hb2); (try clear hk); (try clear hi); have hcz28_0 := (blk_cell BK390.out 0).trans rfl; have hcz28_1 := (blk_cell BK390.out 1).trans rfl) | ((with_reducible refine gate_callee (f := 69) rfl ?_); refine gl (some 43) Tryz.func69 #[.agg #[.slice A0_0 l0_0.length c0_0, .slice A0_1 l0_1.length c0_1], .int .i64 t392, .int .i64 0, .int .i64 a2, .int .i64 (wrap64 ((wrap64 (x18_1 * 7)) + a4))] ?_; (with_reducible refine (impl_Tree_descend.calls k1 _ _ l0_0 _ _ l0_1 t392 0 a2 (wrap64 ((wrap64 (x18_1 * 7)) + a4)) t394 true _ ?side1 ?side2 ?side3 ?side4 A12.out).mono ?_); (case side1 => exact (Kd.C_below HR0_0.out HB.out)); (case side2 => exact HC0_0.out); (case side3 => exact (Kd.C_below HR0_1.out HB.out)); (case side4 => exact HC0_1.out); rintro e w29 ⟨rfl, hb⟩; refine ⟨_, rfl, ?_⟩; have n0_ := Aside0.mk (blk_below (by exact BK390.out) hb); have n1_ := Aside0.mk (blk_below (by exact BK391.out) hb); have n2_ := Aside0.mk (below_step (by repeat first | exact HB.out | apply pw_below_drewN) hb); clear BK390; clear BK391; clear HB; have BK390 := n0_; have BK391 := n1_; have HB := n2_; clear n0_ n1_ n2_; (try clear hb); (try clear hb2); (try clear hk); (try clear hi)) | (go_at_call 56; (with_reducible refine (slices_Contains_int64_int64.calls k1 _ _ l5 t394 false _ ?side1 ?side2 A14.out).mono ?_); (case side1 => exact (Kd.C_below HR5.out HB.out)); (case side2 => exact HC5.out); rintro e w' ⟨rfl, ⟨nd, rfl⟩⟩; have hcz30_0 := (blk_cell BK390.out 0).trans rfl; have hcz30_1 := (blk_cell BK390.out 1).trans rfl; have hcz31_0 := (blk_cell BK391.out 0).trans rfl; have hcz31_1 := (blk_cell BK391.out 1).trans rfl; have hcz31_2 := (blk_cell BK391.out 2).trans rfl; have hcz31_3 := (blk_cell BK391.out 3).trans rfl) | (go_at_call 70; (with_reducible refine (impl_Tree_conflict.calls k1 _ _ l0_0 _ _ l0_1 a1_2 _ _ l3 a4 t394 true _ ?side1 ?side2 ?side3 ?side4 ?side5 ?side6 A22.out).mono ?_); (case side1 => exact (Kd.C_below HR0_0.out (by repeat first | exact HB.out | apply pw_below_drewN))); (case side2 => exact HC0_0.out); (case side3 => exact (Kd.C_below HR0_1.out (by repeat first | exact HB.out | apply pw_below_drewN))); (case side4 => exact HC0_1.out); (case side5 => exact (Kd.C_below HR3.out (by repeat first | exact HB.out | apply pw_below_drewN))); (case side6 => exact HC3.out); rintro e w32 ⟨rfl, hb⟩; have n0_ := Aside0.mk (blk_below (by exact BK390.out) hb); have n1_ := Aside0.mk (blk_below (by exact BK391.out) hb); have n2_ := Aside0.mk (below_step (by repeat first | exact HB.out | apply pw_below_drewN) hb); clear BK390; clear BK391; clear HB; have BK390 := n0_; have BK391 := n1_; have HB := n2_; clear n0_ n1_ n2_; (try clear hb); (try clear hb2); (try clear hk); (try clear hi)))
        go_roundg k1
        case measure => have := HK1.out; omega
        case rel => exact ⟨(wrap64 (x18_1 + 1)), (by first | rfl | (simp; done) | (simp [*]; done)), H', ⟨by have := HK1.out; omega⟩, ⟨by exact BK390.out⟩, ⟨by exact BK391.out⟩, ⟨by repeat first | exact HB.out | apply pw_below_drewN⟩⟩
       ·replace c23 := Bool.eq_false_iff.mpr c23
        subst c23
        rw [if_neg (show ¬ (false = true) by decide)] at H
        obtain rfl := Option.some.inj H
        have hcz34_0 := (blk_cell BK390.out 0).trans rfl
        have hcz34_1 := (blk_cell BK390.out 1).trans rfl
        have hcz35_0 := (blk_cell BK391.out 0).trans rfl
        have hcz35_1 := (blk_cell BK391.out 1).trans rfl
        have hcz35_2 := (blk_cell BK391.out 2).trans rfl
        have hcz35_3 := (blk_cell BK391.out 3).trans rfl
        go_wp2_with (first | ((with_reducible refine gate_callee (f := 69) rfl ?_); refine gl (some 33) Tryz.func69 #[.agg #[.slice A0_0 l0_0.length c0_0, .slice A0_1 l0_1.length c0_1], .int .i64 a1_1, .int .i64 a1_2, .int .i64 a2, .int .i64 (wrap64 ((wrap64 (x18_1 * 7)) + a4))] ?_; (with_reducible refine (impl_Tree_descend.calls k1 _ _ l0_0 _ _ l0_1 a1_1 a1_2 a2 (wrap64 ((wrap64 (x18_1 * 7)) + a4)) t392 true _ ?side1 ?side2 ?side3 ?side4 A10.out).mono ?_); (case side1 => exact (Kd.C_below HR0_0.out HB.out)); (case side2 => exact HC0_0.out); (case side3 => exact (Kd.C_below HR0_1.out HB.out)); (case side4 => exact HC0_1.out); rintro e w36 ⟨rfl, hb⟩; refine ⟨_, rfl, ?_⟩; have n0_ := Aside0.mk (blk_below (by exact BK390.out) hb); have n1_ := Aside0.mk (blk_below (by exact BK391.out) hb); have n2_ := Aside0.mk (below_step (by repeat first | exact HB.out | apply pw_below_drewN) hb); clear BK390; clear BK391; clear HB; have BK390 := n0_; have BK391 := n1_; have HB := n2_; clear n0_ n1_ n2_; (try clear hb); (try clear hb2); (try clear hk); (try clear hi); have hcz37_0 := (blk_cell BK390.out 0).trans rfl; have hcz37_1 := (blk_cell BK390.out 1).trans rfl) | ((with_reducible refine gate_callee (f := 69) rfl ?_); refine gl (some 43) Tryz.func69 #[.agg #[.slice A0_0 l0_0.length c0_0, .slice A0_1 l0_1.length c0_1], .int .i64 t392, .int .i64 0, .int .i64 a2, .int .i64 (wrap64 ((wrap64 (x18_1 * 7)) + a4))] ?_; (with_reducible refine (impl_Tree_descend.calls k1 _ _ l0_0 _ _ l0_1 t392 0 a2 (wrap64 ((wrap64 (x18_1 * 7)) + a4)) t394 true _ ?side1 ?side2 ?side3 ?side4 A12.out).mono ?_); (case side1 => exact (Kd.C_below HR0_0.out HB.out)); (case side2 => exact HC0_0.out); (case side3 => exact (Kd.C_below HR0_1.out HB.out)); (case side4 => exact HC0_1.out); rintro e w38 ⟨rfl, hb⟩; refine ⟨_, rfl, ?_⟩; have n0_ := Aside0.mk (blk_below (by exact BK390.out) hb); have n1_ := Aside0.mk (blk_below (by exact BK391.out) hb); have n2_ := Aside0.mk (below_step (by repeat first | exact HB.out | apply pw_below_drewN) hb); clear BK390; clear BK391; clear HB; have BK390 := n0_; have BK391 := n1_; have HB := n2_; clear n0_ n1_ n2_; (try clear hb); (try clear hb2); (try clear hk); (try clear hi)) | (go_at_call 56; (with_reducible refine (slices_Contains_int64_int64.calls k1 _ _ l5 t394 false _ ?side1 ?side2 A14.out).mono ?_); (case side1 => exact (Kd.C_below HR5.out HB.out)); (case side2 => exact HC5.out); rintro e w' ⟨rfl, ⟨nd, rfl⟩⟩; have hcz39_0 := (blk_cell BK390.out 0).trans rfl; have hcz39_1 := (blk_cell BK390.out 1).trans rfl; have hcz40_0 := (blk_cell BK391.out 0).trans rfl; have hcz40_1 := (blk_cell BK391.out 1).trans rfl; have hcz40_2 := (blk_cell BK391.out 2).trans rfl; have hcz40_3 := (blk_cell BK391.out 3).trans rfl) | (go_at_call 70; (with_reducible refine (impl_Tree_conflict.calls k1 _ _ l0_0 _ _ l0_1 a1_2 _ _ l3 a4 t394 false _ ?side1 ?side2 ?side3 ?side4 ?side5 ?side6 A22.out).mono ?_); (case side1 => exact (Kd.C_below HR0_0.out (by repeat first | exact HB.out | apply pw_below_drewN))); (case side2 => exact HC0_0.out); (case side3 => exact (Kd.C_below HR0_1.out (by repeat first | exact HB.out | apply pw_below_drewN))); (case side4 => exact HC0_1.out); (case side5 => exact (Kd.C_below HR3.out (by repeat first | exact HB.out | apply pw_below_drewN))); (case side6 => exact HC3.out); rintro e w41 ⟨rfl, hb⟩; have n0_ := Aside0.mk (blk_below (by exact BK390.out) hb); have n1_ := Aside0.mk (blk_below (by exact BK391.out) hb); have n2_ := Aside0.mk (below_step (by repeat first | exact HB.out | apply pw_below_drewN) hb); clear BK390; clear BK391; clear HB; have BK390 := n0_; have BK391 := n1_; have HB := n2_; clear n0_ n1_ n2_; (try clear hb); (try clear hb2); (try clear hk); (try clear hi)))
        go_ret
        exact ⟨by first | rfl | (simp [*, errW_none, errW_some] <;> rfl), by repeat first | exact HB.out | apply pw_below_drewN⟩
     ·replace c13 := Bool.eq_false_iff.mpr c13
      subst c13
      rw [if_neg (show ¬ (false = true) by decide)] at H
      have H' := Aside0.mk H
      clear H
      have hcz43_0 := (blk_cell BK390.out 0).trans rfl
      have hcz43_1 := (blk_cell BK390.out 1).trans rfl
      have hcz44_0 := (blk_cell BK391.out 0).trans rfl
      have hcz44_1 := (blk_cell BK391.out 1).trans rfl
      have hcz44_2 := (blk_cell BK391.out 2).trans rfl
      have hcz44_3 := (blk_cell BK391.out 3).trans rfl
      go_wp2_with (first | ((with_reducible refine gate_callee (f := 69) rfl ?_); refine gl (some 33) Tryz.func69 #[.agg #[.slice A0_0 l0_0.length c0_0, .slice A0_1 l0_1.length c0_1], .int .i64 a1_1, .int .i64 a1_2, .int .i64 a2, .int .i64 (wrap64 ((wrap64 (x18_1 * 7)) + a4))] ?_; (with_reducible refine (impl_Tree_descend.calls k1 _ _ l0_0 _ _ l0_1 a1_1 a1_2 a2 (wrap64 ((wrap64 (x18_1 * 7)) + a4)) t392 true _ ?side1 ?side2 ?side3 ?side4 A10.out).mono ?_); (case side1 => exact (Kd.C_below HR0_0.out HB.out)); (case side2 => exact HC0_0.out); (case side3 => exact (Kd.C_below HR0_1.out HB.out)); (case side4 => exact HC0_1.out); rintro e w45 ⟨rfl, hb⟩; refine ⟨_, rfl, ?_⟩; have n0_ := Aside0.mk (blk_below (by exact BK390.out) hb); have n1_ := Aside0.mk (blk_below (by exact BK391.out) hb); have n2_ := Aside0.mk (below_step (by repeat first | exact HB.out | apply pw_below_drewN) hb); clear BK390; clear BK391; clear HB; have BK390 := n0_; have BK391 := n1_; have HB := n2_; clear n0_ n1_ n2_; (try clear hb); (try clear hb2); (try clear hk); (try clear hi); have hcz46_0 := (blk_cell BK390.out 0).trans rfl; have hcz46_1 := (blk_cell BK390.out 1).trans rfl) | ((with_reducible refine gate_callee (f := 69) rfl ?_); refine gl (some 43) Tryz.func69 #[.agg #[.slice A0_0 l0_0.length c0_0, .slice A0_1 l0_1.length c0_1], .int .i64 t392, .int .i64 0, .int .i64 a2, .int .i64 (wrap64 ((wrap64 (x18_1 * 7)) + a4))] ?_; (with_reducible refine (impl_Tree_descend.calls k1 _ _ l0_0 _ _ l0_1 t392 0 a2 (wrap64 ((wrap64 (x18_1 * 7)) + a4)) t394 false _ ?side1 ?side2 ?side3 ?side4 A12.out).mono ?_); (case side1 => exact (Kd.C_below HR0_0.out HB.out)); (case side2 => exact HC0_0.out); (case side3 => exact (Kd.C_below HR0_1.out HB.out)); (case side4 => exact HC0_1.out); rintro e w47 ⟨rfl, hb⟩; refine ⟨_, rfl, ?_⟩; have n0_ := Aside0.mk (blk_below (by exact BK390.out) hb); have n1_ := Aside0.mk (blk_below (by exact BK391.out) hb); have n2_ := Aside0.mk (below_step (by repeat first | exact HB.out | apply pw_below_drewN) hb); clear BK390; clear BK391; clear HB; have BK390 := n0_; have BK391 := n1_; have HB := n2_; clear n0_ n1_ n2_; (try clear hb); (try clear hb2); (try clear hk); (try clear hi)))
      go_roundg k1
      case measure => have := HK1.out; omega
      case rel => exact ⟨(wrap64 (x18_1 + 1)), (by first | rfl | (simp; done) | (simp [*]; done)), H', ⟨by have := HK1.out; omega⟩, ⟨by exact BK390.out⟩, ⟨by exact BK391.out⟩, ⟨by repeat first | exact HB.out | apply pw_below_drewN⟩⟩
    ·replace c11 := Bool.eq_false_iff.mpr c11
     subst c11
     rw [if_neg (show ¬ (false = true) by decide)] at H
     obtain rfl := Option.some.inj H
     have hcz49_0 := (blk_cell BK390.out 0).trans rfl
     have hcz49_1 := (blk_cell BK390.out 1).trans rfl
     have hcz50_0 := (blk_cell BK391.out 0).trans rfl
     have hcz50_1 := (blk_cell BK391.out 1).trans rfl
     have hcz50_2 := (blk_cell BK391.out 2).trans rfl
     have hcz50_3 := (blk_cell BK391.out 3).trans rfl
     go_wp2_with (first | ((with_reducible refine gate_callee (f := 69) rfl ?_); refine gl (some 33) Tryz.func69 #[.agg #[.slice A0_0 l0_0.length c0_0, .slice A0_1 l0_1.length c0_1], .int .i64 a1_1, .int .i64 a1_2, .int .i64 a2, .int .i64 (wrap64 ((wrap64 (x18_1 * 7)) + a4))] ?_; (with_reducible refine (impl_Tree_descend.calls k1 _ _ l0_0 _ _ l0_1 a1_1 a1_2 a2 (wrap64 ((wrap64 (x18_1 * 7)) + a4)) t392 false _ ?side1 ?side2 ?side3 ?side4 A10.out).mono ?_); (case side1 => exact (Kd.C_below HR0_0.out HB.out)); (case side2 => exact HC0_0.out); (case side3 => exact (Kd.C_below HR0_1.out HB.out)); (case side4 => exact HC0_1.out); rintro e w51 ⟨rfl, hb⟩; refine ⟨_, rfl, ?_⟩; have n0_ := Aside0.mk (blk_below (by exact BK390.out) hb); have n1_ := Aside0.mk (blk_below (by exact BK391.out) hb); have n2_ := Aside0.mk (below_step (by repeat first | exact HB.out | apply pw_below_drewN) hb); clear BK390; clear BK391; clear HB; have BK390 := n0_; have BK391 := n1_; have HB := n2_; clear n0_ n1_ n2_; (try clear hb); (try clear hb2); (try clear hk); (try clear hi)))
     go_ret
     exact ⟨by first | rfl | (simp [*, errW_none, errW_some] <;> rfl), by repeat first | exact HB.out | apply pw_below_drewN⟩
   ·rw [if_neg c9] at H
    have c9b0 : decide (x18_1 < 30) = false := decide_eq_false c9
    clear c9
    obtain rfl := Option.some.inj H
    go_wp2
    go_ret
    exact ⟨by first | rfl | (simp [*, errW_none, errW_some] <;> rfl), by repeat first | exact HB.out | apply pw_below_drewN⟩

/-! ### impl_Tree_placeWhole: function 28 -/
def impl_Tree_placeWhole.l0 : Nat → Int → List Int → Int → Int → List (S72) → List (S68) → Int → Int → Int → Bool → Option (List Int)
 | 0, _, _, _, _, _, _, _, _, _, _ => none
 | k + 1, x2, x9, x13, x14, x399000, x399001, x400000, x400001, x400002, x400003 => if x14 < x13 then ((impl_Tree_search.f k x399000 x399001 x400000 x400001 x400002 x400003 x2 x9 x14 ([] : List Int)).bind fun t403 => (if 0 ≤ x14 then (if x14 < (x9.length : Int) then (impl_Tree_placeWhole.l0 k x2 (x9.set (x14 : Int).toNat t403) x13 (wrap64 (x14 + 1)) x399000 x399001 x400000 x400001 x400002 x400003) else (none)) else (none))) else (some x9)
def impl_Tree_placeWhole.f (k : Nat) (l0_0 : List (S72)) (l0_1 : List (S68)) (a1_0 : Int) (a1_1 : Int) (a1_2 : Int) (a1_3 : Bool) (a2 : Int) (a3 : Int) : Option (List Int) := (impl_emptyPlaces.f a3).bind fun t400 => (impl_Tree_placeWhole.l0 k a2 t400 a3 0 l0_0 l0_1 a1_0 a1_1 a1_2 a1_3)
set_option maxHeartbeats 8000000 in
set_option maxRecDepth 100000 in
theorem impl_Tree_placeWhole.calls (k : Nat) (A0_0 : Option Addr) (c0_0 : Nat) (l0_0 : List (S72)) (A0_1 : Option Addr) (c0_1 : Nat) (l0_1 : List (S68)) (a1_0 : Int) (a1_1 : Int) (a1_2 : Int) (a1_3 : Bool) (a2 : Int) (a3 : Int) (r : List Int) (w : World) (hr0_0 : Kd.C k72 w A0_0 l0_0.length l0_0) (hc0_0 : l0_0.length ≤ c0_0) (hr0_1 : Kd.C k68 w A0_1 l0_1.length l0_1) (hc0_1 : l0_1.length ≤ c0_1) (h : impl_Tree_placeWhole.f k l0_0 l0_1 a1_0 a1_1 a1_2 a1_3 a2 a3 = some r) :
  Calls Tryz.prog 28 #[.agg #[.slice A0_0 l0_0.length c0_0, .slice A0_1 l0_1.length c0_1], .agg #[.int .i64 a1_0, .int .i64 a1_1, .int .i64 a1_2, .bool a1_3], .int .i64 a2, .int .i64 a3] w fun e w' => ∃ v0_ : Value, e = .returned (v0_) ∧ Kd.R (Kd.int .i64) 2 w' w.heap.size (fun _ => True) v0_ r ∧ Below w.heap.size w w' := by
 have hu35 := Tryz.underlying35
 have hu37 := Tryz.underlying37
 have HR0_0 := Aside0.mk hr0_0
 have HC0_0 := Aside0.mk hc0_0
 clear hr0_0 hc0_0
 have HR0_1 := Aside0.mk hr0_1
 have HC0_1 := Aside0.mk hc0_1
 clear hr0_1 hc0_1
 have HB := Aside0.mk (Below.refl w.heap.size w)
 have H : ((impl_emptyPlaces.f a3).bind fun t400 => (impl_Tree_placeWhole.l0 k a2 t400 a3 0 l0_0 l0_1 a1_0 a1_1 a1_2 a1_3)) = some r := h
 clear h
 replace H := Option.bind_eq_some_iff.mp H
 obtain ⟨t400, A50, H⟩ := H
 set_option simprocs false in try dsimp only at H
 have A5 := Aside0.mk A50
 clear A50
 have H' := Aside0.mk H
 clear H
 go_enter Tryz.func28, Tryz.ntmps28
 go_wp2_with (first | ((with_reducible refine gate_dst (N := 4) rfl ?_); refine box_event ?hg (N := 4) ?hd (cs := #[.slice A0_0 l0_0.length c0_0, .slice A0_1 l0_1.length c0_1]) (t := 35) ?hr ?_; (case hd => rfl); (case hg => rfl); (case hr => first | (go_simp; done) | (go_simp; rfl)); intro gb398 hg w6 hbox hb; have n0_ := Aside0.mk (below_step (by repeat first | exact HB.out | apply pw_below_drewN) hb); have n1_ := Aside0.mk (hbox); have n2_ := Aside0.mk ((by rw [hg]; exact (below_size (by repeat first | exact HB.out | apply pw_below_drewN)) : w.heap.size ≤ gb398)); have n3_ := Aside0.mk ((by rw [hg]; exact (below_size (by repeat first | exact HB.out | apply pw_below_drewN)) : w.heap.size ≤ gb398)); clear HB; have HB := n0_; have BK398 := n1_; have GW398 := n2_; have GE398 := n3_; clear n0_ n1_ n2_ n3_; clear hb hbox hg) | ((with_reducible refine gate_dst (N := 5) rfl ?_); refine box_event ?hg (N := 5) ?hd (cs := #[.int .i64 a1_0, .int .i64 a1_1, .int .i64 a1_2, .bool a1_3]) (t := 37) ?hr ?_; (case hd => rfl); (case hg => rfl); (case hr => first | (go_simp; done) | (go_simp; rfl)); intro gb399 hg w7 hbox hb; have n0_ := Aside0.mk (blk_below (by exact BK398.out) hb); have n1_ := Aside0.mk (below_step (by repeat first | exact HB.out | apply pw_below_drewN) hb); have n2_ := Aside0.mk (hbox); have n3_ := Aside0.mk ((by rw [hg]; exact (below_size (by repeat first | exact HB.out | apply pw_below_drewN)) : w.heap.size ≤ gb399)); have n4_ := Aside0.mk ((by rw [hg]; exact (below_size (by repeat first | exact HB.out | apply pw_below_drewN)) : w.heap.size ≤ gb399)); have n5_ := Aside0.mk ((by rw [hg]; exact Nat.ne_of_lt (blk_lt (g := gb398) (o := .cells #[.slice A0_0 l0_0.length c0_0, .slice A0_1 l0_1.length c0_1] 35 (0, 0)) (by exact BK398.out)) : gb398 ≠ gb399)); have n6_ := Aside0.mk ((by rw [hg]; exact Nat.ne_of_gt (blk_lt (g := gb398) (o := .cells #[.slice A0_0 l0_0.length c0_0, .slice A0_1 l0_1.length c0_1] 35 (0, 0)) (by exact BK398.out)) : gb399 ≠ gb398)); clear BK398; clear HB; have BK398 := n0_; have HB := n1_; have BK399 := n2_; have GW399 := n3_; have GE399 := n4_; have NB398_399 := n5_; have NB399_398 := n6_; clear n0_ n1_ n2_ n3_ n4_ n5_ n6_; clear hb hbox hg) | ((with_reducible refine gate_callee (f := 48) rfl ?_); refine gl (some 12) Tryz.func48 #[.int .i64 a3] ?_; (with_reducible refine (impl_emptyPlaces.calls a3 t400 _ A5.out).mono ?_); rintro e w8 ⟨v401, rfl, ho0, hb⟩; refine ⟨_, rfl, ?_⟩; have n0_ := Aside0.mk (Kd.R_lower ho0 (below_size (by repeat first | exact HB.out | apply pw_below_drewN))); have n1_ := Aside0.mk (blk_below (by exact BK398.out) hb); have n2_ := Aside0.mk (blk_below (by exact BK399.out) hb); have n3_ := Aside0.mk (below_step (by repeat first | exact HB.out | apply pw_below_drewN) hb); clear BK398; clear BK399; clear HB; have HO402 := n0_; have BK398 := n1_; have BK399 := n2_; have HB := n3_; clear n0_ n1_ n2_ n3_; (try clear hb); (try clear hb2); (try clear hk); (try clear hi); (try clear ho0)))
 go_loopg [14] k (fun kq v14 w' => ∃ (x9_1 : List Int) (x14_1 : Int), v14 = .int .i64 x14_1 ∧ Aside0 (impl_Tree_placeWhole.l0 kq a2 x9_1 a3 x14_1 l0_0 l0_1 a1_0 a1_1 a1_2 a1_3 = some r) ∧ Aside0 (kq ≤ k) ∧ Aside0 (Kd.R (Kd.int .i64) 2 w' w.heap.size (fun _ => True) v401 x9_1) ∧ Aside0 (w'.heap[gb398]? = some (.cells #[(.slice A0_0 l0_0.length c0_0), (.slice A0_1 l0_1.length c0_1)] 35 (0, 0))) ∧ Aside0 (w'.heap[gb399]? = some (.cells #[.int .i64 a1_0, .int .i64 a1_1, .int .i64 a1_2, .bool a1_3] 37 (0, 0))) ∧ Aside0 (Below w.heap.size w w'))
 case atStart => exact ⟨(t400), (0), (by first | rfl | (simp; done) | (simp [*]; done)), H', ⟨Nat.le_refl _⟩, ⟨by (with_reducible repeat (first | apply Kd.R_alloc | apply Kd.R_drewN | apply Kd.R_drew)); exact HO402.out⟩, ⟨by exact BK398.out⟩, ⟨by exact BK399.out⟩, ⟨by repeat first | exact HB.out | apply pw_below_drewN⟩⟩
 case round =>
  clear H'
  try clear c2
  try clear p2
  try clear c4
  obtain ⟨x9_1, x14_1, rfl, HA, HK1, HO_9, BK398, BK399, HB⟩ := hrel
  cases gk with
  | zero => exact absurd HA.out (by simp [impl_Tree_placeWhole.l0])
  | succ k1 =>
   have H := HA.out
   clear HA
   simp only [impl_Tree_placeWhole.l0] at H
   by_cases c9 : x14_1 < a3
   ·rw [if_pos c9] at H
    have c9b0 : decide (x14_1 < a3) = true := decide_eq_true c9
    clear c9
    replace H := Option.bind_eq_some_iff.mp H
    obtain ⟨t403, A100, H⟩ := H
    set_option simprocs false in try dsimp only at H
    have A10 := Aside0.mk A100
    clear A100
    by_cases c11 : 0 ≤ x14_1
    ·rw [if_pos c11] at H
     have c11b0 : decide (0 ≤ x14_1) = true := decide_eq_true c11
     clear c11
     by_cases c12 : x14_1 < (x9_1.length : Int)
     ·rw [if_pos c12] at H
      have c12b0 : decide (x14_1 < (x9_1.length : Int)) = true := decide_eq_true c12
      clear c12
      obtain ⟨y404, hy404⟩ : ∃ y_ : List Int, y_ = (x9_1.set (x14_1 : Int).toNat t403) := ⟨_, rfl⟩
      replace H : (impl_Tree_placeWhole.l0 k1 a2 y404 a3 (wrap64 (x14_1 + 1)) l0_0 l0_1 a1_0 a1_1 a1_2 a1_3) = some r := by first | (rw [hy404]; with_reducible exact H) | (have H2_ := (Option.bind_some _ _).symm.trans H; rw [hy404]; with_reducible exact H2_) | (have H2_ := (Option.bind_some _ _).symm.trans H; with_reducible exact H2_) | with_reducible exact H | (rw [hy404]; exact H) | exact H
      have Ny404 := Aside0.mk hy404
      clear hy404
      have H' := Aside0.mk H
      clear H
      have hnb14 := NB398_399.out
      have hnc14 := NB399_398.out
      have hcz15_0 := (blk_cell BK398.out 0).trans rfl
      have hcz15_1 := (blk_cell BK398.out 1).trans rfl
      have hcz16_0 := (blk_cell BK399.out 0).trans rfl
      have hcz16_1 := (blk_cell BK399.out 1).trans rfl
      have hcz16_2 := (blk_cell BK399.out 2).trans rfl
      have hcz16_3 := (blk_cell BK399.out 3).trans rfl
      obtain ⟨Ao17, co17, eo17⟩ := Kd.R_slice HO_9.out
      subst eo17
      go_wp2_with (first | ((with_reducible refine gate_callee (f := 49) rfl ?_); refine gl (some 24) Tryz.func49 #[.agg #[.slice A0_0 l0_0.length c0_0, .slice A0_1 l0_1.length c0_1], .agg #[.int .i64 a1_0, .int .i64 a1_1, .int .i64 a1_2, .bool a1_3], .int .i64 a2, .slice Ao17 x9_1.length co17, .int .i64 x14_1, .slice none 0 0] ?_; (refine (impl_Tree_search.calls k1 _ _ l0_0 _ _ l0_1 a1_0 a1_1 a1_2 a1_3 a2 _ _ x9_1 x14_1 _ _ ([] : List Int) t403 _ ?side1 ?side2 ?side3 ?side4 ?side5 ?side6 ?side7 ?side8 A10.out).mono ?_); (case side1 => exact (Kd.C_below HR0_0.out HB.out)); (case side2 => exact HC0_0.out); (case side3 => exact (Kd.C_below HR0_1.out HB.out)); (case side4 => exact HC0_1.out); (case side5 => exact (Kd.R_reads' HO_9.out).2.2); (case side6 => exact (Kd.R_reads' HO_9.out).2.1); (case side7 => exact Kd.C_nil _ _); (case side8 => exact Nat.le_refl _); rintro e w18 ⟨rfl, hb⟩; refine ⟨_, rfl, ?_⟩; have n0_ := Aside0.mk (Kd.R_below (by (with_reducible repeat (first | apply Kd.R_alloc | apply Kd.R_drewN | apply Kd.R_drew)); exact HO_9.out) hb); have n1_ := Aside0.mk (blk_below (by exact BK398.out) hb); have n2_ := Aside0.mk (blk_below (by exact BK399.out) hb); have n3_ := Aside0.mk (below_step (by repeat first | exact HB.out | apply pw_below_drewN) hb); clear HO_9; clear BK398; clear BK399; clear HB; have HO_9 := n0_; have BK398 := n1_; have BK399 := n2_; have HB := n3_; clear n0_ n1_ n2_ n3_; (try clear hb); (try clear hb2); (try clear hk); (try clear hi); have p13 : 0 ≤ (x14_1 : Int) := of_decide_eq_true (by assumption); have q13 : (x14_1 : Int) < ((x9_1.length : Int) : Int) := of_decide_eq_true (by assumption); obtain ⟨go13, co13, eo13, gb13, gl13, cl13, HG13⟩ := Kd.R_form HO_9.out (by omega); (first | cases eo13 | (injection eo13 with ea_ en_ ec_; (first | subst ea_ | (injection ea_ with ea_; subst ea_)); subst ec_; clear en_)); have GB13 := Aside0.mk gb13; have GG13 := Aside0.mk HG13; clear gb13 gl13 HG13; obtain ⟨hx13_0, hf13_0⟩ := Kd.R_celln 0 HO_9.out (x14_1 : Int) p13 q13; replace p13 := eq_true p13; replace q13 := eq_true q13; obtain ⟨hy19_, hz19_⟩ := Kd.R_celln 0 HO_9.out (x14_1 : Int) (of_decide_eq_true (by assumption)) (of_decide_eq_true (by assumption)); have HP19 := Kd.R_putg HO_9.out (x14_1 : Int) t403) | ((with_reducible refine gate_store (t := 2) (p := 25) rfl ?_); refine store_event (t := 2) (p := 25) (v := ?vo_w20) (w1 := (w18.setCell ⟨go13, (x14_1 : Int).toNat, none⟩ (.int .i64 t403))) ?hg ?ho ?hn ?hr ?_; (case ho => rfl); (case hg => rfl); (case hn => rfl); (case hr => first | (go_simp; done) | (go_simp; rfl)); intro w20 hw; have hg : w18.grownBy w20 (some go13) := (by rw [hw]; exact HP19.2); have hp_ : Kd.R (Kd.int .i64) 2 w20 w.heap.size (fun _ => True) (.slice (some ⟨go13, 0, none⟩) x9_1.length co17) y404 := (by rw [hw, Ny404.out]; exact HP19.1); clear HP19; have n0_ := Aside0.mk (hp_); have n1_ := Aside0.mk (blk_grown (g := gb398) (o := .cells #[.slice A0_0 l0_0.length c0_0, .slice A0_1 l0_1.length c0_1] 35 (0, 0)) (by exact BK398.out) hg (Kd.R_ne HO_9.out BK398.out (by decide))); have n2_ := Aside0.mk (blk_grown (g := gb399) (o := .cells #[.int .i64 a1_0, .int .i64 a1_1, .int .i64 a1_2, .bool a1_3] 37 (0, 0)) (by exact BK399.out) hg (Kd.R_ne HO_9.out BK399.out (by decide))); have n3_ := Aside0.mk ((by rw [hw]; exact below_set (HB.out) GB13.out : Below w.heap.size w w20)); clear HO_9; clear BK398; clear BK399; clear HB; have HO_9 := n0_; have BK398 := n1_; have BK399 := n2_; have HB := n3_; clear n0_ n1_ n2_ n3_; clear hg hw hp_))
      go_roundg k1
      case measure => have := HK1.out; omega
      case rel => exact ⟨(y404), (wrap64 (x14_1 + 1)), (by first | rfl | (simp; done) | (simp [*]; done)), H', ⟨by have := HK1.out; omega⟩, ⟨by (with_reducible repeat (first | apply Kd.R_alloc | apply Kd.R_drewN | apply Kd.R_drew)); exact HO_9.out⟩, ⟨by exact BK398.out⟩, ⟨by exact BK399.out⟩, ⟨by repeat first | exact HB.out | apply pw_below_drewN⟩⟩
     ·rw [if_neg c12] at H
      exact absurd H (by simp)
    ·rw [if_neg c11] at H
     exact absurd H (by simp)
   ·rw [if_neg c9] at H
    have c9b0 : decide (x14_1 < a3) = false := decide_eq_false c9
    clear c9
    obtain rfl := Option.some.inj H
    go_wp2
    go_ret
    exact ⟨_, by first | rfl | (simp [*, errW_none, errW_some] <;> rfl), by (with_reducible repeat (first | apply Kd.R_alloc | apply Kd.R_drewN | apply Kd.R_drew)); exact HO_9.out, by repeat first | exact HB.out | apply pw_below_drewN⟩

/-! ### impl_Tree_place: function 36 -/
/-- a thing is struck, or all are kept -/
theorem idx_split (p : Int → Bool) : ∀ (l : List Int) (i : Int), (idxFrom p l i = -1 ∧ ∀ x ∈ l, p x = false) ∨ ∃ n, n < l.length ∧ idxFrom p l i = i + (n : Int) ∧ p (l.getD n 0) = true ∧ ∀ x ∈ l.take n, p x = false
 | [], i => .inl ⟨rfl, fun x h => by cases h⟩
 | y :: l, i => by
  cases hy : p y with
  | true => exact .inr ⟨0, by simp, by simp [idxFrom, hy], by simpa using hy, fun x h => by cases h⟩
  | false =>
   rcases idx_split p l (i + 1) with ⟨e, h⟩ | ⟨n, hn, e, h1, h2⟩
   ·exact .inl ⟨by simp [idxFrom, hy, e], fun x hx => by rcases List.mem_cons.1 hx with rfl | hx; exact hy; exact h x hx⟩
   ·refine .inr ⟨n + 1, by simpa using hn, ?_, by simpa using h1, fun x hx => ?_⟩
    ·simp only [idxFrom, hy, Bool.false_eq_true, if_false, e]
     omega
    ·rcases List.mem_cons.1 hx with rfl | hx
     ·exact hy
     ·exact h2 x hx
/-- what holds while the kept ones are laid to the front -/
structure KeptAt (q : Int → Bool) (xs ys : List Int) (i j : Nat) : Prop where
 len : ys.length = xs.length
 lt : i < j
 le : j ≤ xs.length
 front : ys.take i = (xs.take j).filter q
 back : ys.drop j = xs.drop j
theorem KeptAt.here {q : Int → Bool} {xs ys : List Int} {i j : Nat} (h : KeptAt q xs ys i j) (hj : j < xs.length) : rd ys (j : Int) = xs.getD j 0 := by
 have e := congrArg (fun l => l.head?) h.back
 simp only [List.head?_drop] at e
 unfold rd
 rw [Int.toNat_natCast, List.getD_eq_getElem?_getD, List.getD_eq_getElem?_getD, e]
theorem KeptAt.skip {q : Int → Bool} {xs ys : List Int} {i j : Nat} (h : KeptAt q xs ys i j) (hj : j < xs.length) (hq : q (xs.getD j 0) = false) : KeptAt q xs ys i (j + 1) := by
 have e : xs.getD j 0 = xs[j] := by rw [List.getD_eq_getElem?_getD, List.getElem?_eq_getElem hj]; rfl
 refine ⟨h.len, by have := h.lt; omega, hj, ?_, ?_⟩
 ·rw [h.front, List.take_succ_eq_append_getElem hj, List.filter_append, List.filter_cons_of_neg (by rw [← e, hq]; decide)]
  simp
 ·rw [← List.drop_drop (i := 1) (j := j), h.back, List.drop_drop]
theorem KeptAt.keep {q : Int → Bool} {xs ys : List Int} {i j : Nat} (h : KeptAt q xs ys i j) (hj : j < xs.length) (hq : q (xs.getD j 0) = true) : KeptAt q xs (ys.set i (xs.getD j 0)) (i + 1) (j + 1) := by
 have e : xs.getD j 0 = xs[j] := by rw [List.getD_eq_getElem?_getD, List.getElem?_eq_getElem hj]; rfl
 have h1 := h.lt
 have h2 := h.len
 refine ⟨by rw [List.length_set, h2], by omega, hj, ?_, ?_⟩
 ·rw [List.take_succ_eq_append_getElem (by rw [List.length_set]; omega), List.take_set_of_le (Nat.le_refl _), h.front, List.getElem_set_self, List.take_succ_eq_append_getElem hj, List.filter_append, List.filter_cons_of_pos (by rw [← e]; exact hq), e]
  simp
 ·rw [List.drop_set_of_lt (by omega), ← List.drop_drop (i := 1) (j := j), h.back, List.drop_drop]
theorem KeptAt.start {p : Int → Bool} {xs : List Int} {n : Nat} (hn : n < xs.length) (hp : p (xs.getD n 0) = true) (hf : ∀ x ∈ xs.take n, p x = false) : KeptAt (fun x => !p x) xs xs n (n + 1) := by
 have e : xs.getD n 0 = xs[n] := by rw [List.getD_eq_getElem?_getD, List.getElem?_eq_getElem hn]; rfl
 refine ⟨rfl, by omega, hn, ?_, rfl⟩
 rw [List.take_succ_eq_append_getElem hn, List.filter_append, List.filter_cons_of_neg (by rw [← e, hp]; decide), List.filter_eq_self.2 (fun x hx => by simp [hf x hx])]
 simp
theorem KeptAt.done {q : Int → Bool} {xs ys : List Int} {i : Nat} (h : KeptAt q xs ys i xs.length) : ys.take i = xs.filter q := by
 have := h.front
 rwa [List.take_length] at this
set_option maxHeartbeats 4000000 in
set_option maxRecDepth 100000 in
theorem deleteInts.calls (g cap n : Nat) (xs : List Int) (f : Nat) (lb : Array Value) (p : Int → Bool) (w0 w : World) (eg : ∀ args w, (callFunc f args).run Tryz.prog w = .ok (.enter f args) w)
  (hp : ∀ (W : World) (x : Int), Calls Tryz.prog f (#[.int .i64 x] ++ lb) W fun e w' => e = .returned (.bool (p x)) ∧ Below W.heap.size W w')
  (hO : Kd.R (Kd.int .i64) 2 w w0.heap.size (fun _ => True) (.slice (some ⟨g, 0, none⟩) n cap) xs) (hB : Below w0.heap.size w0 w) :
  Calls Tryz.prog 57 #[.slice (some ⟨g, 0, none⟩) n cap, .func (.func f) #[] lb] w fun e w' => ∃ m, e = .returned (.slice (some ⟨g, 0, none⟩) m cap) ∧ Kd.R (Kd.int .i64) 2 w' w0.heap.size (fun _ => True) (.slice (some ⟨g, 0, none⟩) m cap) (xs.filter fun x => !p x) ∧ Below w0.heap.size w0 w' ∧ w.grownBy w' (some g) := by
 obtain ⟨rfl, hcap, hC⟩ := Kd.R_reads' hO
 have hm := Kd.C_max hC
 have HP := Aside0.mk hp
 have hI := indexInt64.calls (some ⟨g, 0, none⟩) cap xs f lb p w eg hC (fun W x cs hW hcs => by
  have e : cs = [.int .i64 x] := hcs
  subst e
  exact (hp W x).mono (fun e w' h => ⟨h.1, below_step hW h.2⟩))
 have HG := Aside0.mk (Kd.R_base hO g rfl)
 rcases idx_split p xs 0 with ⟨e, hall⟩ | ⟨i0, hi0, e, ht, hall⟩
 ·rw [e] at hI
  have HF := Aside0.mk (show (xs.filter fun x => !p x) = xs from List.filter_eq_self.2 (fun x hx => by simp [hall x hx]))
  have HO := Aside0.mk hO
  have HB := Aside0.mk hB
  clear hO hB hC hp hall e
  go_enter Tryz.func57, Tryz.ntmps57
  go_wp2_with fail
  (with_reducible refine hI.mono ?_)
  clear hI
  rintro e w1 ⟨rfl, hb⟩
  have HO1 := Aside0.mk (Kd.R_below HO.out hb)
  have HB1 := Aside0.mk (below_step HB.out hb)
  have HK := Aside0.mk (grown_of_below hb (some g))
  clear hb
  go_wp2_with fail
  go_ret
  exact ⟨_, rfl, by rw [HF.out]; exact HO1.out, HB1.out, HK.out⟩
 ·rw [e, Int.zero_add] at hI
  have HO := Aside0.mk hO
  have HB := Aside0.mk hB
  have HS := Aside0.mk (KeptAt.start hi0 ht hall)
  clear hO hB hC hp hall e ht
  go_enter Tryz.func57, Tryz.ntmps57
  have hne : ((i0 : Int) == -1) = false := beq_eq_false_iff_ne.2 (by omega)
  go_wp2_with fail
  (with_reducible refine hI.mono ?_)
  clear hI
  rintro e w1 ⟨rfl, hb⟩
  have HO1 := Aside0.mk (Kd.R_below HO.out hb)
  have HB1 := Aside0.mk (below_step HB.out hb)
  have HK := Aside0.mk (grown_of_below hb (some g))
  clear hb HO HB
  go_wp2_with fail
  go_loopg [5, 6, 7] xs.length (fun gg s5 s6 _ wr => ∃ (i j : Nat) (ys : List Int), s5 = .int .i64 (i : Int) ∧ s6 = .int .i64 (j : Int) ∧ j ≤ xs.length ∧ xs.length - j ≤ gg ∧ Aside0 (KeptAt (fun x => !p x) xs ys i j) ∧ Aside0 (Kd.R (Kd.int .i64) 2 wr w0.heap.size (fun _ => True) (.slice (some ⟨g, 0, none⟩) xs.length cap) ys) ∧ Aside0 (Below w0.heap.size w0 wr) ∧ Aside0 (w.grownBy wr (some g)))
  case atStart => exact ⟨i0, i0 + 1, xs, rfl, by rw [Int.natCast_add]; go_num, by omega, by omega, HS, HO1, HB1, HK⟩
  case round =>
   clear HS HO1 HB1 HK hne
   obtain ⟨i, j, ys, rfl, rfl, hjn, hgg, HS, HO, HB, HK⟩ := hrel
   have hij := HS.out.lt
   have c1 := eq_true (show (0 : Int) ≤ (j : Int) by omega)
   by_cases hlt : j < xs.length
   ·have c2 := eq_true (show (j : Int) < (xs.length : Int) by omega)
    have c3 := eq_true (show (0 : Int) ≤ (i : Int) by omega)
    have c4 := eq_true (show (i : Int) < (xs.length : Int) by omega)
    have hcj : wr.cell? ⟨g, j, none⟩ = some (.int .i64 (rd ys (j : Int))) := (Kd.R_celln (0 : Int) HO.out (j : Int) (by omega) (by omega)).1
    rw [HS.out.here hlt] at hcj
    have hcall := HP.out wr (xs.getD j 0)
    have HS1 := Aside0.mk (fun h => HS.out.skip hlt h)
    have HS2 := Aside0.mk (fun h => HS.out.keep hlt h)
    generalize xs.getD j 0 = u at hcj hcall HS1 HS2
    cases hq : p u with
    | true =>
     rw [hq] at hcall
     have HQ := Aside0.mk hq
     clear hq c3 c4
     go_wp2_with fail
     (with_reducible refine hcall.mono ?_)
     clear hcall
     rintro e w2 ⟨rfl, hb⟩
     have HO2 := Aside0.mk (Kd.R_below HO.out hb)
     have HB2 := Aside0.mk (below_step HB.out hb)
     have HK2 := Aside0.mk (HK.out.trans (grown_of_below hb (some g)))
     clear hb hcj
     go_wp2_with fail
     go_roundg (gk - 1)
     case measure => omega
     case rel => exact ⟨i, j + 1, ys, rfl, by rw [Int.natCast_add]; go_num, by omega, by omega, ⟨HS1.out (by simp [HQ.out])⟩, HO2, HB2, HK2⟩
    | false =>
     rw [hq] at hcall
     have HQ := Aside0.mk hq
     clear hq
     go_wp2_with fail
     (with_reducible refine hcall.mono ?_)
     clear hcall
     rintro e w2 ⟨rfl, hb⟩
     have HO2 := Aside0.mk (Kd.R_below HO.out hb)
     have HB2 := Aside0.mk (below_step HB.out hb)
     have HK2 := Aside0.mk (HK.out.trans (grown_of_below hb (some g)))
     clear hb hcj
     obtain ⟨hci, hfi⟩ := Kd.R_celln (0 : Int) HO2.out (i : Int) (by omega) (by omega)
     rw [Int.toNat_natCast] at hci hfi
     go_wp2_with fail
     clear hci hfi
     have HO3 := Aside0.mk (Kd.R_putn HO2.out (i : Int) u)
     have HB3 := Aside0.mk (below_set (j := i) (v := .int .i64 u) HB2.out HG.out)
     have ho := Kd.own_of_R HO2.out
     rw [HS.out.len] at ho
     have HK3 := Aside0.mk (HK2.out.trans (ho.stored i (.int .i64 u)).2)
     clear ho
     rw [Int.toNat_natCast] at HO3
     go_roundg (gk - 1)
     case measure => omega
     case rel => exact ⟨i + 1, j + 1, ys.set i u, by rw [Int.natCast_add]; go_num, by rw [Int.natCast_add]; go_num, by omega, by omega, ⟨HS2.out (by simp [HQ.out])⟩, HO3, HB3, HK3⟩
   ·obtain rfl : j = xs.length := by omega
    have c2 := eq_false (show ¬ (xs.length : Int) < (xs.length : Int) by omega)
    have c3 := eq_true (show (0 : Int) ≤ (i : Int) by omega)
    have c4 := eq_true (show (i : Int) ≤ (xs.length : Int) by omega)
    have c5 := eq_true (show (i : Int) ≤ (cap : Int) by omega)
    have c6 := eq_false (show ¬ cap = i by omega)
    have hlen := HS.out.len
    have hcl : ∀ ty, (Builtin.clear_ #[29] ty #[.slice (some ⟨g, i, none⟩) (xs.length - i) (cap - i)]).run Tryz.prog wr = .ok (.tuple #[]) (wr.setCells g i (List.replicate (xs.length - i) (.int .i64 0))) := fun ty =>
     clear_ints wr 29 ty Tryz.underlying29 (fun w => by kernel_rfl) g i _ _ (by omega) (fun k hk => by
      have := (Kd.R_celln (0 : Int) HO.out ((i + k : Nat) : Int) (by omega) (by omega)).1
      rw [Int.toNat_natCast] at this
      rw [this]; rfl) (fun k hk => by
      have := (Kd.R_celln (0 : Int) HO.out ((i + k : Nat) : Int) (by omega) (by omega)).2
      rwa [Int.toNat_natCast] at this)
    have HL := Aside0.mk (R_laid i (List.replicate (xs.length - i) 0) HO.out hlen (by simp; omega))
    have ez : encs (Value.int .i64) (List.replicate (xs.length - i) 0) = List.replicate (xs.length - i) (.int .i64 0) := by simp [encs]
    rw [ez] at HL
    have HB4 := Aside0.mk (HB.out.grown HL.out.2 (below_size HB.out) (fun k hk => by injection hk with hk; subst hk; exact HG.out))
    have HK4 := Aside0.mk (HK.out.trans HL.out.2)
    have HT := Aside0.mk (Kd.R_take HL.out.1 (m := i) (by simp; omega))
    have HF := Aside0.mk HS.out.done
    have HI := Aside0.mk (show i ≤ ys.length by omega)
    clear ez HL hlen hij
    go_wp2_with fail
    go_ret
    refine ⟨i, rfl, ?_, HB4.out, HK4.out⟩
    have h := HT.out
    rwa [List.append_assoc, List.take_append, List.length_take, Nat.min_eq_left HI.out, Nat.sub_self, List.take_zero, List.append_nil, List.take_take, Nat.min_self, HF.out] at h
/-- those of the devices that are out are found anew, place by place -/
def insteadL (has : Int → Option Bool) (g : List Int → Nat → Option Int) : Nat → Nat → List Int → Option (List Int)
 | 0, _, L => some L
 | d + 1, a, L => (has (rd L a)).bind fun t => if t = true then (g L a).bind fun x => insteadL has g d (a + 1) (L.set a x) else insteadL has g d (a + 1) L
theorem instead_here (has : Int → Option Bool) (g : List Int → Nat → Option Int) (N a : Nat) (L : List Int) (h : a < N) : insteadL has g (N - a) a L = (has (rd L a)).bind fun t => if t = true then (g L a).bind fun x => insteadL has g (N - (a + 1)) (a + 1) (L.set a x) else insteadL has g (N - (a + 1)) (a + 1) L := by
 rw [show N - a = (N - (a + 1)) + 1 by omega]
 rfl
def frontL (M ys : List Int) : List Int := ys.take (min ys.length M.length) ++ M.drop (min ys.length M.length)
def impl_Tree_place.f (k : Nat) (l0_0 : List (S72)) (l0_1 : List (S68)) (a1_0 a1_1 a1_2 : Int) (a1_3 : Bool) (a2 a3 : Int) (l4 : List Int) : Option (List Int) :=
 if 0 ≤ a3 ∧ a3 ≤ 7 then (impl_Tree_placeWhole.f k l0_0 l0_1 a1_0 a1_1 a1_2 a1_3 a2 a3).bind fun P => if P.length = a3.toNat then (insteadL (fun x => slices_Contains_int64_int64.f k l4 x) (fun L a => impl_Tree_search.f k l0_0 l0_1 a1_0 a1_1 a1_2 a1_3 a2 L (a : Int) l4) a3.toNat 0 P).bind fun L => if a1_3 = true then some L else (impl_emptyPlaces.f a3).bind fun M => some (frontL M (L.filter fun x => !decide (x < 0))) else none else none
set_option maxHeartbeats 4000000 in
set_option maxRecDepth 100000 in
/-- the same for whatever slice one owns -/
theorem deleteAny.calls (A : Option Addr) (n c : Nat) (xs : List Int) (f : Nat) (lb : Array Value) (p : Int → Bool) (w0 w : World) (eg : ∀ args w, (callFunc f args).run Tryz.prog w = .ok (.enter f args) w)
  (hp : ∀ (W : World) (x : Int), Calls Tryz.prog f (#[.int .i64 x] ++ lb) W fun e w' => e = .returned (.bool (p x)) ∧ Below W.heap.size W w')
  (hO : Kd.R (Kd.int .i64) 2 w w0.heap.size (fun _ => True) (.slice A n c) xs) (hB : Below w0.heap.size w0 w) :
  Calls Tryz.prog 57 #[.slice A n c, .func (.func f) #[] lb] w fun e w' => ∃ m, e = .returned (.slice A m c) ∧ Kd.R (Kd.int .i64) 2 w' w0.heap.size (fun _ => True) (.slice A m c) (xs.filter fun x => !p x) ∧ Below w0.heap.size w0 w' ∧ ∀ k, k < w.heap.size → some k ≠ (Value.slice A n c).ownBlock → w'.heap[k]? = w.heap[k]? := by
 rcases (Kd.own_of_R hO).2 with ⟨ev, hz⟩ | ⟨g, cap, cur, ev, -⟩
 ·injection ev with e1 e2 e3
  subst e1 e2 e3
  have hx : xs = [] := List.eq_nil_of_length_eq_zero (Kd.R_reads' hO).1.symm
  subst hx
  have hI := indexInt64.calls none 0 [] f lb p w eg (Kd.C_nil _ _) (fun W x cs hW hcs => by
   have e : cs = [.int .i64 x] := hcs
   subst e
   exact (hp W x).mono (fun e w' h => ⟨h.1, below_step hW h.2⟩))
  rw [show ([] : List Int).length = 0 from rfl] at hI
  have HB := Aside0.mk hB
  clear hO hB hp hz
  go_enter Tryz.func57, Tryz.ntmps57
  go_wp2_with fail
  (with_reducible refine hI.mono ?_)
  clear hI
  rintro e w1 ⟨rfl, hb⟩
  have HB1 := Aside0.mk (below_step HB.out hb)
  have HK := Aside0.mk (fun k (hk : k < w.heap.size) => hb.block k hk)
  clear hb
  have e0 : idxFrom p ([] : List Int) 0 = -1 := rfl
  rw [e0]
  go_wp2_with fail
  go_ret
  exact ⟨0, rfl, Kd.R_nil _ _ _ _ _, HB1.out, fun k hk _ => HK.out k hk⟩
 ·injection ev with e1 e2 e3
  subst e1 e2 e3
  exact (deleteInts.calls g c _ xs f lb p w0 w eg hp hO hB).mono fun e w' ⟨m, h1, h2, h3, h4⟩ => ⟨m, h1, h2, h3, fun k hk hne => h4.block k hk hne⟩
theorem placeClosure.calls (W : World) (x : Int) : Calls Tryz.prog 58 (#[.int .i64 x] ++ #[]) W fun e w' => e = .returned (.bool (decide (x < 0))) ∧ Below W.heap.size W w' := by
 show Calls Tryz.prog 58 #[.int .i64 x] W _
 go_enter Tryz.func58, Tryz.ntmps58
 go_wp2_with fail
 go_ret
 exact ⟨rfl, Below.refl _ _⟩
set_option maxHeartbeats 8000000 in
set_option maxRecDepth 100000 in
theorem impl_Tree_place.calls (k : Nat) (A0_0 : Option Addr) (c0_0 : Nat) (l0_0 : List (S72)) (A0_1 : Option Addr) (c0_1 : Nat) (l0_1 : List (S68)) (a1_0 : Int) (a1_1 : Int) (a1_2 : Int) (a1_3 : Bool) (a2 : Int) (a3 : Int) (A4 : Option Addr) (c4 : Nat) (l4 : List Int) (r : List Int) (w : World) (hr0_0 : Kd.C k72 w A0_0 l0_0.length l0_0) (hc0_0 : l0_0.length ≤ c0_0) (hr0_1 : Kd.C k68 w A0_1 l0_1.length l0_1) (hc0_1 : l0_1.length ≤ c0_1) (hr4 : Kd.C (Kd.int .i64) w A4 l4.length l4) (hc4 : l4.length ≤ c4) (h : impl_Tree_place.f k l0_0 l0_1 a1_0 a1_1 a1_2 a1_3 a2 a3 l4 = some r) :
  Calls Tryz.prog 36 #[.agg #[.slice A0_0 l0_0.length c0_0, .slice A0_1 l0_1.length c0_1], .agg #[.int .i64 a1_0, .int .i64 a1_1, .int .i64 a1_2, .bool a1_3], .int .i64 a2, .int .i64 a3, .slice A4 l4.length c4] w fun e w' => ∃ v_ : Value, e = .returned v_ ∧ Kd.R (Kd.int .i64) 2 w' w.heap.size (fun _ => True) v_ r ∧ Below w.heap.size w w' := by
 have HA0 := Aside0.mk hr0_0
 have HA1 := Aside0.mk hr0_1
 have HC0 := Aside0.mk hc0_0
 have HC1 := Aside0.mk hc0_1
 have HL := Aside0.mk hr4
 have HD := Aside0.mk hc4
 clear hr0_0 hr0_1 hc0_0 hc0_1 hr4 hc4
 unfold impl_Tree_place.f at h
 by_cases hn : 0 ≤ a3 ∧ a3 ≤ 7
 case neg => rw [if_neg hn] at h; cases h
 rw [if_pos hn] at h
 obtain ⟨P, E1, h1⟩ := Option.bind_eq_some_iff.1 h
 clear h
 by_cases hl : P.length = a3.toNat
 case neg => rw [if_neg hl] at h1; cases h1
 rw [if_pos hl] at h1
 obtain ⟨L, E2, h⟩ := Option.bind_eq_some_iff.1 h1
 clear h1
 replace E1 := Aside0.mk E1
 obtain ⟨N, rfl⟩ := Int.eq_ofNat_of_zero_le hn.1
 rw [Int.toNat_natCast] at E2 hl
 replace E2 := Aside0.mk (show insteadL (fun x => slices_Contains_int64_int64.f k l4 x) (fun L a => impl_Tree_search.f k l0_0 l0_1 a1_0 a1_1 a1_2 a1_3 a2 L (a : Int) l4) (N - 0) 0 P = some L from E2)
 have H := Aside0.mk h
 clear h
 have h7 : N ≤ 7 := by omega
 clear hn
 go_enter Tryz.func36, Tryz.ntmps36
 go_wp2_with fail
 have BA := Aside0.mk (blk_alloc (blk_new w (.cells #[.slice A0_0 l0_0.length c0_0, .slice A0_1 l0_1.length c0_1] 35)) (.cells #[.int .i64 a1_0, .int .i64 a1_1, .int .i64 a1_2, .bool a1_3] 37))
 have BR := Aside0.mk (blk_new (w.alloc (.cells #[.slice A0_0 l0_0.length c0_0, .slice A0_1 l0_1.length c0_1] 35)) (.cells #[.int .i64 a1_0, .int .i64 a1_1, .int .i64 a1_2, .bool a1_3] 37))
 have HB := Aside0.mk (below_alloc (below_alloc (Below.refl w.heap.size w) (.cells #[.slice A0_0 l0_0.length c0_0, .slice A0_1 l0_1.length c0_1] 35)) (.cells #[.int .i64 a1_0, .int .i64 a1_1, .int .i64 a1_2, .bool a1_3] 37))
 have hs : (w.alloc (.cells #[.slice A0_0 l0_0.length c0_0, .slice A0_1 l0_1.length c0_1] 35)).heap.size = w.heap.size + 1 := by unfold World.alloc; exact Array.size_push _
 rw [hs] at BR
 try rw [hs]
 clear hs
 generalize ((w.alloc (.cells #[.slice A0_0 l0_0.length c0_0, .slice A0_1 l0_1.length c0_1] 35)).alloc (.cells #[.int .i64 a1_0, .int .i64 a1_1, .int .i64 a1_2, .bool a1_3] 37)) = w1 at BA BR HB ⊢
 obtain ⟨gt, hgt⟩ : ∃ g, g = w.heap.size := ⟨_, rfl⟩
 obtain ⟨gr, hgr⟩ : ∃ g, g = w.heap.size + 1 := ⟨_, rfl⟩
 rw [← hgr] at BR ⊢
 rw [← hgt] at BA ⊢
 clear hgr hgt
 have hBA0 := (blk_cell BA.out 0).trans rfl
 have hBA1 := (blk_cell BA.out 1).trans rfl
 have hBR0 := (blk_cell BR.out 0).trans rfl
 have hBR1 := (blk_cell BR.out 1).trans rfl
 have hBR2 := (blk_cell BR.out 2).trans rfl
 have hBR3 := (blk_cell BR.out 3).trans rfl
 have HZ := Aside0.mk (below_size HB.out)
 go_wp2_with fail
 (with_reducible refine (impl_Tree_placeWhole.calls k A0_0 c0_0 l0_0 A0_1 c0_1 l0_1 a1_0 a1_1 a1_2 a1_3 a2 (N : Int) P _ (Kd.C_below HA0.out HB.out) HC0.out (Kd.C_below HA1.out HB.out) HC1.out E1.out).mono ?_)
 rintro e w2 ⟨v, rfl, hv, hb⟩
 clear hBA0 hBA1 hBR0 hBR1 hBR2 hBR3
 replace BA := Aside0.mk (blk_below BA.out hb)
 replace BR := Aside0.mk (blk_below BR.out hb)
 replace HB := Aside0.mk (below_step HB.out hb)
 clear hb
 have HO := Aside0.mk (Kd.R_lower hv HZ.out)
 obtain ⟨A, c, rfl⟩ := Kd.R_slice hv
 clear hv E1 HZ
 rw [hl] at HO ⊢
 have hBA0 := (blk_cell BA.out 0).trans rfl
 have hBA1 := (blk_cell BA.out 1).trans rfl
 have hBR0 := (blk_cell BR.out 0).trans rfl
 have hBR1 := (blk_cell BR.out 1).trans rfl
 have hBR2 := (blk_cell BR.out 2).trans rfl
 have hBR3 := (blk_cell BR.out 3).trans rfl
 go_wp2_with fail
 clear hBA0 hBA1 hBR0 hBR1 hBR2 hBR3
 go_loopg [12, 20] N (fun gg s12 s20 wr => ∃ (a : Nat) (ys : List Int), s20 = .int .i64 (a : Int) ∧ a ≤ N ∧ N - a ≤ gg ∧ ys.length = N ∧ Aside0 (insteadL (fun x => slices_Contains_int64_int64.f k l4 x) (fun L a => impl_Tree_search.f k l0_0 l0_1 a1_0 a1_1 a1_2 a1_3 a2 L (a : Int) l4) (N - a) a ys = some L) ∧ Aside0 (Kd.R (Kd.int .i64) 2 wr w.heap.size (fun _ => True) (.slice A N c) ys) ∧ Aside0 (wr.heap[gt]? = some (.cells #[.slice A0_0 l0_0.length c0_0, .slice A0_1 l0_1.length c0_1] 35 (0, 0))) ∧ Aside0 (wr.heap[gr]? = some (.cells #[.int .i64 a1_0, .int .i64 a1_1, .int .i64 a1_2, .bool a1_3] 37 (0, 0))) ∧ Aside0 (Below w.heap.size w wr))
 case atStart => exact ⟨0, P, rfl, by omega, by omega, hl, E2, HO, BA, BR, HB⟩
 case round =>
  clear E2 HO BA BR HB hl
  obtain ⟨a, ys, rfl, haN, hgg, hl, E2, HO, BA, BR, HB⟩ := hrel
  have hBA0 := (blk_cell BA.out 0).trans rfl
  have hBA1 := (blk_cell BA.out 1).trans rfl
  have hBR0 := (blk_cell BR.out 0).trans rfl
  have hBR1 := (blk_cell BR.out 1).trans rfl
  have hBR2 := (blk_cell BR.out 2).trans rfl
  have hBR3 := (blk_cell BR.out 3).trans rfl
  by_cases ha : a < N
  case pos =>
   obtain ⟨gp, cap, ev, hgb, -⟩ := Kd.R_form HO.out (by omega)
   have HGB := Aside0.mk hgb
   clear hgb
   injection ev with e1 e2 e3
   subst e1
   have HE := Aside0.mk ((instead_here _ _ N a ys ha).symm.trans E2.out)
   clear E2 e2 e3
   obtain ⟨t, F1, h⟩ := Option.bind_eq_some_iff.1 HE.out
   clear HE
   replace F1 := Aside0.mk F1
   have HE := Aside0.mk h
   clear h
   have c1 := decide_eq_true (show (a : Int) < (N : Int) by omega)
   have c2 := eq_true (show (0 : Int) ≤ (a : Int) by omega)
   have c3 := eq_true (show (a : Int) < (N : Int) by omega)
   have hca : wr.cell? ⟨gp, a, none⟩ = some (.int .i64 (rd ys (a : Int))) := (Kd.R_celln (0 : Int) HO.out (a : Int) (by omega) (by omega)).1
   generalize rd ys (a : Int) = x at hca F1
   go_wp2_with fail
   clear hca
   (with_reducible refine (slices_Contains_int64_int64.calls k A4 c4 l4 x t _ (Kd.C_below HL.out HB.out) HD.out F1.out).mono ?_)
   rintro e w3 ⟨rfl, hd⟩
   have hb := hd.below
   clear hd
   clear hBA0 hBA1 hBR0 hBR1 hBR2 hBR3
   replace BA := Aside0.mk (blk_below BA.out hb)
   replace BR := Aside0.mk (blk_below BR.out hb)
   replace HB := Aside0.mk (below_step HB.out hb)
   replace HO := Aside0.mk (Kd.R_below HO.out hb)
   clear hb
   have hBA0 := (blk_cell BA.out 0).trans rfl
   have hBA1 := (blk_cell BA.out 1).trans rfl
   have hBR0 := (blk_cell BR.out 0).trans rfl
   have hBR1 := (blk_cell BR.out 1).trans rfl
   have hBR2 := (blk_cell BR.out 2).trans rfl
   have hBR3 := (blk_cell BR.out 3).trans rfl
   cases t with
   | false =>
    have h := HE.out
    rw [if_neg (by decide)] at h
    clear HE
    have HE := Aside0.mk h
    clear h
    go_wp2_with fail
    go_roundg (gk - 1)
    case measure => omega
    case rel => exact ⟨a + 1, ys, by rw [Int.natCast_add]; first | rfl | go_num, by omega, by omega, hl, HE, HO, BA, BR, HB⟩
   | true =>
    have h := HE.out
    rw [if_pos rfl] at h
    clear HE
    obtain ⟨y, F2, h'⟩ := Option.bind_eq_some_iff.1 h
    clear h
    replace F2 := Aside0.mk F2
    have HE := Aside0.mk h'
    clear h'
    obtain ⟨-, hcy, hCy⟩ := Kd.R_reads' HO.out
    have HCY := Aside0.mk hCy
    have HLY := Aside0.mk hcy
    clear hcy hCy
    go_wp2_with fail
    have HCZ := Aside0.mk (show Kd.C (Kd.int .i64) w3 (some ⟨gp, 0, none⟩) ys.length ys from HCY.out)
    rw [← hl]
    (with_reducible refine (impl_Tree_search.calls k A0_0 c0_0 l0_0 A0_1 c0_1 l0_1 a1_0 a1_1 a1_2 a1_3 a2 (some ⟨gp, 0, none⟩) c ys (a : Int) A4 c4 l4 y _ (Kd.C_below HA0.out HB.out) HC0.out (Kd.C_below HA1.out HB.out) HC1.out HCZ.out (by rw [hl]; exact HLY.out) (Kd.C_below HL.out HB.out) HD.out F2.out).mono ?_)
    rintro e w4 ⟨rfl, hb⟩
    clear hBA0 hBA1 hBR0 hBR1 hBR2 hBR3
    replace BA := Aside0.mk (blk_below BA.out hb)
    replace BR := Aside0.mk (blk_below BR.out hb)
    replace HB := Aside0.mk (below_step HB.out hb)
    replace HO := Aside0.mk (Kd.R_below HO.out hb)
    clear hb
    clear HCY HLY HCZ
    have hBA0 := (blk_cell BA.out 0).trans rfl
    have hBA1 := (blk_cell BA.out 1).trans rfl
    have hBR0 := (blk_cell BR.out 0).trans rfl
    have hBR1 := (blk_cell BR.out 1).trans rfl
    have hBR2 := (blk_cell BR.out 2).trans rfl
    have hBR3 := (blk_cell BR.out 3).trans rfl
    rw [hl]
    obtain ⟨hci, hfi⟩ := Kd.R_celln (0 : Int) HO.out (a : Int) (by omega) (by omega)
    rw [Int.toNat_natCast] at hci hfi
    go_wp2_with fail
    clear hci hfi
    have HO3 := Aside0.mk (Kd.R_putn HO.out (a : Int) y)
    rw [Int.toNat_natCast] at HO3
    have HB3 := Aside0.mk (below_set (j := a) (v := .int .i64 y) HB.out HGB.out)
    have BA3 := Aside0.mk (blk_far BA.out (p := ⟨gp, a, none⟩) (fun e => Kd.R_ne HO.out BA.out (by decide) (by rw [e]; rfl)) (.int .i64 y))
    have BR3 := Aside0.mk (blk_far BR.out (p := ⟨gp, a, none⟩) (fun e => Kd.R_ne HO.out BR.out (by decide) (by rw [e]; rfl)) (.int .i64 y))
    go_roundg (gk - 1)
    case measure => omega
    case rel => exact ⟨a + 1, ys.set a y, by rw [Int.natCast_add]; first | rfl | go_num, by omega, by omega, by rw [List.length_set]; exact hl, HE, HO3, BA3, BR3, HB3⟩
  obtain rfl : a = N := by omega
  have HE := Aside0.mk (show ys = L from by have := E2.out; rw [Nat.sub_self] at this; exact Option.some.inj this)
  clear E2 ha
  have c1 := decide_eq_false (show ¬ (a : Int) < (a : Int) by omega)
  cases a1_3 with
  | true =>
   have HF := Aside0.mk (show r = L from by have := H.out; rw [if_pos rfl] at this; exact (Option.some.inj this).symm)
   go_wp2_with fail
   go_ret
   exact ⟨_, rfl, by rw [HF.out, ← HE.out]; exact HO.out, HB.out⟩
  | false =>
  have h := H.out
  rw [if_neg (by decide)] at h
  clear H
  obtain ⟨M, F3, h'⟩ := Option.bind_eq_some_iff.1 h
  clear h
  replace F3 := Aside0.mk F3
  have HF := Aside0.mk (Option.some.inj h')
  clear h'
  go_wp2_with fail
  clear c1
  have HZ := Aside0.mk (below_size HB.out)
  clear hBA0 hBA1 hBR0 hBR1 hBR2 hBR3
  clear BA BR
  have hlt : ∀ j, (Value.slice A a c).ownBlock = some j → j < wr.heap.size := Kd.R_lt HO.out
  (with_reducible refine (impl_emptyPlaces.calls (a : Int) M _ F3.out).mono ?_)
  rintro e w5 ⟨v5, rfl, hv, hb⟩
  have HM := Aside0.mk (Kd.R_new' hv hlt)
  replace HO := Aside0.mk (Kd.R_below HO.out hb)
  replace HB := Aside0.mk (below_step HB.out hb)
  clear hb hlt hv
  replace HM := Aside0.mk (Kd.R_lower HM.out HZ.out)
  go_wp2_with fail
  (with_reducible refine (deleteAny.calls A a c ys 58 #[] (fun x => decide (x < 0)) w w5 @Tryz.call58 (fun W x => placeClosure.calls W x) HO.out HB.out).mono ?_)
  rintro e w6 ⟨m, rfl, hR, hB6, hk⟩
  have HR := Aside0.mk hR
  have HM6 := Aside0.mk (Kd.R_mono (Kd.R_step HM.out (fun j ho hlt => hk j hlt ho.2)) (ok' := fun _ => True) (fun _ _ => trivial))
  replace HB := Aside0.mk hB6
  clear hR hB6 hk HM HO
  obtain ⟨em, hmc, -⟩ := Kd.R_reads' HR.out
  subst em
  rw [HE.out] at HR ⊢
  generalize hFL : (L.filter fun x => !decide (x < 0)) = F at HR HF hmc ⊢
  clear hFL
  obtain ⟨A5, c5, rfl⟩ := Kd.R_slice HM6.out
  by_cases z : min F.length M.length = 0
  case pos =>
   have HX := Aside0.mk (run_copy_none (P := Tryz.prog) w6 29 29 3 2 A5 A M.length c5 F.length c Tryz.underlying29 (by decide) z)
   have HQ := Aside0.mk (show frontL M F = M from by unfold frontL; rw [z]; rfl)
   clear z hmc
   go_wp2_with fail
   rw [HX.out]
   go_wp2_with fail
   go_ret
   exact ⟨_, rfl, by rw [← HF.out, HQ.out]; exact HM6.out, HB.out⟩
  obtain ⟨g5, cap5, ev, hg5, -⟩ := Kd.R_form HM6.out (by omega)
  injection ev with e1 e2 e3
  subst e1
  clear e2 e3
  obtain ⟨gp, cap, ev, -⟩ := Kd.R_form HR.out (by omega)
  injection ev with e1 e2 e3
  subst e1
  clear e2 e3
  have HX := Aside0.mk (run_laid (P := Tryz.prog) 0 F.length c5 c 29 3 (F.take (min F.length M.length)) ⟨gp, 0, none⟩ Tryz.underlying29 (by decide) HM6.out rfl (Nat.zero_le _) (by rw [List.length_take]; omega) (fun j hj => by
   rw [List.length_take] at hj
   obtain ⟨ad', e1, hc⟩ := Kd.at_int (Kd.R_reads' HR.out).2.2 (j : Int) (Int.natCast_nonneg j) (by omega)
   cases e1
   rw [Int.toNat_natCast] at hc
   rw [hc]
   unfold rd
   rw [Int.toNat_natCast, List.getD_eq_getElem?_getD, List.getD_eq_getElem?_getD, List.getElem?_take, if_pos (by omega)]))
  have HL2 := R_laid 0 (F.take (min F.length M.length)) HM6.out rfl (by rw [List.length_take]; omega)
  have HO6 := Aside0.mk HL2.1
  have HB6 := Aside0.mk (HB.out.grown HL2.2 (below_size HB.out) (fun k hk => by injection hk with hk; subst hk; exact hg5))
  have HQ := Aside0.mk (show M.take 0 ++ F.take (min F.length M.length) ++ M.drop (0 + (F.take (min F.length M.length)).length) = frontL M F from by unfold frontL; rw [List.length_take, Nat.zero_add, List.take_zero, List.nil_append]; congr 2; omega)
  clear HL2 hg5 z hmc
  rw [show M.length - 0 = M.length from rfl] at HX
  go_wp2_with fail
  rw [HX.out]
  generalize w6.setCells g5 0 (encs (Value.int .i64) (F.take (min F.length M.length))) = w7 at HO6 HB6 ⊢
  clear HX
  go_wp2_with fail
  go_ret
  exact ⟨_, rfl, by rw [← HF.out, ← HQ.out]; exact HO6.out, HB6.out⟩

end Go.Proofs.YtkadeelplnkpgaaGreat.Q
