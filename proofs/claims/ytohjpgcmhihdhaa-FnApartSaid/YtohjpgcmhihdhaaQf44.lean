/- Walks of the Go functions that the laws call: each returns what a plain Lean function says. Written by a program for these claims. -/
import Derived.Test.YtohjpgcmhihdhaaQ0
import Derived.Test.YtohjpgcmhihdhaaQf31
import Derived.Test.YtohjpgcmhihdhaaQf58
import Derived.Test.YtohjpgcmhihdhaaQf59
namespace Go.Proofs.Ytohjpgcmhihdhaa.Q
open Go.RowKit Go.Proofs.YtohjpgcmhihdhaaW.PrintWords Go.Proofs.YtohjpgcmhihdhaaW.PrintLast Go.Proofs.YtohjpgcmhihdhaaW.PrintMore
attribute [local go_sem] max2_int min2_int max_two min_two max_three min_three max_four min_four   -- for this text's walks alone
set_option linter.unusedVariables false
set_option linter.unusedSimpArgs false

/-! ### impl_Tree_search: function 44 -/
def impl_Tree_search.l0 : Nat → Int → List Int → Int → List Int → Int → List (S34) → List (S70) → Int → Int → Int → Bool → Option (Int)
  | 0, _, _, _, _, _, _, _, _, _, _, _ => none
  | k + 1, x2, x3, x4, x5, x18, x335000, x335001, x336000, x336001, x336002, x336003 => if x18 < 30 then ((impl_Tree_descend.f k x335000 x335001 x336001 x336002 x2 (wrap64 ((wrap64 (x18 * 7)) + x4))).bind fun bt336 => (if bt336.2 = true then ((impl_Tree_descend.f k x335000 x335001 bt336.1 0 x2 (wrap64 ((wrap64 (x18 * 7)) + x4))).bind fun bt338 => (if bt338.2 = true then ((slices_Contains_int64_int64.f k x5 bt338.1).bind fun t340 => (if t340 = true then (impl_Tree_search.l0 k x2 x3 x4 x5 (wrap64 (x18 + 1)) x335000 x335001 x336000 x336001 x336002 x336003) else ((impl_Tree_conflict.f k x335000 x335001 x336002 x3 x4 bt338.1).bind fun t341 => (if t341 = true then (impl_Tree_search.l0 k x2 x3 x4 x5 (wrap64 (x18 + 1)) x335000 x335001 x336000 x336001 x336002 x336003) else (some bt338.1))))) else (impl_Tree_search.l0 k x2 x3 x4 x5 (wrap64 (x18 + 1)) x335000 x335001 x336000 x336001 x336002 x336003))) else (some (-1)))) else (some (-1))
def impl_Tree_search.f (k : Nat) (l0_0 : List (S34)) (l0_1 : List (S70)) (a1_0 : Int) (a1_1 : Int) (a1_2 : Int) (a1_3 : Bool) (a2 : Int) (l3 : List Int) (a4 : Int) (l5 : List Int) : Option (Int) := impl_Tree_search.l0 k a2 l3 a4 l5 0 l0_0 l0_1 a1_0 a1_1 a1_2 a1_3
set_option maxHeartbeats 8000000 in
set_option maxRecDepth 100000 in
theorem impl_Tree_search.calls (k : Nat) (A0_0 : Option Addr) (c0_0 : Nat) (l0_0 : List (S34)) (A0_1 : Option Addr) (c0_1 : Nat) (l0_1 : List (S70)) (a1_0 : Int) (a1_1 : Int) (a1_2 : Int) (a1_3 : Bool) (a2 : Int) (A3 : Option Addr) (c3 : Nat) (l3 : List Int) (a4 : Int) (A5 : Option Addr) (c5 : Nat) (l5 : List Int) (r : Int) (w : World) (hr0_0 : Kd.C k34 w A0_0 l0_0.length l0_0) (hc0_0 : l0_0.length ≤ c0_0) (hr0_1 : Kd.C k70 w A0_1 l0_1.length l0_1) (hc0_1 : l0_1.length ≤ c0_1) (hr3 : Kd.C (Kd.int .i64) w A3 l3.length l3) (hc3 : l3.length ≤ c3) (hr5 : Kd.C (Kd.int .i64) w A5 l5.length l5) (hc5 : l5.length ≤ c5) (h : impl_Tree_search.f k l0_0 l0_1 a1_0 a1_1 a1_2 a1_3 a2 l3 a4 l5 = some r) :
  Calls Try.prog 44 #[.agg #[.slice A0_0 l0_0.length c0_0, .slice A0_1 l0_1.length c0_1], .agg #[.int .i64 a1_0, .int .i64 a1_1, .int .i64 a1_2, .bool a1_3], .int .i64 a2, .slice A3 l3.length c3, .int .i64 a4, .slice A5 l5.length c5] w fun e w' => e = .returned (.int .i64 r) ∧ Below w.heap.size w w' := by
 have hu26 := Try.underlying26
 have hu29 := Try.underlying29
 have HR0_0 := Aside0.mk hr0_0
 have HC0_0 := Aside0.mk hc0_0
 clear hr0_0 hc0_0
 have HR0_1 := Aside0.mk hr0_1
 have HC0_1 := Aside0.mk hc0_1
 clear hr0_1 hc0_1
 have HR3 := Aside0.mk hr3
 have HC3 := Aside0.mk hc3
 clear hr3 hc3
 have HR5 := Aside0.mk hr5
 have HC5 := Aside0.mk hc5
 clear hr5 hc5
 have HB := Aside0.mk (Below.refl w.heap.size w)
 have H : (impl_Tree_search.l0 k a2 l3 a4 l5 0 l0_0 l0_1 a1_0 a1_1 a1_2 a1_3) = some r := h
 clear h
 have H' := Aside0.mk H
 clear H
 go_enter Try.func44, Try.ntmps44
 go_wp2_with (first | ((with_reducible refine gate_dst (N := 6) rfl ?_); refine box_event ?hg (N := 6) ?hd (cs := #[.slice A0_0 l0_0.length c0_0, .slice A0_1 l0_1.length c0_1]) (t := 26) ?hr ?_; (case hd => rfl); (case hg => rfl); (case hr => first | (go_simp; done) | (go_simp; rfl)); intro gb334 hg w7 hbox hb; have n0_ := Aside0.mk (below_step (by repeat first | exact HB.out | apply pw_below_drewN) hb); have n1_ := Aside0.mk (hbox); clear HB; have HB := n0_; have BK334 := n1_; clear n0_ n1_; clear hb hbox hg) | ((with_reducible refine gate_dst (N := 7) rfl ?_); refine box_event ?hg (N := 7) ?hd (cs := #[.int .i64 a1_0, .int .i64 a1_1, .int .i64 a1_2, .bool a1_3]) (t := 29) ?hr ?_; (case hd => rfl); (case hg => rfl); (case hr => first | (go_simp; done) | (go_simp; rfl)); intro gb335 hg w8 hbox hb; have n0_ := Aside0.mk (blk_below (by exact BK334.out) hb); have n1_ := Aside0.mk (below_step (by repeat first | exact HB.out | apply pw_below_drewN) hb); have n2_ := Aside0.mk (hbox); clear BK334; clear HB; have BK334 := n0_; have HB := n1_; have BK335 := n2_; clear n0_ n1_ n2_; clear hb hbox hg))
 go_loopg [18] k (fun kq v18 w' => ∃ (x18_1 : Int), v18 = .int .i64 x18_1 ∧ Aside0 (impl_Tree_search.l0 kq a2 l3 a4 l5 x18_1 l0_0 l0_1 a1_0 a1_1 a1_2 a1_3 = some r) ∧ Aside0 (kq ≤ k) ∧ Aside0 (w'.heap[gb334]? = some (.cells #[(.slice A0_0 l0_0.length c0_0), (.slice A0_1 l0_1.length c0_1)] 26 (0, 0))) ∧ Aside0 (w'.heap[gb335]? = some (.cells #[.int .i64 a1_0, .int .i64 a1_1, .int .i64 a1_2, .bool a1_3] 29 (0, 0))) ∧ Aside0 (Below w.heap.size w w'))
 case atStart => exact ⟨(0), (by first | rfl | (simp; done) | (simp [*]; done)), H', ⟨Nat.le_refl _⟩, ⟨by exact BK334.out⟩, ⟨by exact BK335.out⟩, ⟨by repeat first | exact HB.out | apply pw_below_drewN⟩⟩
 case round =>
  clear H'
  try clear p2
  try clear c3
  try clear c4
  try clear c5
  obtain ⟨x18_1, rfl, HA, HK1, BK334, BK335, HB⟩ := hrel
  cases gk with
  | zero => exact absurd HA.out (by simp [impl_Tree_search.l0])
  | succ k1 =>
   have H := HA.out
   clear HA
   simp only [impl_Tree_search.l0] at H
   by_cases c9 : x18_1 < 30
   ·rw [if_pos c9] at H
    have c9b0 : decide (x18_1 < 30) = true := decide_eq_true c9
    clear c9
    replace H := Option.bind_eq_some_iff.mp H
    obtain ⟨⟨t336, t337⟩, A100, H⟩ := H
    set_option simprocs false in try dsimp only at H
    have A10 := Aside0.mk A100
    clear A100
    by_cases c11 : t337 = true
    ·subst c11
     rw [if_pos rfl] at H
     replace H := Option.bind_eq_some_iff.mp H
     obtain ⟨⟨t338, t339⟩, A120, H⟩ := H
     set_option simprocs false in try dsimp only at H
     have A12 := Aside0.mk A120
     clear A120
     by_cases c13 : t339 = true
     ·subst c13
      rw [if_pos rfl] at H
      replace H := Option.bind_eq_some_iff.mp H
      obtain ⟨t340, A140, H⟩ := H
      set_option simprocs false in try dsimp only at H
      have A14 := Aside0.mk A140
      clear A140
      by_cases c15 : t340 = true
      ·subst c15
       rw [if_pos rfl] at H
       have H' := Aside0.mk H
       clear H
       have hcz17_0 := (blk_cell BK334.out 0).trans rfl
       have hcz17_1 := (blk_cell BK334.out 1).trans rfl
       have hcz18_0 := (blk_cell BK335.out 0).trans rfl
       have hcz18_1 := (blk_cell BK335.out 1).trans rfl
       have hcz18_2 := (blk_cell BK335.out 2).trans rfl
       have hcz18_3 := (blk_cell BK335.out 3).trans rfl
       go_wp2_with (first | ((with_reducible refine gate_callee (f := 58) rfl ?_); refine goesL_ (some 33) rfl rfl Try.func58 (by kernel_rfl) rfl #[.agg #[.slice A0_0 l0_0.length c0_0, .slice A0_1 l0_1.length c0_1], .int .i64 a1_1, .int .i64 a1_2, .int .i64 a2, .int .i64 (wrap64 ((wrap64 (x18_1 * 7)) + a4))] rfl (by (try simp only [List.map_toArray, List.map_cons, List.map_nil]); first | done | rfl) ?_; (with_reducible refine (impl_Tree_descend.calls k1 _ _ l0_0 _ _ l0_1 a1_1 a1_2 a2 (wrap64 ((wrap64 (x18_1 * 7)) + a4)) t336 true _ ?side1 ?side2 ?side3 ?side4 A10.out).mono ?_); (case side1 => exact (Kd.C_below HR0_0.out HB.out)); (case side2 => exact HC0_0.out); (case side3 => exact (Kd.C_below HR0_1.out HB.out)); (case side4 => exact HC0_1.out); rintro e w19 ⟨rfl, hb⟩; refine ⟨_, rfl, ?_⟩; have n0_ := Aside0.mk (blk_below (by exact BK334.out) hb); have n1_ := Aside0.mk (blk_below (by exact BK335.out) hb); have n2_ := Aside0.mk (below_step (by repeat first | exact HB.out | apply pw_below_drewN) hb); clear BK334; clear BK335; clear HB; have BK334 := n0_; have BK335 := n1_; have HB := n2_; clear n0_ n1_ n2_; (try clear hb); (try clear hb2); (try clear hk); (try clear hi); have hcz20_0 := (blk_cell BK334.out 0).trans rfl; have hcz20_1 := (blk_cell BK334.out 1).trans rfl) | ((with_reducible refine gate_callee (f := 58) rfl ?_); refine goesL_ (some 43) rfl rfl Try.func58 (by kernel_rfl) rfl #[.agg #[.slice A0_0 l0_0.length c0_0, .slice A0_1 l0_1.length c0_1], .int .i64 t336, .int .i64 0, .int .i64 a2, .int .i64 (wrap64 ((wrap64 (x18_1 * 7)) + a4))] rfl (by (try simp only [List.map_toArray, List.map_cons, List.map_nil]); first | done | rfl) ?_; (with_reducible refine (impl_Tree_descend.calls k1 _ _ l0_0 _ _ l0_1 t336 0 a2 (wrap64 ((wrap64 (x18_1 * 7)) + a4)) t338 true _ ?side1 ?side2 ?side3 ?side4 A12.out).mono ?_); (case side1 => exact (Kd.C_below HR0_0.out HB.out)); (case side2 => exact HC0_0.out); (case side3 => exact (Kd.C_below HR0_1.out HB.out)); (case side4 => exact HC0_1.out); rintro e w21 ⟨rfl, hb⟩; refine ⟨_, rfl, ?_⟩; have n0_ := Aside0.mk (blk_below (by exact BK334.out) hb); have n1_ := Aside0.mk (blk_below (by exact BK335.out) hb); have n2_ := Aside0.mk (below_step (by repeat first | exact HB.out | apply pw_below_drewN) hb); clear BK334; clear BK335; clear HB; have BK334 := n0_; have BK335 := n1_; have HB := n2_; clear n0_ n1_ n2_; (try clear hb); (try clear hb2); (try clear hk); (try clear hi)) | (go_at_call 31; (with_reducible refine (slices_Contains_int64_int64.calls k1 _ _ l5 t338 true _ ?side1 ?side2 A14.out).mono ?_); (case side1 => exact (Kd.C_below HR5.out HB.out)); (case side2 => exact HC5.out); rintro e w' ⟨rfl, ⟨nd, rfl⟩⟩))
       go_roundg k1
       case measure => have := HK1.out; omega
       case rel => exact ⟨(wrap64 (x18_1 + 1)), (by first | rfl | (simp; done) | (simp [*]; done)), H', ⟨by have := HK1.out; omega⟩, ⟨by exact BK334.out⟩, ⟨by exact BK335.out⟩, ⟨by repeat first | exact HB.out | apply pw_below_drewN⟩⟩
      ·replace c15 := Bool.eq_false_iff.mpr c15
       subst c15
       rw [if_neg (show ¬ (false = true) by decide)] at H
       replace H := Option.bind_eq_some_iff.mp H
       obtain ⟨t341, A220, H⟩ := H
       set_option simprocs false in try dsimp only at H
       have A22 := Aside0.mk A220
       clear A220
       by_cases c23 : t341 = true
       ·subst c23
        rw [if_pos rfl] at H
        have H' := Aside0.mk H
        clear H
        have hcz25_0 := (blk_cell BK334.out 0).trans rfl
        have hcz25_1 := (blk_cell BK334.out 1).trans rfl
        have hcz26_0 := (blk_cell BK335.out 0).trans rfl
        have hcz26_1 := (blk_cell BK335.out 1).trans rfl
        have hcz26_2 := (blk_cell BK335.out 2).trans rfl
        have hcz26_3 := (blk_cell BK335.out 3).trans rfl
        go_wp2_with (first | ((with_reducible refine gate_callee (f := 58) rfl ?_); refine goesL_ (some 33) rfl rfl Try.func58 (by kernel_rfl) rfl #[.agg #[.slice A0_0 l0_0.length c0_0, .slice A0_1 l0_1.length c0_1], .int .i64 a1_1, .int .i64 a1_2, .int .i64 a2, .int .i64 (wrap64 ((wrap64 (x18_1 * 7)) + a4))] rfl (by (try simp only [List.map_toArray, List.map_cons, List.map_nil]); first | done | rfl) ?_; (with_reducible refine (impl_Tree_descend.calls k1 _ _ l0_0 _ _ l0_1 a1_1 a1_2 a2 (wrap64 ((wrap64 (x18_1 * 7)) + a4)) t336 true _ ?side1 ?side2 ?side3 ?side4 A10.out).mono ?_); (case side1 => exact (Kd.C_below HR0_0.out HB.out)); (case side2 => exact HC0_0.out); (case side3 => exact (Kd.C_below HR0_1.out HB.out)); (case side4 => exact HC0_1.out); rintro e w27 ⟨rfl, hb⟩; refine ⟨_, rfl, ?_⟩; have n0_ := Aside0.mk (blk_below (by exact BK334.out) hb); have n1_ := Aside0.mk (blk_below (by exact BK335.out) hb); have n2_ := Aside0.mk (below_step (by repeat first | exact HB.out | apply pw_below_drewN) hb); clear BK334; clear BK335; clear HB; have BK334 := n0_; have BK335 := n1_; have HB := n2_; clear n0_ n1_ n2_; (try clear hb); (try clear hb2); (try clear hk); (try clear hi); have hcz28_0 := (blk_cell BK334.out 0).trans rfl; have hcz28_1 := (blk_cell BK334.out 1).trans rfl) | ((with_reducible refine gate_callee (f := 58) rfl ?_); refine goesL_ (some 43) rfl rfl Try.func58 (by kernel_rfl) rfl #[.agg #[.slice A0_0 l0_0.length c0_0, .slice A0_1 l0_1.length c0_1], .int .i64 t336, .int .i64 0, .int .i64 a2, .int .i64 (wrap64 ((wrap64 (x18_1 * 7)) + a4))] rfl (by (try simp only [List.map_toArray, List.map_cons, List.map_nil]); first | done | rfl) ?_; (with_reducible refine (impl_Tree_descend.calls k1 _ _ l0_0 _ _ l0_1 t336 0 a2 (wrap64 ((wrap64 (x18_1 * 7)) + a4)) t338 true _ ?side1 ?side2 ?side3 ?side4 A12.out).mono ?_); (case side1 => exact (Kd.C_below HR0_0.out HB.out)); (case side2 => exact HC0_0.out); (case side3 => exact (Kd.C_below HR0_1.out HB.out)); (case side4 => exact HC0_1.out); rintro e w29 ⟨rfl, hb⟩; refine ⟨_, rfl, ?_⟩; have n0_ := Aside0.mk (blk_below (by exact BK334.out) hb); have n1_ := Aside0.mk (blk_below (by exact BK335.out) hb); have n2_ := Aside0.mk (below_step (by repeat first | exact HB.out | apply pw_below_drewN) hb); clear BK334; clear BK335; clear HB; have BK334 := n0_; have BK335 := n1_; have HB := n2_; clear n0_ n1_ n2_; (try clear hb); (try clear hb2); (try clear hk); (try clear hi)) | (go_at_call 31; (with_reducible refine (slices_Contains_int64_int64.calls k1 _ _ l5 t338 false _ ?side1 ?side2 A14.out).mono ?_); (case side1 => exact (Kd.C_below HR5.out HB.out)); (case side2 => exact HC5.out); rintro e w' ⟨rfl, ⟨nd, rfl⟩⟩; have hcz30_0 := (blk_cell BK334.out 0).trans rfl; have hcz30_1 := (blk_cell BK334.out 1).trans rfl; have hcz31_0 := (blk_cell BK335.out 0).trans rfl; have hcz31_1 := (blk_cell BK335.out 1).trans rfl; have hcz31_2 := (blk_cell BK335.out 2).trans rfl; have hcz31_3 := (blk_cell BK335.out 3).trans rfl) | (go_at_call 59; (with_reducible refine (impl_Tree_conflict.calls k1 _ _ l0_0 _ _ l0_1 a1_2 _ _ l3 a4 t338 true _ ?side1 ?side2 ?side3 ?side4 ?side5 ?side6 A22.out).mono ?_); (case side1 => exact (Kd.C_below HR0_0.out (by repeat first | exact HB.out | apply pw_below_drewN))); (case side2 => exact HC0_0.out); (case side3 => exact (Kd.C_below HR0_1.out (by repeat first | exact HB.out | apply pw_below_drewN))); (case side4 => exact HC0_1.out); (case side5 => exact (Kd.C_below HR3.out (by repeat first | exact HB.out | apply pw_below_drewN))); (case side6 => exact HC3.out); rintro e w32 ⟨rfl, hb⟩; have n0_ := Aside0.mk (blk_below (by exact BK334.out) hb); have n1_ := Aside0.mk (blk_below (by exact BK335.out) hb); have n2_ := Aside0.mk (below_step (by repeat first | exact HB.out | apply pw_below_drewN) hb); clear BK334; clear BK335; clear HB; have BK334 := n0_; have BK335 := n1_; have HB := n2_; clear n0_ n1_ n2_; (try clear hb); (try clear hb2); (try clear hk); (try clear hi)))
        go_roundg k1
        case measure => have := HK1.out; omega
        case rel => exact ⟨(wrap64 (x18_1 + 1)), (by first | rfl | (simp; done) | (simp [*]; done)), H', ⟨by have := HK1.out; omega⟩, ⟨by exact BK334.out⟩, ⟨by exact BK335.out⟩, ⟨by repeat first | exact HB.out | apply pw_below_drewN⟩⟩
       ·replace c23 := Bool.eq_false_iff.mpr c23
        subst c23
        rw [if_neg (show ¬ (false = true) by decide)] at H
        obtain rfl := Option.some.inj H
        have hcz34_0 := (blk_cell BK334.out 0).trans rfl
        have hcz34_1 := (blk_cell BK334.out 1).trans rfl
        have hcz35_0 := (blk_cell BK335.out 0).trans rfl
        have hcz35_1 := (blk_cell BK335.out 1).trans rfl
        have hcz35_2 := (blk_cell BK335.out 2).trans rfl
        have hcz35_3 := (blk_cell BK335.out 3).trans rfl
        go_wp2_with (first | ((with_reducible refine gate_callee (f := 58) rfl ?_); refine goesL_ (some 33) rfl rfl Try.func58 (by kernel_rfl) rfl #[.agg #[.slice A0_0 l0_0.length c0_0, .slice A0_1 l0_1.length c0_1], .int .i64 a1_1, .int .i64 a1_2, .int .i64 a2, .int .i64 (wrap64 ((wrap64 (x18_1 * 7)) + a4))] rfl (by (try simp only [List.map_toArray, List.map_cons, List.map_nil]); first | done | rfl) ?_; (with_reducible refine (impl_Tree_descend.calls k1 _ _ l0_0 _ _ l0_1 a1_1 a1_2 a2 (wrap64 ((wrap64 (x18_1 * 7)) + a4)) t336 true _ ?side1 ?side2 ?side3 ?side4 A10.out).mono ?_); (case side1 => exact (Kd.C_below HR0_0.out HB.out)); (case side2 => exact HC0_0.out); (case side3 => exact (Kd.C_below HR0_1.out HB.out)); (case side4 => exact HC0_1.out); rintro e w36 ⟨rfl, hb⟩; refine ⟨_, rfl, ?_⟩; have n0_ := Aside0.mk (blk_below (by exact BK334.out) hb); have n1_ := Aside0.mk (blk_below (by exact BK335.out) hb); have n2_ := Aside0.mk (below_step (by repeat first | exact HB.out | apply pw_below_drewN) hb); clear BK334; clear BK335; clear HB; have BK334 := n0_; have BK335 := n1_; have HB := n2_; clear n0_ n1_ n2_; (try clear hb); (try clear hb2); (try clear hk); (try clear hi); have hcz37_0 := (blk_cell BK334.out 0).trans rfl; have hcz37_1 := (blk_cell BK334.out 1).trans rfl) | ((with_reducible refine gate_callee (f := 58) rfl ?_); refine goesL_ (some 43) rfl rfl Try.func58 (by kernel_rfl) rfl #[.agg #[.slice A0_0 l0_0.length c0_0, .slice A0_1 l0_1.length c0_1], .int .i64 t336, .int .i64 0, .int .i64 a2, .int .i64 (wrap64 ((wrap64 (x18_1 * 7)) + a4))] rfl (by (try simp only [List.map_toArray, List.map_cons, List.map_nil]); first | done | rfl) ?_; (with_reducible refine (impl_Tree_descend.calls k1 _ _ l0_0 _ _ l0_1 t336 0 a2 (wrap64 ((wrap64 (x18_1 * 7)) + a4)) t338 true _ ?side1 ?side2 ?side3 ?side4 A12.out).mono ?_); (case side1 => exact (Kd.C_below HR0_0.out HB.out)); (case side2 => exact HC0_0.out); (case side3 => exact (Kd.C_below HR0_1.out HB.out)); (case side4 => exact HC0_1.out); rintro e w38 ⟨rfl, hb⟩; refine ⟨_, rfl, ?_⟩; have n0_ := Aside0.mk (blk_below (by exact BK334.out) hb); have n1_ := Aside0.mk (blk_below (by exact BK335.out) hb); have n2_ := Aside0.mk (below_step (by repeat first | exact HB.out | apply pw_below_drewN) hb); clear BK334; clear BK335; clear HB; have BK334 := n0_; have BK335 := n1_; have HB := n2_; clear n0_ n1_ n2_; (try clear hb); (try clear hb2); (try clear hk); (try clear hi)) | (go_at_call 31; (with_reducible refine (slices_Contains_int64_int64.calls k1 _ _ l5 t338 false _ ?side1 ?side2 A14.out).mono ?_); (case side1 => exact (Kd.C_below HR5.out HB.out)); (case side2 => exact HC5.out); rintro e w' ⟨rfl, ⟨nd, rfl⟩⟩; have hcz39_0 := (blk_cell BK334.out 0).trans rfl; have hcz39_1 := (blk_cell BK334.out 1).trans rfl; have hcz40_0 := (blk_cell BK335.out 0).trans rfl; have hcz40_1 := (blk_cell BK335.out 1).trans rfl; have hcz40_2 := (blk_cell BK335.out 2).trans rfl; have hcz40_3 := (blk_cell BK335.out 3).trans rfl) | (go_at_call 59; (with_reducible refine (impl_Tree_conflict.calls k1 _ _ l0_0 _ _ l0_1 a1_2 _ _ l3 a4 t338 false _ ?side1 ?side2 ?side3 ?side4 ?side5 ?side6 A22.out).mono ?_); (case side1 => exact (Kd.C_below HR0_0.out (by repeat first | exact HB.out | apply pw_below_drewN))); (case side2 => exact HC0_0.out); (case side3 => exact (Kd.C_below HR0_1.out (by repeat first | exact HB.out | apply pw_below_drewN))); (case side4 => exact HC0_1.out); (case side5 => exact (Kd.C_below HR3.out (by repeat first | exact HB.out | apply pw_below_drewN))); (case side6 => exact HC3.out); rintro e w41 ⟨rfl, hb⟩; have n0_ := Aside0.mk (blk_below (by exact BK334.out) hb); have n1_ := Aside0.mk (blk_below (by exact BK335.out) hb); have n2_ := Aside0.mk (below_step (by repeat first | exact HB.out | apply pw_below_drewN) hb); clear BK334; clear BK335; clear HB; have BK334 := n0_; have BK335 := n1_; have HB := n2_; clear n0_ n1_ n2_; (try clear hb); (try clear hb2); (try clear hk); (try clear hi)))
        go_ret
        exact ⟨by first | rfl | (simp [*, errW_none, errW_some] <;> rfl), by repeat first | exact HB.out | apply pw_below_drewN⟩
     ·replace c13 := Bool.eq_false_iff.mpr c13
      subst c13
      rw [if_neg (show ¬ (false = true) by decide)] at H
      have H' := Aside0.mk H
      clear H
      have hcz43_0 := (blk_cell BK334.out 0).trans rfl
      have hcz43_1 := (blk_cell BK334.out 1).trans rfl
      have hcz44_0 := (blk_cell BK335.out 0).trans rfl
      have hcz44_1 := (blk_cell BK335.out 1).trans rfl
      have hcz44_2 := (blk_cell BK335.out 2).trans rfl
      have hcz44_3 := (blk_cell BK335.out 3).trans rfl
      go_wp2_with (first | ((with_reducible refine gate_callee (f := 58) rfl ?_); refine goesL_ (some 33) rfl rfl Try.func58 (by kernel_rfl) rfl #[.agg #[.slice A0_0 l0_0.length c0_0, .slice A0_1 l0_1.length c0_1], .int .i64 a1_1, .int .i64 a1_2, .int .i64 a2, .int .i64 (wrap64 ((wrap64 (x18_1 * 7)) + a4))] rfl (by (try simp only [List.map_toArray, List.map_cons, List.map_nil]); first | done | rfl) ?_; (with_reducible refine (impl_Tree_descend.calls k1 _ _ l0_0 _ _ l0_1 a1_1 a1_2 a2 (wrap64 ((wrap64 (x18_1 * 7)) + a4)) t336 true _ ?side1 ?side2 ?side3 ?side4 A10.out).mono ?_); (case side1 => exact (Kd.C_below HR0_0.out HB.out)); (case side2 => exact HC0_0.out); (case side3 => exact (Kd.C_below HR0_1.out HB.out)); (case side4 => exact HC0_1.out); rintro e w45 ⟨rfl, hb⟩; refine ⟨_, rfl, ?_⟩; have n0_ := Aside0.mk (blk_below (by exact BK334.out) hb); have n1_ := Aside0.mk (blk_below (by exact BK335.out) hb); have n2_ := Aside0.mk (below_step (by repeat first | exact HB.out | apply pw_below_drewN) hb); clear BK334; clear BK335; clear HB; have BK334 := n0_; have BK335 := n1_; have HB := n2_; clear n0_ n1_ n2_; (try clear hb); (try clear hb2); (try clear hk); (try clear hi); have hcz46_0 := (blk_cell BK334.out 0).trans rfl; have hcz46_1 := (blk_cell BK334.out 1).trans rfl) | ((with_reducible refine gate_callee (f := 58) rfl ?_); refine goesL_ (some 43) rfl rfl Try.func58 (by kernel_rfl) rfl #[.agg #[.slice A0_0 l0_0.length c0_0, .slice A0_1 l0_1.length c0_1], .int .i64 t336, .int .i64 0, .int .i64 a2, .int .i64 (wrap64 ((wrap64 (x18_1 * 7)) + a4))] rfl (by (try simp only [List.map_toArray, List.map_cons, List.map_nil]); first | done | rfl) ?_; (with_reducible refine (impl_Tree_descend.calls k1 _ _ l0_0 _ _ l0_1 t336 0 a2 (wrap64 ((wrap64 (x18_1 * 7)) + a4)) t338 false _ ?side1 ?side2 ?side3 ?side4 A12.out).mono ?_); (case side1 => exact (Kd.C_below HR0_0.out HB.out)); (case side2 => exact HC0_0.out); (case side3 => exact (Kd.C_below HR0_1.out HB.out)); (case side4 => exact HC0_1.out); rintro e w47 ⟨rfl, hb⟩; refine ⟨_, rfl, ?_⟩; have n0_ := Aside0.mk (blk_below (by exact BK334.out) hb); have n1_ := Aside0.mk (blk_below (by exact BK335.out) hb); have n2_ := Aside0.mk (below_step (by repeat first | exact HB.out | apply pw_below_drewN) hb); clear BK334; clear BK335; clear HB; have BK334 := n0_; have BK335 := n1_; have HB := n2_; clear n0_ n1_ n2_; (try clear hb); (try clear hb2); (try clear hk); (try clear hi)))
      go_roundg k1
      case measure => have := HK1.out; omega
      case rel => exact ⟨(wrap64 (x18_1 + 1)), (by first | rfl | (simp; done) | (simp [*]; done)), H', ⟨by have := HK1.out; omega⟩, ⟨by exact BK334.out⟩, ⟨by exact BK335.out⟩, ⟨by repeat first | exact HB.out | apply pw_below_drewN⟩⟩
    ·replace c11 := Bool.eq_false_iff.mpr c11
     subst c11
     rw [if_neg (show ¬ (false = true) by decide)] at H
     obtain rfl := Option.some.inj H
     have hcz49_0 := (blk_cell BK334.out 0).trans rfl
     have hcz49_1 := (blk_cell BK334.out 1).trans rfl
     have hcz50_0 := (blk_cell BK335.out 0).trans rfl
     have hcz50_1 := (blk_cell BK335.out 1).trans rfl
     have hcz50_2 := (blk_cell BK335.out 2).trans rfl
     have hcz50_3 := (blk_cell BK335.out 3).trans rfl
     go_wp2_with (first | ((with_reducible refine gate_callee (f := 58) rfl ?_); refine goesL_ (some 33) rfl rfl Try.func58 (by kernel_rfl) rfl #[.agg #[.slice A0_0 l0_0.length c0_0, .slice A0_1 l0_1.length c0_1], .int .i64 a1_1, .int .i64 a1_2, .int .i64 a2, .int .i64 (wrap64 ((wrap64 (x18_1 * 7)) + a4))] rfl (by (try simp only [List.map_toArray, List.map_cons, List.map_nil]); first | done | rfl) ?_; (with_reducible refine (impl_Tree_descend.calls k1 _ _ l0_0 _ _ l0_1 a1_1 a1_2 a2 (wrap64 ((wrap64 (x18_1 * 7)) + a4)) t336 false _ ?side1 ?side2 ?side3 ?side4 A10.out).mono ?_); (case side1 => exact (Kd.C_below HR0_0.out HB.out)); (case side2 => exact HC0_0.out); (case side3 => exact (Kd.C_below HR0_1.out HB.out)); (case side4 => exact HC0_1.out); rintro e w51 ⟨rfl, hb⟩; refine ⟨_, rfl, ?_⟩; have n0_ := Aside0.mk (blk_below (by exact BK334.out) hb); have n1_ := Aside0.mk (blk_below (by exact BK335.out) hb); have n2_ := Aside0.mk (below_step (by repeat first | exact HB.out | apply pw_below_drewN) hb); clear BK334; clear BK335; clear HB; have BK334 := n0_; have BK335 := n1_; have HB := n2_; clear n0_ n1_ n2_; (try clear hb); (try clear hb2); (try clear hk); (try clear hi)))
     go_ret
     exact ⟨by first | rfl | (simp [*, errW_none, errW_some] <;> rfl), by repeat first | exact HB.out | apply pw_below_drewN⟩
   ·rw [if_neg c9] at H
    have c9b0 : decide (x18_1 < 30) = false := decide_eq_false c9
    clear c9
    obtain rfl := Option.some.inj H
    go_wp2
    go_ret
    exact ⟨by first | rfl | (simp [*, errW_none, errW_some] <;> rfl), by repeat first | exact HB.out | apply pw_below_drewN⟩

end Go.Proofs.Ytohjpgcmhihdhaa.Q
