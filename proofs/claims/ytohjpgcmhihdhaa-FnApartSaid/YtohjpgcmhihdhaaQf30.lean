/- Walks of the Go functions that the laws call: each returns what a plain Lean function says. Written by a program for these claims. -/
import Derived.Test.YtohjpgcmhihdhaaQ0
import Derived.Test.YtohjpgcmhihdhaaQf50
import Derived.Test.YtohjpgcmhihdhaaQf51
namespace Go.Proofs.Ytohjpgcmhihdhaa.Q
open Go.RowKit Go.Proofs.YtohjpgcmhihdhaaW.PrintWords Go.Proofs.YtohjpgcmhihdhaaW.PrintLast Go.Proofs.YtohjpgcmhihdhaaW.PrintMore
attribute [local go_sem] max2_int min2_int max_two min_two max_three min_three max_four min_four   -- for this text's walks alone
set_option linter.unusedVariables false
set_option linter.unusedSimpArgs false

/-! ### impl_Tree_domain: function 30 -/
def impl_Tree_domain.f (k : Nat) (l0_0 : List (S34)) (l0_1 : List (S70)) (a1 : Int) (a2 : Int) : Option (Int × Bool) := (impl_Tree_device.f l0_0 l0_1 a2).bind fun t326 => (if t326 < 0 then (some (0, false)) else (if a1 = 0 then (some (a2, true)) else ((impl_Tree_above.f k l0_0 l0_1 a2 a1).bind fun t327 => (some (t327, (t327 != 0))))))
set_option maxHeartbeats 8000000 in
set_option maxRecDepth 100000 in
theorem impl_Tree_domain.calls (k : Nat) (A0_0 : Option Addr) (c0_0 : Nat) (l0_0 : List (S34)) (A0_1 : Option Addr) (c0_1 : Nat) (l0_1 : List (S70)) (a1 : Int) (a2 : Int) (r1 : Int) (r2 : Bool) (w : World) (hr0_0 : Kd.C k34 w A0_0 l0_0.length l0_0) (hc0_0 : l0_0.length ≤ c0_0) (hr0_1 : Kd.C k70 w A0_1 l0_1.length l0_1) (hc0_1 : l0_1.length ≤ c0_1) (h : impl_Tree_domain.f k l0_0 l0_1 a1 a2 = some (r1, r2)) :
    Calls Try.prog 30 #[.agg #[.slice A0_0 l0_0.length c0_0, .slice A0_1 l0_1.length c0_1], .int .i64 a1, .int .i64 a2] w fun e w' => e = .returned (.tuple #[.int .i64 r1, .bool r2]) ∧ Below w.heap.size w w' := by
  have hu26 := Try.underlying26
  have HR0_0 := Aside0.mk hr0_0
  have HC0_0 := Aside0.mk hc0_0
  clear hr0_0 hc0_0
  have HR0_1 := Aside0.mk hr0_1
  have HC0_1 := Aside0.mk hc0_1
  clear hr0_1 hc0_1
  have HB := Aside0.mk (Below.refl w.heap.size w)
  have H : ((impl_Tree_device.f l0_0 l0_1 a2).bind fun t326 => (if t326 < 0 then (some (0, false)) else (if a1 = 0 then (some (a2, true)) else ((impl_Tree_above.f k l0_0 l0_1 a2 a1).bind fun t327 => (some (t327, (t327 != 0))))))) = some (r1, r2) := h
  clear h
  replace H := Option.bind_eq_some_iff.mp H
  obtain ⟨t326, A40, H⟩ := H
  set_option simprocs false in try dsimp only at H
  have A4 := Aside0.mk A40
  clear A40
  by_cases c5 : t326 < 0
  · rw [if_pos c5] at H
    have c5b0 : decide (t326 < 0) = true := decide_eq_true c5
    clear c5
    simp only [Option.some.injEq, Prod.mk.injEq] at H
    obtain ⟨rfl, rfl⟩ := H
    go_enter Try.func30, Try.ntmps30
    go_wp2_with (first | ((with_reducible refine gate_dst (N := 3) rfl ?_); refine box_event ?hg (N := 3) ?hd (cs := #[.slice A0_0 l0_0.length c0_0, .slice A0_1 l0_1.length c0_1]) (t := 26) ?hr ?_; (case hd => rfl); (case hg => rfl); (case hr => first | (go_simp; done) | (go_simp; rfl)); intro gb325 hg w6 hbox hb; have n0_ := Aside0.mk (below_step (by repeat first | exact HB.out | apply pw_below_drewN) hb); have n1_ := Aside0.mk (hbox); clear HB; have HB := n0_; have BK325 := n1_; clear n0_ n1_; clear hb hbox hg; have hcz7_0 := (blk_cell BK325.out 0).trans rfl; have hcz7_1 := (blk_cell BK325.out 1).trans rfl) | ((with_reducible refine gate_callee (f := 50) rfl ?_); refine goesL_ (some 11) rfl rfl Try.func50 (by kernel_rfl) rfl #[.agg #[.slice A0_0 l0_0.length c0_0, .slice A0_1 l0_1.length c0_1], .int .i64 a2] rfl (by (try simp only [List.map_toArray, List.map_cons, List.map_nil]); first | done | rfl) ?_; (with_reducible refine (impl_Tree_device.calls _ _ l0_0 _ _ l0_1 a2 t326 _ ?side1 ?side2 ?side3 ?side4 A4.out).mono ?_); (case side1 => exact (Kd.C_below HR0_0.out HB.out)); (case side2 => exact HC0_0.out); (case side3 => exact (Kd.C_below HR0_1.out HB.out)); (case side4 => exact HC0_1.out); rintro e w8 ⟨rfl, hb⟩; refine ⟨_, rfl, ?_⟩; have n0_ := Aside0.mk (blk_below (by exact BK325.out) hb); have n1_ := Aside0.mk (below_step (by repeat first | exact HB.out | apply pw_below_drewN) hb); clear BK325; clear HB; have BK325 := n0_; have HB := n1_; clear n0_ n1_; (try clear hb); (try clear hb2); (try clear hk); (try clear hi)))
    go_ret2
    exact ⟨by first | rfl | (simp [*, errW_none, errW_some] <;> rfl), by repeat first | exact HB.out | apply pw_below_drewN⟩
  · rw [if_neg c5] at H
    have c5b0 : decide (t326 < 0) = false := decide_eq_false c5
    clear c5
    by_cases c9 : a1 = 0
    · rw [if_pos c9] at H
      have c9b0 : (a1 == 0) = true := beq_iff_eq.mpr c9
      have c9b1 : (a1 != 0) = false := bne_eq_false_iff_eq.mpr c9
      clear c9
      simp only [Option.some.injEq, Prod.mk.injEq] at H
      obtain ⟨rfl, rfl⟩ := H
      go_enter Try.func30, Try.ntmps30
      go_wp2_with (first | ((with_reducible refine gate_dst (N := 3) rfl ?_); refine box_event ?hg (N := 3) ?hd (cs := #[.slice A0_0 l0_0.length c0_0, .slice A0_1 l0_1.length c0_1]) (t := 26) ?hr ?_; (case hd => rfl); (case hg => rfl); (case hr => first | (go_simp; done) | (go_simp; rfl)); intro gb325 hg w10 hbox hb; have n0_ := Aside0.mk (below_step (by repeat first | exact HB.out | apply pw_below_drewN) hb); have n1_ := Aside0.mk (hbox); clear HB; have HB := n0_; have BK325 := n1_; clear n0_ n1_; clear hb hbox hg; have hcz11_0 := (blk_cell BK325.out 0).trans rfl; have hcz11_1 := (blk_cell BK325.out 1).trans rfl) | ((with_reducible refine gate_callee (f := 50) rfl ?_); refine goesL_ (some 11) rfl rfl Try.func50 (by kernel_rfl) rfl #[.agg #[.slice A0_0 l0_0.length c0_0, .slice A0_1 l0_1.length c0_1], .int .i64 a2] rfl (by (try simp only [List.map_toArray, List.map_cons, List.map_nil]); first | done | rfl) ?_; (with_reducible refine (impl_Tree_device.calls _ _ l0_0 _ _ l0_1 a2 t326 _ ?side1 ?side2 ?side3 ?side4 A4.out).mono ?_); (case side1 => exact (Kd.C_below HR0_0.out HB.out)); (case side2 => exact HC0_0.out); (case side3 => exact (Kd.C_below HR0_1.out HB.out)); (case side4 => exact HC0_1.out); rintro e w12 ⟨rfl, hb⟩; refine ⟨_, rfl, ?_⟩; have n0_ := Aside0.mk (blk_below (by exact BK325.out) hb); have n1_ := Aside0.mk (below_step (by repeat first | exact HB.out | apply pw_below_drewN) hb); clear BK325; clear HB; have BK325 := n0_; have HB := n1_; clear n0_ n1_; (try clear hb); (try clear hb2); (try clear hk); (try clear hi)))
      go_ret2
      exact ⟨by first | rfl | (simp [*, errW_none, errW_some] <;> rfl), by repeat first | exact HB.out | apply pw_below_drewN⟩
    · rw [if_neg c9] at H
      have c9b0 : (a1 == 0) = false := beq_eq_false_iff_ne.mpr c9
      have c9b1 : (a1 != 0) = true := bne_iff_ne.mpr c9
      replace H := Option.bind_eq_some_iff.mp H
      obtain ⟨t327, A130, H⟩ := H
      set_option simprocs false in try dsimp only at H
      have A13 := Aside0.mk A130
      clear A130
      simp only [Option.some.injEq, Prod.mk.injEq] at H
      obtain ⟨rfl, rfl⟩ := H
      go_enter Try.func30, Try.ntmps30
      go_wp2_with (first | ((with_reducible refine gate_dst (N := 3) rfl ?_); refine box_event ?hg (N := 3) ?hd (cs := #[.slice A0_0 l0_0.length c0_0, .slice A0_1 l0_1.length c0_1]) (t := 26) ?hr ?_; (case hd => rfl); (case hg => rfl); (case hr => first | (go_simp; done) | (go_simp; rfl)); intro gb325 hg w14 hbox hb; have n0_ := Aside0.mk (below_step (by repeat first | exact HB.out | apply pw_below_drewN) hb); have n1_ := Aside0.mk (hbox); clear HB; have HB := n0_; have BK325 := n1_; clear n0_ n1_; clear hb hbox hg; have hcz15_0 := (blk_cell BK325.out 0).trans rfl; have hcz15_1 := (blk_cell BK325.out 1).trans rfl) | ((with_reducible refine gate_callee (f := 50) rfl ?_); refine goesL_ (some 11) rfl rfl Try.func50 (by kernel_rfl) rfl #[.agg #[.slice A0_0 l0_0.length c0_0, .slice A0_1 l0_1.length c0_1], .int .i64 a2] rfl (by (try simp only [List.map_toArray, List.map_cons, List.map_nil]); first | done | rfl) ?_; (with_reducible refine (impl_Tree_device.calls _ _ l0_0 _ _ l0_1 a2 t326 _ ?side1 ?side2 ?side3 ?side4 A4.out).mono ?_); (case side1 => exact (Kd.C_below HR0_0.out HB.out)); (case side2 => exact HC0_0.out); (case side3 => exact (Kd.C_below HR0_1.out HB.out)); (case side4 => exact HC0_1.out); rintro e w16 ⟨rfl, hb⟩; refine ⟨_, rfl, ?_⟩; have n0_ := Aside0.mk (blk_below (by exact BK325.out) hb); have n1_ := Aside0.mk (below_step (by repeat first | exact HB.out | apply pw_below_drewN) hb); clear BK325; clear HB; have BK325 := n0_; have HB := n1_; clear n0_ n1_; (try clear hb); (try clear hb2); (try clear hk); (try clear hi); have hcz17_0 := (blk_cell BK325.out 0).trans rfl; have hcz17_1 := (blk_cell BK325.out 1).trans rfl) | ((with_reducible refine gate_callee (f := 51) rfl ?_); refine goesL_ (some 19) rfl rfl Try.func51 (by kernel_rfl) rfl #[.agg #[.slice A0_0 l0_0.length c0_0, .slice A0_1 l0_1.length c0_1], .int .i64 a2, .int .i64 a1] rfl (by (try simp only [List.map_toArray, List.map_cons, List.map_nil]); first | done | rfl) ?_; (with_reducible refine (impl_Tree_above.calls k _ _ l0_0 _ _ l0_1 a2 a1 t327 _ ?side1 ?side2 ?side3 ?side4 A13.out).mono ?_); (case side1 => exact (Kd.C_below HR0_0.out HB.out)); (case side2 => exact HC0_0.out); (case side3 => exact (Kd.C_below HR0_1.out HB.out)); (case side4 => exact HC0_1.out); rintro e w18 ⟨rfl, hb⟩; refine ⟨_, rfl, ?_⟩; have n0_ := Aside0.mk (blk_below (by exact BK325.out) hb); have n1_ := Aside0.mk (below_step (by repeat first | exact HB.out | apply pw_below_drewN) hb); clear BK325; clear HB; have BK325 := n0_; have HB := n1_; clear n0_ n1_; (try clear hb); (try clear hb2); (try clear hk); (try clear hi)))
      go_ret2
      exact ⟨by first | rfl | (simp [*, errW_none, errW_some] <;> rfl), by repeat first | exact HB.out | apply pw_below_drewN⟩

end Go.Proofs.Ytohjpgcmhihdhaa.Q
