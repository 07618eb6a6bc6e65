/- Walks of the Go functions that the laws call: each returns what a plain Lean function says. Written by a program for these claims. -/
import Derived.Test.YtlocignlkigojaaQ0
import Derived.Test.YtlocignlkigojaaQf42
import Derived.Test.YtlocignlkigojaaQf61
import Derived.Test.YtlocignlkigojaaQf62
import Derived.Test.YtlocignlkigojaaQf63
namespace Go.Proofs.Ytlocignlkigojaa.Q
open Go.RowKit Go.Proofs.YtlocignlkigojaaW.PrintWords Go.Proofs.YtlocignlkigojaaW.PrintLast Go.Proofs.YtlocignlkigojaaW.PrintMore
attribute [local go_sem] max2_int min2_int max_two min_two max_three min_three max_four min_four   -- for this text's walks alone
set_option linter.unusedVariables false
set_option linter.unusedSimpArgs false

/-! ### laws_FnTickets: function 12 -/
def laws_FnTickets.l0 : Nat → List (S26) → Int → Int → Int → Int → Int → Int → Int → Option (Bool)
  | 0, _, _, _, _, _, _, _, _ => none
  | k + 1, x3, x8, x10, x11, x12, x13, x14, x15 => if x15 < (x3.length : Int) then (if 0 ≤ x15 then (laws_FnTickets.l0 k x3 x8 x10 x11 x12 x13 (wrap64 (x14 + ((rd_T26 x3 x15).f1))) (wrap64 (x15 + 1))) else (none)) else (if x13 = 0 then (if ((x11 == 0) != (decide (x14 > 0))) = true then (some false) else (if x11 = 0 then (if x12 = x10 then (some true) else (if 0 ≤ x8 then (if x8 < (x3.length : Int) then (some (x12 == ((rd_T26 x3 x8).f0))) else (none)) else (none))) else (if 0 ≤ x8 then (if x8 < (x3.length : Int) then (if x12 = ((rd_T26 x3 x8).f0) then (some true) else (some false)) else (none)) else (none)))) else (some false))
def laws_FnTickets.f (k : Nat) (l0 : List Int) : Option (Bool) := if (l0.length : Int) > 1048576 then (some true) else ((spec_A8Items.f k l0).bind fun t639 => ((spec_A8Number.f k l0).bind fun t642 => ((laws_a8At.f l0 0 9).bind fun t643 => (if (t639.length : Int) = 0 then ((impl_ChooseOne.f k t639 t642 t643).bind fun bt644 => (some (bt644.2 == 3))) else ((laws_a8At.f l0 1 (t639.length : Int)).bind fun t646 => ((some (([] : List (S26)) : List (S26))).bind fun y647 => (if y647.length + t639.length < 8796093022208 then ((some (y647 ++ t639 : List (S26))).bind fun y650 => (if 0 ≤ t646 then (if t646 < (y650.length : Int) then ((laws_a8At.f l0 2 5).bind fun t654 => ((impl_ChooseOne.f k t639 t642 t643).bind fun bt656 => ((impl_ChooseOne.f k (y650.set (t646 : Int).toNat (⟨(rd_T26 y650 t646).f0, wrap64 (((rd_T26 y650 t646).f1) + (wrap64 (1 + t654)))⟩ : S26)) t642 t643).bind fun bt658 => (laws_FnTickets.l0 k t639 t646 bt656.1 bt656.2 bt658.1 bt658.2 0 0)))) else (none)) else (none))) else (none))))))))
theorem laws_FnTickets.mono_l : ∀ k, (∀ y0 y1 y2 y3 y4 y5 y6 y7, LeO (laws_FnTickets.l0 k y0 y1 y2 y3 y4 y5 y6 y7) (laws_FnTickets.l0 (k + 1) y0 y1 y2 y3 y4 y5 y6 y7))
  | 0 => fun _ _ _ _ _ _ _ _ r h => by simp [laws_FnTickets.l0] at h
  | k + 1 => by
    have ih0 := laws_FnTickets.mono_l k
    · intro y0 y1 y2 y3 y4 y5 y6 y7
      unfold laws_FnTickets.l0
      repeat' first
      | (with_reducible exact ih0 _ _ _ _ _ _ _ _)
      | (with_reducible exact impl_ChooseOne.mono _ _ _ _)
      | (with_reducible exact spec_A8Items.mono _ _)
      | (with_reducible exact spec_A8Number.mono _ _)
      | (with_reducible exact LeO.refl _)
      | (with_reducible exact LeO.none _)
      | (with_reducible refine LeO.ite ?_ ?_)
      | (with_reducible refine LeO.bind ?_ (fun _ => ?_))
      | exact ih0 _ _ _ _ _ _ _ _
      | exact impl_ChooseOne.mono _ _ _ _
      | exact spec_A8Items.mono _ _
      | exact spec_A8Number.mono _ _
      | exact LeO.none _
      | refine LeO.ite ?_ ?_
      | refine LeO.bind ?_ (fun _ => ?_)
theorem laws_FnTickets.mono : ∀ a0 k, LeO (laws_FnTickets.f k a0) (laws_FnTickets.f (k + 1) a0) := by
  intro a0 k
  have ih0 := laws_FnTickets.mono_l k
  unfold laws_FnTickets.f
  repeat' first
      | (with_reducible exact ih0 _ _ _ _ _ _ _ _)
      | (with_reducible exact impl_ChooseOne.mono _ _ _ _)
      | (with_reducible exact spec_A8Items.mono _ _)
      | (with_reducible exact spec_A8Number.mono _ _)
      | (with_reducible exact LeO.refl _)
      | (with_reducible exact LeO.none _)
      | (with_reducible refine LeO.ite ?_ ?_)
      | (with_reducible refine LeO.bind ?_ (fun _ => ?_))
      | exact ih0 _ _ _ _ _ _ _ _
      | exact impl_ChooseOne.mono _ _ _ _
      | exact spec_A8Items.mono _ _
      | exact spec_A8Number.mono _ _
      | exact LeO.none _
      | refine LeO.ite ?_ ?_
      | refine LeO.bind ?_ (fun _ => ?_)
def laws_FnTickets.T11 : Bool × List (List Nat × List Nat) := (true, [([], []), ([], []), ([0, 1], [0, 1]), ([2], [2]), ([3], [3]), ([], []), ([5], [5]), ([6], [6]), ([4, 7], [4, 7]), ([0, 1, 0, 1, 2, 3, 4, 5, 6, 7, 8], [0, 1]), ([9, 0, 1, 2, 3, 4, 5, 6, 7, 8], [9]), ([10, 8, 6, 0, 1, 2, 3, 4, 5, 6, 7, 8], [8, 10])])
def laws_FnTickets.B11 : List Nat := [0, 0, 3, 7, 15, 0, 32, 96, 255, 511, 1023, 2047]
theorem laws_FnTickets.tab11 : rtab .any (opsOf Try.f12 11) = laws_FnTickets.T11 := by kernel_rfl
theorem laws_FnTickets.bits11 : waitsOk laws_FnTickets.T11.2 laws_FnTickets.B11 = true := by kernel_rfl
set_option maxHeartbeats 8000000 in
set_option maxRecDepth 100000 in
theorem laws_FnTickets.calls (k : Nat) (A0 : Option Addr) (c0 : Nat) (l0 : List Int) (r : Bool) (w : World) (hr0 : Kd.C (Kd.int .u8) w A0 l0.length l0) (hc0 : l0.length ≤ c0) (h : laws_FnTickets.f k l0 = some r) :
    Calls Try.prog 12 #[.slice A0 l0.length c0] w fun e w' => e = .returned (.bool r) ∧ Below w.heap.size w w' := by
  have HR0 := Aside0.mk hr0
  have HC0 := Aside0.mk hc0
  clear hr0 hc0
  have HB := Aside0.mk (Below.refl w.heap.size w)
  have H : (if (l0.length : Int) > 1048576 then (some true) else ((spec_A8Items.f k l0).bind fun t639 => ((spec_A8Number.f k l0).bind fun t642 => ((laws_a8At.f l0 0 9).bind fun t643 => (if (t639.length : Int) = 0 then ((impl_ChooseOne.f k t639 t642 t643).bind fun bt644 => (some (bt644.2 == 3))) else ((laws_a8At.f l0 1 (t639.length : Int)).bind fun t646 => ((some (([] : List (S26)) : List (S26))).bind fun y647 => (if y647.length + t639.length < 8796093022208 then ((some (y647 ++ t639 : List (S26))).bind fun y650 => (if 0 ≤ t646 then (if t646 < (y650.length : Int) then ((laws_a8At.f l0 2 5).bind fun t654 => ((impl_ChooseOne.f k t639 t642 t643).bind fun bt656 => ((impl_ChooseOne.f k (y650.set (t646 : Int).toNat (⟨(rd_T26 y650 t646).f0, wrap64 (((rd_T26 y650 t646).f1) + (wrap64 (1 + t654)))⟩ : S26)) t642 t643).bind fun bt658 => (laws_FnTickets.l0 k t639 t646 bt656.1 bt656.2 bt658.1 bt658.2 0 0)))) else (none)) else (none))) else (none))))))))) = some r := h
  clear h
  by_cases c2 : (l0.length : Int) > 1048576
  · rw [if_pos c2] at H
    have c2b0 : decide (1048576 < (l0.length : Int)) = true := decide_eq_true c2
    have c2b1 : decide (1048576 < l0.length) = true := decide_eq_true (by omega)
    clear c2
    obtain rfl := Option.some.inj H
    go_enter Try.func12, Try.ntmps12
    go_wp2
    go_ret
    exact ⟨by first | rfl | (simp [errW_none, errW_some] <;> rfl) | (simp [*, errW_none, errW_some] <;> rfl), by repeat (first | (with_reducible first | exact HB.out | apply below_alloc | apply pw_below_drewN | apply below_drew1) | exact HB.out)⟩
  · rw [if_neg c2] at H
    have c2b0 : decide (1048576 < (l0.length : Int)) = false := decide_eq_false c2
    have c2b1 : decide (1048576 < l0.length) = false := decide_eq_false (by omega)
    clear c2
    replace H := Option.bind_eq_some_iff.mp H
    obtain ⟨t639, A30, H⟩ := H
    replace H : ((spec_A8Number.f k l0).bind fun t642 => ((laws_a8At.f l0 0 9).bind fun t643 => (if (t639.length : Int) = 0 then ((impl_ChooseOne.f k t639 t642 t643).bind fun bt644 => (some (bt644.2 == 3))) else ((laws_a8At.f l0 1 (t639.length : Int)).bind fun t646 => ((some (([] : List (S26)) : List (S26))).bind fun y647 => (if y647.length + t639.length < 8796093022208 then ((some (y647 ++ t639 : List (S26))).bind fun y650 => (if 0 ≤ t646 then (if t646 < (y650.length : Int) then ((laws_a8At.f l0 2 5).bind fun t654 => ((impl_ChooseOne.f k t639 t642 t643).bind fun bt656 => ((impl_ChooseOne.f k (y650.set (t646 : Int).toNat (⟨(rd_T26 y650 t646).f0, wrap64 (((rd_T26 y650 t646).f1) + (wrap64 (1 + t654)))⟩ : S26)) t642 t643).bind fun bt658 => (laws_FnTickets.l0 k t639 t646 bt656.1 bt656.2 bt658.1 bt658.2 0 0)))) else (none)) else (none))) else (none))))))) = some r := H
    have A3 := Aside0.mk A30
    clear A30
    replace H := Option.bind_eq_some_iff.mp H
    obtain ⟨t642, A40, H⟩ := H
    replace H : ((laws_a8At.f l0 0 9).bind fun t643 => (if (t639.length : Int) = 0 then ((impl_ChooseOne.f k t639 t642 t643).bind fun bt644 => (some (bt644.2 == 3))) else ((laws_a8At.f l0 1 (t639.length : Int)).bind fun t646 => ((some (([] : List (S26)) : List (S26))).bind fun y647 => (if y647.length + t639.length < 8796093022208 then ((some (y647 ++ t639 : List (S26))).bind fun y650 => (if 0 ≤ t646 then (if t646 < (y650.length : Int) then ((laws_a8At.f l0 2 5).bind fun t654 => ((impl_ChooseOne.f k t639 t642 t643).bind fun bt656 => ((impl_ChooseOne.f k (y650.set (t646 : Int).toNat (⟨(rd_T26 y650 t646).f0, wrap64 (((rd_T26 y650 t646).f1) + (wrap64 (1 + t654)))⟩ : S26)) t642 t643).bind fun bt658 => (laws_FnTickets.l0 k t639 t646 bt656.1 bt656.2 bt658.1 bt658.2 0 0)))) else (none)) else (none))) else (none)))))) = some r := H
    have A4 := Aside0.mk A40
    clear A40
    replace H := Option.bind_eq_some_iff.mp H
    obtain ⟨t643, A50, H⟩ := H
    replace H : (if (t639.length : Int) = 0 then ((impl_ChooseOne.f k t639 t642 t643).bind fun bt644 => (some (bt644.2 == 3))) else ((laws_a8At.f l0 1 (t639.length : Int)).bind fun t646 => ((some (([] : List (S26)) : List (S26))).bind fun y647 => (if y647.length + t639.length < 8796093022208 then ((some (y647 ++ t639 : List (S26))).bind fun y650 => (if 0 ≤ t646 then (if t646 < (y650.length : Int) then ((laws_a8At.f l0 2 5).bind fun t654 => ((impl_ChooseOne.f k t639 t642 t643).bind fun bt656 => ((impl_ChooseOne.f k (y650.set (t646 : Int).toNat (⟨(rd_T26 y650 t646).f0, wrap64 (((rd_T26 y650 t646).f1) + (wrap64 (1 + t654)))⟩ : S26)) t642 t643).bind fun bt658 => (laws_FnTickets.l0 k t639 t646 bt656.1 bt656.2 bt658.1 bt658.2 0 0)))) else (none)) else (none))) else (none))))) = some r := H
    have A5 := Aside0.mk A50
    clear A50
    by_cases c6 : (t639.length : Int) = 0
    · rw [if_pos c6] at H
      have c6b0 : ((t639.length : Int) == 0) = true := beq_iff_eq.mpr c6
      have c6b1 : ((t639.length : Int) != 0) = false := bne_eq_false_iff_eq.mpr c6
      clear c6
      replace H := Option.bind_eq_some_iff.mp H
      obtain ⟨⟨t644, t645⟩, A70, H⟩ := H
      replace H : (some (t645 == 3)) = some r := H
      have A7 := Aside0.mk A70
      clear A70
      obtain rfl := Option.some.inj H
      go_enter Try.func12, Try.ntmps12
      go_wp2_with (first | ((with_reducible refine gate_callee (f := 61) rfl ?_); refine goesL_ (some 20) rfl rfl Try.func61 (by kernel_rfl) rfl #[.slice A0 l0.length c0] rfl (by (try simp only [List.map_toArray, List.map_cons, List.map_nil]); first | done | rfl | (simp only [List.length_drop, List.length_take]; rfl)) ?_; (with_reducible refine (spec_A8Items.calls k _ _ l0 t639 _ ?side1 ?side2 A3.out).mono ?_); (case side1 => repeat (first | exact HR0.out | (with_reducible refine Kd.C_alloc ?_ _) | (with_reducible refine Kd.C_drewN ?_ _) | (with_reducible refine Kd.C_drew ?_))); (case side2 => exact HC0.out); rintro e w8 ⟨v640, rfl, ho0, hb⟩; refine ⟨_, rfl, ?_⟩; have n0_ := Aside0.mk (Kd.R_lower ho0 (below_size (by repeat (first | (with_reducible first | exact HB.out | apply below_alloc | apply pw_below_drewN | apply below_drew1) | exact HB.out)))); have n1_ := Aside0.mk (below_step (by repeat (first | (with_reducible first | exact HB.out | apply below_alloc | apply pw_below_drewN | apply below_drew1) | exact HB.out)) hb); clear HB; have HO641 := n0_; have HB := n1_; clear n0_ n1_; (try clear hb); (try clear hb2); (try clear hk); (try clear hi); (try clear ho0)) | ((with_reducible refine gate_callee (f := 42) rfl ?_); refine goesL_ (some 22) rfl rfl Try.func42 (by kernel_rfl) rfl #[.slice A0 l0.length c0] rfl (by (try simp only [List.map_toArray, List.map_cons, List.map_nil]); first | done | rfl | (simp only [List.length_drop, List.length_take]; rfl)) ?_; (with_reducible refine (spec_A8Number.calls k _ _ l0 t642 _ ?side1 ?side2 A4.out).mono ?_); (case side1 => repeat (first | exact (Kd.C_below HR0.out HB.out) | (with_reducible refine Kd.C_alloc ?_ _) | (with_reducible refine Kd.C_drewN ?_ _) | (with_reducible refine Kd.C_drew ?_))); (case side2 => exact HC0.out); rintro e w9 ⟨rfl, hb⟩; refine ⟨_, rfl, ?_⟩; have n0_ := Aside0.mk (Kd.R_below (by (with_reducible repeat (first | apply Kd.R_alloc | apply Kd.R_drewN | apply Kd.R_drew)); exact HO641.out) hb); have n1_ := Aside0.mk (below_step (by repeat (first | (with_reducible first | exact HB.out | apply below_alloc | apply pw_below_drewN | apply below_drew1) | exact HB.out)) hb); clear HO641; clear HB; have HO641 := n0_; have HB := n1_; clear n0_ n1_; (try clear hb); (try clear hb2); (try clear hk); (try clear hi)) | ((with_reducible refine gate_callee (f := 62) rfl ?_); refine goesL_ (some 24) rfl rfl Try.func62 (by kernel_rfl) rfl #[.slice A0 l0.length c0, .int .i64 0, .int .i64 9] rfl (by (try simp only [List.map_toArray, List.map_cons, List.map_nil]); first | done | rfl | (simp only [List.length_drop, List.length_take]; rfl)) ?_; (with_reducible refine (laws_a8At.calls _ _ l0 0 9 t643 _ ?side1 ?side2 A5.out).mono ?_); (case side1 => repeat (first | exact (Kd.C_below HR0.out HB.out) | (with_reducible refine Kd.C_alloc ?_ _) | (with_reducible refine Kd.C_drewN ?_ _) | (with_reducible refine Kd.C_drew ?_))); (case side2 => exact HC0.out); rintro e w' ⟨rfl, ⟨nd, rfl⟩⟩; refine ⟨_, rfl, ?_⟩; obtain ⟨Ao10, co10, eo10⟩ := Kd.R_slice HO641.out; subst eo10) | ((with_reducible refine gate_callee (f := 63) rfl ?_); refine goesL_ (some 32) rfl rfl Try.func63 (by kernel_rfl) rfl #[.slice Ao10 t639.length co10, .int .i64 t642, .int .i64 t643] rfl (by (try simp only [List.map_toArray, List.map_cons, List.map_nil]); first | done | rfl | (simp only [List.length_drop, List.length_take]; rfl)) ?_; (with_reducible refine (impl_ChooseOne.calls k _ _ t639 t642 t643 t644 t645 _ ?side1 ?side2 A7.out).mono ?_); (case side1 => repeat (first | exact (Kd.R_reads' HO641.out).2.2 | (with_reducible refine Kd.C_alloc ?_ _) | (with_reducible refine Kd.C_drewN ?_ _) | (with_reducible refine Kd.C_drew ?_))); (case side2 => exact (Kd.R_reads' HO641.out).2.1); rintro e w11 ⟨rfl, hb⟩; refine ⟨_, rfl, ?_⟩; have n0_ := Aside0.mk (Kd.R_below (by (with_reducible repeat (first | apply Kd.R_alloc | apply Kd.R_drewN | apply Kd.R_drew)); exact HO641.out) hb); have n1_ := Aside0.mk (below_step (by repeat (first | (with_reducible first | exact HB.out | apply below_alloc | apply pw_below_drewN | apply below_drew1) | exact HB.out)) hb); clear HO641; clear HB; have HO641 := n0_; have HB := n1_; clear n0_ n1_; (try clear hb); (try clear hb2); (try clear hk); (try clear hi)))
      go_ret
      exact ⟨by first | rfl | (simp [errW_none, errW_some] <;> rfl) | (simp [*, errW_none, errW_some] <;> rfl), by repeat (first | (with_reducible first | exact HB.out | apply below_alloc | apply pw_below_drewN | apply below_drew1) | exact HB.out)⟩
    · rw [if_neg c6] at H
      have c6b0 : ((t639.length : Int) == 0) = false := beq_eq_false_iff_ne.mpr c6
      have c6b1 : ((t639.length : Int) != 0) = true := bne_iff_ne.mpr c6
      have c6b2 : ¬ (t639 = []) := fun h_ => c6 (by rw [h_]; rfl)
      replace H := Option.bind_eq_some_iff.mp H
      obtain ⟨t646, A120, H⟩ := H
      replace H : ((some (([] : List (S26)) : List (S26))).bind fun y647 => (if y647.length + t639.length < 8796093022208 then ((some (y647 ++ t639 : List (S26))).bind fun y650 => (if 0 ≤ t646 then (if t646 < (y650.length : Int) then ((laws_a8At.f l0 2 5).bind fun t654 => ((impl_ChooseOne.f k t639 t642 t643).bind fun bt656 => ((impl_ChooseOne.f k (y650.set (t646 : Int).toNat (⟨(rd_T26 y650 t646).f0, wrap64 (((rd_T26 y650 t646).f1) + (wrap64 (1 + t654)))⟩ : S26)) t642 t643).bind fun bt658 => (laws_FnTickets.l0 k t639 t646 bt656.1 bt656.2 bt658.1 bt658.2 0 0)))) else (none)) else (none))) else (none))) = some r := H
      have A12 := Aside0.mk A120
      clear A120
      obtain ⟨y647, hy647⟩ : ∃ y_ : List (S26), y_ = (([] : List (S26))) := ⟨_, rfl⟩
      replace H : (if y647.length + t639.length < 8796093022208 then ((some (y647 ++ t639 : List (S26))).bind fun y650 => (if 0 ≤ t646 then (if t646 < (y650.length : Int) then ((laws_a8At.f l0 2 5).bind fun t654 => ((impl_ChooseOne.f k t639 t642 t643).bind fun bt656 => ((impl_ChooseOne.f k (y650.set (t646 : Int).toNat (⟨(rd_T26 y650 t646).f0, wrap64 (((rd_T26 y650 t646).f1) + (wrap64 (1 + t654)))⟩ : S26)) t642 t643).bind fun bt658 => (laws_FnTickets.l0 k t639 t646 bt656.1 bt656.2 bt658.1 bt658.2 0 0)))) else (none)) else (none))) else (none)) = some r := by first | (rw [hy647]; with_reducible exact H) | (have H2_ := (Option.bind_some _ _).symm.trans H; rw [hy647]; with_reducible exact H2_) | (have H2_ := (Option.bind_some _ _).symm.trans H; with_reducible exact H2_) | with_reducible exact H | (rw [hy647]; exact H) | exact H
      have Ny647 := Aside0.mk hy647
      clear hy647
      by_cases c13 : y647.length + t639.length < 8796093022208
      · rw [if_pos c13] at H
        have LMc13 := Aside0.mk c13
        clear c13
        obtain ⟨y650, hy650⟩ : ∃ y_ : List (S26), y_ = (y647 ++ t639) := ⟨_, rfl⟩
        replace H : (if 0 ≤ t646 then (if t646 < (y650.length : Int) then ((laws_a8At.f l0 2 5).bind fun t654 => ((impl_ChooseOne.f k t639 t642 t643).bind fun bt656 => ((impl_ChooseOne.f k (y650.set (t646 : Int).toNat (⟨(rd_T26 y650 t646).f0, wrap64 (((rd_T26 y650 t646).f1) + (wrap64 (1 + t654)))⟩ : S26)) t642 t643).bind fun bt658 => (laws_FnTickets.l0 k t639 t646 bt656.1 bt656.2 bt658.1 bt658.2 0 0)))) else (none)) else (none)) = some r := by first | (rw [hy650]; with_reducible exact H) | (have H2_ := (Option.bind_some _ _).symm.trans H; rw [hy650]; with_reducible exact H2_) | (have H2_ := (Option.bind_some _ _).symm.trans H; with_reducible exact H2_) | with_reducible exact H | (rw [hy650]; exact H) | exact H
        have Ny650 := Aside0.mk hy650
        clear hy650
        by_cases c14 : 0 ≤ t646
        · rw [if_pos c14] at H
          have c14b0 : decide (0 ≤ t646) = true := decide_eq_true c14
          clear c14
          by_cases c15 : t646 < (y650.length : Int)
          · rw [if_pos c15] at H
            have c15b0 : decide (t646 < (y650.length : Int)) = true := decide_eq_true c15
            clear c15
            replace H := Option.bind_eq_some_iff.mp H
            obtain ⟨t654, A160, H⟩ := H
            replace H : ((impl_ChooseOne.f k t639 t642 t643).bind fun bt656 => ((impl_ChooseOne.f k (y650.set (t646 : Int).toNat (⟨(rd_T26 y650 t646).f0, wrap64 (((rd_T26 y650 t646).f1) + (wrap64 (1 + t654)))⟩ : S26)) t642 t643).bind fun bt658 => (laws_FnTickets.l0 k t639 t646 bt656.1 bt656.2 bt658.1 bt658.2 0 0))) = some r := H
            have A16 := Aside0.mk A160
            clear A160
            obtain ⟨y655, hy655⟩ : ∃ y_ : List (S26), y_ = (y650.set (t646 : Int).toNat (⟨(rd_T26 y650 t646).f0, wrap64 (((rd_T26 y650 t646).f1) + (wrap64 (1 + t654)))⟩ : S26)) := ⟨_, rfl⟩
            replace H : ((impl_ChooseOne.f k t639 t642 t643).bind fun bt656 => ((impl_ChooseOne.f k y655 t642 t643).bind fun bt658 => (laws_FnTickets.l0 k t639 t646 bt656.1 bt656.2 bt658.1 bt658.2 0 0))) = some r := by first | (rw [hy655]; with_reducible exact H) | (have H2_ := (Option.bind_some _ _).symm.trans H; rw [hy655]; with_reducible exact H2_) | (have H2_ := (Option.bind_some _ _).symm.trans H; with_reducible exact H2_) | with_reducible exact H | (rw [hy655]; exact H) | exact H
            have Ny655 := Aside0.mk hy655
            clear hy655
            replace H := Option.bind_eq_some_iff.mp H
            obtain ⟨⟨t656, t657⟩, A180, H⟩ := H
            replace H : ((impl_ChooseOne.f k y655 t642 t643).bind fun bt658 => (laws_FnTickets.l0 k t639 t646 t656 t657 bt658.1 bt658.2 0 0)) = some r := H
            have A18 := Aside0.mk A180
            clear A180
            replace H := Option.bind_eq_some_iff.mp H
            obtain ⟨⟨t658, t659⟩, A190, H⟩ := H
            replace H : (laws_FnTickets.l0 k t639 t646 t656 t657 t658 t659 0 0) = some r := H
            have A19 := Aside0.mk A190
            clear A190
            have H' := Aside0.mk H
            clear H
            go_enter Try.func12, Try.ntmps12
            try go_wp2_with (first | ((with_reducible refine gate_callee (f := 61) rfl ?_); refine goesL_ (some 20) rfl rfl Try.func61 (by kernel_rfl) rfl #[.slice A0 l0.length c0] rfl (by (try simp only [List.map_toArray, List.map_cons, List.map_nil]); first | done | rfl | (simp only [List.length_drop, List.length_take]; rfl)) ?_; (with_reducible refine (spec_A8Items.calls k _ _ l0 t639 _ ?side1 ?side2 A3.out).mono ?_); (case side1 => repeat (first | exact HR0.out | (with_reducible refine Kd.C_alloc ?_ _) | (with_reducible refine Kd.C_drewN ?_ _) | (with_reducible refine Kd.C_drew ?_))); (case side2 => exact HC0.out); rintro e w20 ⟨v640, rfl, ho0, hb⟩; refine ⟨_, rfl, ?_⟩; have n0_ := Aside0.mk (Kd.R_lower ho0 (below_size (by repeat (first | (with_reducible first | exact HB.out | apply below_alloc | apply pw_below_drewN | apply below_drew1) | exact HB.out)))); have n1_ := Aside0.mk (below_step (by repeat (first | (with_reducible first | exact HB.out | apply below_alloc | apply pw_below_drewN | apply below_drew1) | exact HB.out)) hb); clear HB; have HO641 := n0_; have HB := n1_; clear n0_ n1_; (try clear hb); (try clear hb2); (try clear hk); (try clear hi); (try clear ho0)) | ((with_reducible refine gate_callee (f := 42) rfl ?_); refine goesL_ (some 22) rfl rfl Try.func42 (by kernel_rfl) rfl #[.slice A0 l0.length c0] rfl (by (try simp only [List.map_toArray, List.map_cons, List.map_nil]); first | done | rfl | (simp only [List.length_drop, List.length_take]; rfl)) ?_; (with_reducible refine (spec_A8Number.calls k _ _ l0 t642 _ ?side1 ?side2 A4.out).mono ?_); (case side1 => repeat (first | exact (Kd.C_below HR0.out HB.out) | (with_reducible refine Kd.C_alloc ?_ _) | (with_reducible refine Kd.C_drewN ?_ _) | (with_reducible refine Kd.C_drew ?_))); (case side2 => exact HC0.out); rintro e w21 ⟨rfl, hb⟩; refine ⟨_, rfl, ?_⟩; have n0_ := Aside0.mk (Kd.R_below (by (with_reducible repeat (first | apply Kd.R_alloc | apply Kd.R_drewN | apply Kd.R_drew)); exact HO641.out) hb); have n1_ := Aside0.mk (below_step (by repeat (first | (with_reducible first | exact HB.out | apply below_alloc | apply pw_below_drewN | apply below_drew1) | exact HB.out)) hb); clear HO641; clear HB; have HO641 := n0_; have HB := n1_; clear n0_ n1_; (try clear hb); (try clear hb2); (try clear hk); (try clear hi)) | ((with_reducible refine gate_callee (f := 62) rfl ?_); refine goesL_ (some 24) rfl rfl Try.func62 (by kernel_rfl) rfl #[.slice A0 l0.length c0, .int .i64 0, .int .i64 9] rfl (by (try simp only [List.map_toArray, List.map_cons, List.map_nil]); first | done | rfl | (simp only [List.length_drop, List.length_take]; rfl)) ?_; (with_reducible refine (laws_a8At.calls _ _ l0 0 9 t643 _ ?side1 ?side2 A5.out).mono ?_); (case side1 => repeat (first | exact (Kd.C_below HR0.out HB.out) | (with_reducible refine Kd.C_alloc ?_ _) | (with_reducible refine Kd.C_drewN ?_ _) | (with_reducible refine Kd.C_drew ?_))); (case side2 => exact HC0.out); rintro e w' ⟨rfl, ⟨nd, rfl⟩⟩; refine ⟨_, rfl, ?_⟩; (try (rw [drewN_self w21]; generalize hq_ : World.drewN w21 _ = w21; have n0_ : Aside0 (Kd.R k26 26 w21 w.heap.size (fun _ => True) v640 t639) := ⟨by rw [← hq_]; exact (by (with_reducible repeat (first | apply Kd.R_alloc | apply Kd.R_drewN | apply Kd.R_drew)); exact HO641.out)⟩; have n1_ : Aside0 (Below w.heap.size w w21) := ⟨by rw [← hq_]; exact (by repeat (first | (with_reducible first | exact HB.out | apply below_alloc | apply pw_below_drewN | apply below_drew1) | exact HB.out))⟩; clear HO641 HB hq_; have HO641 := n0_; have HB := n1_; clear n0_ n1_)); obtain ⟨Ao22, co22, eo22⟩ := Kd.R_slice HO641.out; subst eo22) | ((with_reducible refine gate_callee (f := 62) rfl ?_); refine goesL_ (some 40) rfl rfl Try.func62 (by kernel_rfl) rfl #[.slice A0 l0.length c0, .int .i64 1, .int .i64 (t639.length : Int)] rfl (by (try simp only [List.map_toArray, List.map_cons, List.map_nil]); first | done | rfl | (simp only [List.length_drop, List.length_take]; rfl)) ?_; (with_reducible refine (laws_a8At.calls _ _ l0 1 (t639.length : Int) t646 _ ?side1 ?side2 A12.out).mono ?_); (case side1 => repeat (first | exact (Kd.C_below HR0.out HB.out) | (with_reducible refine Kd.C_alloc ?_ _) | (with_reducible refine Kd.C_drewN ?_ _) | (with_reducible refine Kd.C_drew ?_))); (case side2 => exact HC0.out); rintro e w' ⟨rfl, ⟨nd, rfl⟩⟩; refine ⟨_, rfl, ?_⟩; (try (rw [drewN_self w21]; generalize hq_ : World.drewN w21 _ = w21; have n0_ : Aside0 (Kd.R k26 26 w21 w.heap.size (fun _ => True) (.slice Ao22 t639.length co22) t639) := ⟨by rw [← hq_]; exact (by (with_reducible repeat (first | apply Kd.R_alloc | apply Kd.R_drewN | apply Kd.R_drew)); exact HO641.out)⟩; have n1_ : Aside0 (Below w.heap.size w w21) := ⟨by rw [← hq_]; exact (by repeat (first | (with_reducible first | exact HB.out | apply below_alloc | apply pw_below_drewN | apply below_drew1) | exact HB.out))⟩; clear HO641 HB hq_; have HO641 := n0_; have HB := n1_; clear n0_ n1_))) | ((with_reducible refine gate_dst (N := 41) rfl ?_); refine Kd.R_lit k26 _ 26 ?hg (N := 41) ?hd (xs := ([] : List (S26))) (inner := []) (ok := fun _ => True) (okp := fun _ => True) ?hr ?hp (fun _ hk => hk) trivial (Below.refl _ _) (Nat.le_refl _) (by simp) ?_; (case hd => rfl); (case hg => rfl); (case hr => first | (go_simp; done) | (go_simp; rfl)); (case hp => exact (Reps.none _ _)); intro v648 w23 ho24 hb hg_ hnew_; clear hg_ hnew_; (first | rw [← Ny647.out] at ho24 | (simp only [Int.reduceToNat] at ho24; rw [← Ny647.out] at ho24)); have n0_ := Aside0.mk (Kd.R_elder' (by (with_reducible repeat (first | apply Kd.R_alloc | apply Kd.R_drewN | apply Kd.R_drew)); exact HO641.out) (Kd.R_base ho24) hb); have n1_ := Aside0.mk (Kd.R_lower (Kd.R_new' ho24 (Kd.R_lt (by (with_reducible repeat (first | apply Kd.R_alloc | apply Kd.R_drewN | apply Kd.R_drew)); exact HO641.out))) (below_size (by repeat (first | (with_reducible first | exact HB.out | apply below_alloc | apply pw_below_drewN | apply below_drew1) | exact HB.out)))); have n2_ := Aside0.mk (below_step (by repeat (first | (with_reducible first | exact HB.out | apply below_alloc | apply pw_below_drewN | apply below_drew1) | exact HB.out)) hb); clear HO641; clear HB; have HO641 := n0_; have HO649 := n1_; have HB := n2_; clear n0_ n1_ n2_; clear hb ho24) | ((with_reducible refine gate_builtin (b := .append) (xs := #[.tmp 41, .tmp 42]) rfl ?_); at_builtin; refine Kd.R_append_rows k26 (w0 := w) w.heap.size rfl (.tmp 41) (.tmp 42) 32 26 (.agg #[(.int .i64 0), (.int .i64 0)]) 16 rfl Try.underlying32 info26 rfl (by decide) (by omega) v648 y647 t639 _ _ _ (fun k_ => some k_ ≠ (.slice Ao22 t639.length co22 : Value).ownBlock) (fun _ => False) rfl rfl ?aO ?aR (fun _ _ h => h) (fun _ h => h.elim) ?aF ?aB ?aS ?aL ?_; (case aR => repeat (first | exact (Kd.R_reads' HO641.out).2.2 | (with_reducible refine Kd.C_alloc ?_ _) | (with_reducible refine Kd.C_drewN ?_ _) | (with_reducible refine Kd.C_drew ?_))); (case aB => exact (by repeat (first | (with_reducible first | exact HB.out | apply below_alloc | apply pw_below_drewN | apply below_drew1) | exact HB.out))); (case aF => exact (fun k_ hk => Kd.fresh' (Kd.R_lt (by (with_reducible repeat (first | apply Kd.R_alloc | apply Kd.R_drewN | apply Kd.R_drew)); exact HO641.out)) k_ hk)); (case aO => exact (by (with_reducible repeat (first | apply Kd.R_alloc | apply Kd.R_drewN | apply Kd.R_drew)); exact Kd.R_mono HO649.out (fun _ hk => hk.2))); (case aS => exact (below_size (by repeat (first | (with_reducible first | exact HB.out | apply below_alloc | apply pw_below_drewN | apply below_drew1) | exact HB.out)))); (case aL => have := LMc13.out; omega); intro v651 w25 ho hb hg hat; rw [← Ny650.out] at ho; have n0_ := Aside0.mk (Kd.R_after (ok := (fun _ => True)) (by (with_reducible repeat (first | apply Kd.R_alloc | apply Kd.R_drewN | apply Kd.R_drew)); exact HO641.out) hg hat); have n1_ := Aside0.mk (hb); have n2_ := Aside0.mk (ho); clear HO641; clear HB; clear HO649; have HO641 := n0_; have HB := n1_; have HO652 := n2_; clear n0_ n1_ n2_; clear ho hb hg hat))
            have n0_ := Aside0.mk (Kd.R_drew HO641.out)
            have n1_ := Aside0.mk (Kd.R_drew HO652.out)
            have n2_ := Aside0.mk (below_drew1 HB.out)
            clear HO641
            clear HO652
            clear HB
            have HO641 := n0_
            have HO652 := n1_
            have HB := n2_
            clear n0_ n1_ n2_
            obtain ⟨Ao27, co27, eo27⟩ := Kd.R_slice HO652.out
            (first | subst eo27 | (injection eo27 with f1_ f2_ f3_; have f4_ := f1_.symm; have f5_ := f3_.symm; clear f1_ f2_ f3_; subst f4_; subst f5_))
            have p653 : 0 ≤ (t646 : Int) := of_decide_eq_true (by first | (with_reducible assumption) | assumption)
            have q653 : t646 < (y650.length : Int) := of_decide_eq_true (by first | (with_reducible assumption) | assumption)
            obtain ⟨ad653, e653, hx653_0, hx653_1⟩ := at_T26 (Kd.R_reads' HO652.out).2.2 t646 p653 q653
            cases e653
            replace p653 := eq_true p653
            replace q653 := eq_true q653
            refine start_ (n := 12) (S := fun w' => w'.cell? (ad653.add ((t646).toNat * 2)) = some (.int .i64 ((rd_T26 y650 t646).f0)) ∧ w'.cell? ⟨(ad653.add ((t646).toNat * 2)).block, (ad653.add ((t646).toNat * 2)).off + 1, none⟩ = some (.int .i64 ((rd_T26 y650 t646).f1))) (ds := [11]) #[false, false, false, false, false, false, false, false, false, false, false, false] (by kernel_rfl) rfl rfl ⟨hx653_0, hx653_1⟩ (fun hHeld => ?_); refine with_tabW laws_FnTickets.tab11 laws_FnTickets.bits11 (fun HT_ HW_ => ?_)
            generalize w25.drew = w26 at HO641 HO652 HB hx653_0 hx653_1 hHeld ⊢
            refine pure_ (i := 0) (N := some 44) (v := ?_) (a' := ?_) #[true, false, false, false, false, false, false, false, false, false, false, false] rfl rfl (any_of HT_.out (by kernel_rfl)) (fun _ _ _ h => h) (Or.inl ⟨by rfl, ?_⟩) ?_ ?_
            rotate_left
            · intro w'
              go_simp
              with_reducible rfl
            rotate_left
            · simp only [Act.put, List.setIfInBounds_toArray, List.set_cons_zero, List.set_cons_succ, i64_w, i32_w]
              rfl
            refine pure_ (i := 1) (N := some 45) (v := ?_) (a' := ?_) #[true, true, false, false, false, false, false, false, false, false, false, false] rfl rfl (any_of HT_.out (by kernel_rfl)) (fun _ _ _ h => h) (Or.inl ⟨by rfl, ?_⟩) ?_ ?_
            rotate_left
            · intro w'
              go_simp
              with_reducible rfl
            rotate_left
            · simp only [Act.put, List.setIfInBounds_toArray, List.set_cons_zero, List.set_cons_succ, i64_w, i32_w]
              rfl
            refine pure_ (i := 2) (N := some 46) (v := ?_) (a' := ?_) #[true, true, true, false, false, false, false, false, false, false, false, false] rfl rfl (any_of HT_.out (by kernel_rfl)) (fun _ _ _ h => h) (Or.inl ⟨by rfl, ?_⟩) ?_ ?_
            rotate_left
            · intro w'
              go_simp
              with_reducible rfl
            rotate_left
            · simp only [Act.put, List.setIfInBounds_toArray, List.set_cons_zero, List.set_cons_succ, i64_w, i32_w]
              rfl
            refine pure_ (i := 3) (N := some 47) (v := ?_) (a' := ?_) #[true, true, true, true, false, false, false, false, false, false, false, false] rfl rfl (any_of HT_.out (by kernel_rfl)) (fun _ _ _ h => h) (Or.inl ⟨by rfl, ?_⟩) ?_ ?_
            rotate_left
            · intro w'
              go_simp
              with_reducible rfl
            rotate_left
            · simp only [Act.put, List.setIfInBounds_toArray, List.set_cons_zero, List.set_cons_succ, i64_w, i32_w]
              rfl
            refine pure_ (i := 5) (N := some 49) (v := ?_) (a' := ?_) #[true, true, true, true, false, true, false, false, false, false, false, false] rfl rfl (any_of HT_.out (by kernel_rfl)) (fun _ _ _ h => h) (Or.inl ⟨by rfl, ?_⟩) ?_ ?_
            rotate_left
            · intro w'
              go_simp
              with_reducible rfl
            rotate_left
            · simp only [Act.put, List.setIfInBounds_toArray, List.set_cons_zero, List.set_cons_succ, i64_w, i32_w]
              rfl
            refine take_ (i := 4) (N := some 48) (v := ?_) (a' := ?_) #[true, true, true, true, true, true, false, false, false, false, false, false] rfl rfl (take_ofW HT_.out HW_.out (by kernel_rfl)) (fun _ _ _ h => h) (Or.inl ⟨by rfl, ?_⟩) hHeld ?_ ?_
            rotate_left
            · rintro w' ⟨s0, s1⟩
              go_simp
              with_reducible rfl
            rotate_left
            · simp only [Act.put, List.setIfInBounds_toArray, List.set_cons_zero, List.set_cons_succ, i64_w, i32_w]
              rfl
            refine one_ (i := 6) (N := some 50) #[true, true, true, true, true, true, true, false, false, false, false, false] rfl rfl (one_of HT_.out (by kernel_rfl)) (by decide) (fun K hK => ?_)
            refine goes_ Try.func62 (by kernel_rfl) rfl #[.slice A0 l0.length c0, .int .i64 2, .int .i64 5] (by rfl) rfl rfl (by (try simp only [List.map_toArray, List.map_cons, List.map_nil]); first | done | rfl | (simp only [List.length_drop, List.length_take]; rfl)) ?_
            with_reducible refine (laws_a8At.calls _ _ l0 2 5 t654 _ ?side1 ?side2 A16.out).mono ?_
            (case side1 => repeat (first | exact (Kd.C_below HR0.out HB.out) | (with_reducible refine Kd.C_alloc ?_ _) | (with_reducible refine Kd.C_drewN ?_ _) | (with_reducible refine Kd.C_drew ?_)))
            (case side2 => exact HC0.out)
            rintro e w' ⟨rfl, ⟨nd, rfl⟩⟩
            refine ⟨_, rfl, ?_⟩
            have p17 : 0 ≤ (t646 : Int) := of_decide_eq_true (by first | (with_reducible assumption) | assumption)
            have q17 : (t646 : Int) < ((y650.length : Int) : Int) := of_decide_eq_true (by first | (with_reducible assumption) | assumption)
            obtain ⟨go17, co17, eo17, gb17, gl17, cl17, HG17⟩ := Kd.R_form HO652.out (by omega)
            (first | cases eo17 | (injection eo17 with ea_ en_ ec_; (first | subst ea_ | (injection ea_ with ea_; subst ea_)); subst ec_; clear en_))
            have GB17 := Aside0.mk gb17
            have GG17 := Aside0.mk HG17
            clear gb17 gl17 HG17
            (first | simp only [add_plain] at hx653_0 | skip)
            (first | simp only [add_plain] at hx653_1 | skip)
            obtain ⟨ce17, hcl17, hM17, hcc17, hfr17⟩ := Kd.R_elem HO652.out z26 (t646 : Int) p17 q17
            obtain rfl := k26_openM hM17
            have hx17_0 : World.cell? _ ⟨go17, (t646 : Int).toNat * 2, none⟩ = some (.int .i64 ((rd_T26 y650 t646).f0)) := hcc17 0 _ rfl
            have hx17_1 : World.cell? _ ⟨go17, (t646 : Int).toNat * 2 + 1, none⟩ = some (.int .i64 ((rd_T26 y650 t646).f1)) := hcc17 1 _ rfl
            have hf17_0 : World.frozen? _ ⟨go17, (t646 : Int).toNat * 2, none⟩ = false := hfr17 0
            have hf17_1 : World.frozen? _ ⟨go17, (t646 : Int).toNat * 2 + 1, none⟩ = false := hfr17 1
            clear hcl17 hcc17 hfr17 hM17
            replace p17 := eq_true p17
            replace q17 := eq_true q17
            obtain ⟨ce28, hcl28, hM28, hcc28, hfr28⟩ := Kd.R_elem HO652.out z26 (t646 : Int) (of_decide_eq_true (by first | (with_reducible assumption) | assumption)) (by have h_ : (t646 : Int) < ((y650.length : Int) : Int) := of_decide_eq_true (by first | (with_reducible assumption) | assumption); first | exact h_ | (have e_ := (Kd.R_reads' HO652.out).1; omega) | simpa using h_)
            obtain rfl := k26_openM hM28
            have HP28 := (Kd.R_seg HO652.out (t646 : Int) (of_decide_eq_true (by first | (with_reducible assumption) | assumption)) (by have h_ : (t646 : Int) < ((y650.length : Int) : Int) := of_decide_eq_true (by first | (with_reducible assumption) | assumption); first | exact h_ | (have e_ := (Kd.R_reads' HO652.out).1; omega) | simpa using h_) (seg := [.int .i64 (wrap64 (((rd_T26 y650 t646).f1) + (wrap64 (1 + t654))))]) (j := 1) hcl28 hcc28 (show 2 ≤ 2 from by decide) (x' := (⟨(rd_T26 y650 t646).f0, wrap64 (((rd_T26 y650 t646).f1) + (wrap64 (1 + t654)))⟩ : S26)) (k26_mkM _ _ _ (⟨(rd_T26 y650 t646).f0, wrap64 (((rd_T26 y650 t646).f1) + (wrap64 (1 + t654)))⟩ : S26) ) (fun _ hk => hk)).1
            rw [← Ny655.out] at HP28
            have HQ28 := Aside0.mk HP28
            clear hcl28 hcc28 hfr28 hM28 HP28
            refine hK.out _ _ ⟨hHeld.1, hHeld.2⟩ (fun hHeld => ?_)
            clear hK K
            refine norm_ (a' := ?_) ?_ ?_
            rotate_left
            · show Act.put _ (some 50) _ = _
              simp only [Act.put, List.setIfInBounds_toArray, List.set_cons_zero, List.set_cons_succ, i64_w, i32_w]
              rfl
            refine pure_ (i := 7) (N := some 51) (v := ?_) (a' := ?_) #[true, true, true, true, true, true, true, true, false, false, false, false] rfl rfl (any_of HT_.out (by kernel_rfl)) (fun _ _ _ h => h) (Or.inl ⟨by rfl, ?_⟩) ?_ ?_
            rotate_left
            · intro w'
              go_simp
              with_reducible rfl
            rotate_left
            · simp only [Act.put, List.setIfInBounds_toArray, List.set_cons_zero, List.set_cons_succ, i64_w, i32_w]
              rfl
            refine pure_ (i := 8) (N := some 52) (v := ?_) (a' := ?_) #[true, true, true, true, true, true, true, true, true, false, false, false] rfl rfl (any_of HT_.out (by kernel_rfl)) (fun _ _ _ h => h) (Or.inl ⟨by rfl, ?_⟩) ?_ ?_
            rotate_left
            · intro w'
              go_simp
              with_reducible rfl
            rotate_left
            · simp only [Act.put, List.setIfInBounds_toArray, List.set_cons_zero, List.set_cons_succ, i64_w, i32_w]
              rfl
            refine pure_ (i := 9) (N := some 53) (v := ?_) (a' := ?_) #[true, true, true, true, true, true, true, true, true, true, false, false] rfl rfl (any_of HT_.out (by kernel_rfl)) (fun _ _ _ h => h) (Or.inl ⟨by rfl, ?_⟩) ?_ ?_
            rotate_left
            · intro w'
              go_simp
              with_reducible rfl
            rotate_left
            · simp only [Act.put, List.setIfInBounds_toArray, List.set_cons_zero, List.set_cons_succ, i64_w, i32_w]
              rfl
            refine pure_ (i := 10) (N := some 54) (v := ?_) (a' := ?_) #[true, true, true, true, true, true, true, true, true, true, true, false] rfl rfl (any_of HT_.out (by kernel_rfl)) (fun _ _ _ h => h) (Or.inl ⟨by rfl, ?_⟩) ?_ ?_
            rotate_left
            · intro w'
              go_simp
              with_reducible rfl
            rotate_left
            · simp only [Act.put, List.setIfInBounds_toArray, List.set_cons_zero, List.set_cons_succ, i64_w, i32_w]
              rfl
            refine last_ (i := 11) (N := none) #[true, true, true, true, true, true, true, true, true, true, true, true] rfl rfl (one_of HT_.out (by kernel_rfl)) (by decide) (fun K hK => ?_)
            refine skip_ (w1 := ?_) (by rfl) rfl ?_ ?_
            rotate_left
            · go_simp
              rfl
            refine hK.out _ _ ?_
            clear hK K
            refine done_ (done_of HT_.out (by kernel_rfl)) ?_
            try go_wp2_with (first | ((with_reducible refine gate_callee (f := 63) rfl ?_); refine goesL_ (some 59) rfl rfl Try.func63 (by kernel_rfl) rfl #[.slice Ao22 t639.length co22, .int .i64 t642, .int .i64 t643] rfl (by (try simp only [List.map_toArray, List.map_cons, List.map_nil]); first | done | rfl | (simp only [List.length_drop, List.length_take]; rfl)) ?_; (with_reducible refine (impl_ChooseOne.calls k _ _ t639 t642 t643 t656 t657 _ ?side1 ?side2 A18.out).mono ?_); (case side1 => refine (Kd.R_reads' (e := 26) (base := w.heap.size) (ok := fun k_ => (True ∧ some k_ ≠ (.slice (some ⟨go17, 0, none⟩) y650.length co27 : Value).ownBlock)) (n := t639.length) (c := co22) ?_).2.2; exact (by (with_reducible repeat (first | apply Kd.R_alloc | apply Kd.R_drewN | apply Kd.R_drew)); exact (Kd.R_mono (Kd.R_far (p := ⟨go17, (t646 : Int).toNat * 2 + 1, none⟩) (Kd.R_mono HO641.out (fun k_ hk => (⟨hk, fun e_ => hk.2 (by rw [e_]; rfl)⟩ : _ ∧ k_ ≠ go17))) (fun _ hk => hk.2) (.int .i64 (wrap64 (((rd_T26 y650 t646).f1) + (wrap64 (1 + t654)))))) (fun _ h_ => h_.1)))); (case side2 => exact (Kd.R_reads' HO641.out).2.1); rintro e w29 ⟨rfl, hb⟩; refine ⟨_, rfl, ?_⟩; have n0_ := Aside0.mk (Kd.R_below (by (with_reducible repeat (first | apply Kd.R_alloc | apply Kd.R_drewN | apply Kd.R_drew)); exact (Kd.R_mono (Kd.R_far (p := ⟨go17, (t646 : Int).toNat * 2 + 1, none⟩) (Kd.R_mono HO641.out (fun k_ hk => (⟨hk, fun e_ => hk.2 (by rw [e_]; rfl)⟩ : _ ∧ k_ ≠ go17))) (fun _ hk => hk.2) (.int .i64 (wrap64 (((rd_T26 y650 t646).f1) + (wrap64 (1 + t654)))))) (fun _ h_ => h_.1))) hb); have n1_ := Aside0.mk (Kd.R_below (by (with_reducible repeat (first | apply Kd.R_alloc | apply Kd.R_drewN | apply Kd.R_drew)); exact HQ28.out) hb); have n2_ := Aside0.mk (below_step (by repeat (first | (with_reducible first | exact HB.out | apply below_alloc | apply pw_below_drewN | apply below_drew1 | refine below_set ?_ GB17.out) | exact HB.out)) hb); clear HO641; clear HO652; clear HB; have HO641 := n0_; have HO652 := n1_; have HB := n2_; clear n0_ n1_ n2_; (try clear hb); (try clear hb2); (try clear hk); (try clear hi)) | ((with_reducible refine gate_callee (f := 63) rfl ?_); refine goesL_ (some 66) rfl rfl Try.func63 (by kernel_rfl) rfl #[.slice (some ⟨go17, 0, none⟩) y655.length co27, .int .i64 t642, .int .i64 t643] rfl (by (try simp only [List.map_toArray, List.map_cons, List.map_nil]); first | done | (rw [show y655.length = y650.length from (Kd.R_reads' HO652.out).1.symm] <;> rfl) | rfl | (simp only [List.length_drop, List.length_take]; rfl)) ?_; (with_reducible refine (impl_ChooseOne.calls k _ _ y655 t642 t643 t658 t659 _ ?side1 ?side2 A19.out).mono ?_); (case side1 => repeat (first | exact (Kd.R_reads' HO652.out).2.2 | (with_reducible refine Kd.C_alloc ?_ _) | (with_reducible refine Kd.C_drewN ?_ _) | (with_reducible refine Kd.C_drew ?_))); (case side2 => rw [show y655.length = y650.length from (Kd.R_reads' HO652.out).1.symm]; exact (Kd.R_reads' HO652.out).2.1); rintro e w30 ⟨rfl, hb⟩; refine ⟨_, rfl, ?_⟩; have n0_ := Aside0.mk (Kd.R_below (by (with_reducible repeat (first | apply Kd.R_alloc | apply Kd.R_drewN | apply Kd.R_drew)); exact HO641.out) hb); have n1_ := Aside0.mk (Kd.R_below (by (with_reducible repeat (first | apply Kd.R_alloc | apply Kd.R_drewN | apply Kd.R_drew)); exact HO652.out) hb); have n2_ := Aside0.mk (below_step (by repeat (first | (with_reducible first | exact HB.out | apply below_alloc | apply pw_below_drewN | apply below_drew1) | exact HB.out)) hb); clear HO641; clear HO652; clear HB; have HO641 := n0_; have HO652 := n1_; have HB := n2_; clear n0_ n1_ n2_; (try clear hb); (try clear hb2); (try clear hk); (try clear hi)))
            go_loopg [14, 15] k (fun kq v14 v15 w' => ∃ (x14_1 : Int) (x15_1 : Int), v14 = .int .i64 x14_1 ∧ v15 = .int .i64 x15_1 ∧ Aside0 (laws_FnTickets.l0 kq t639 t646 t656 t657 t658 t659 x14_1 x15_1 = some r) ∧ Aside0 (kq ≤ k) ∧ Aside0 (Kd.R k26 26 w' w.heap.size (fun _ => True) (.slice Ao22 t639.length co22) t639) ∧ Aside0 (Below w.heap.size w w'))
            case atStart => exact ⟨(0), (0), (by first | rfl | (simp; done) | (simp [*]; done)), (by first | rfl | (simp; done) | (simp [*]; done)), H', ⟨Nat.le_refl _⟩, ⟨by (with_reducible repeat (first | apply Kd.R_alloc | apply Kd.R_drewN | apply Kd.R_drew)); exact Kd.R_mono HO641.out (fun _ hk => trivial)⟩, ⟨by repeat (first | (with_reducible first | exact HB.out | apply below_alloc | apply pw_below_drewN | apply below_drew1) | exact HB.out)⟩⟩
            case round =>
              clear H'
              try clear c1
              try clear p1
              try clear q1
              try clear hx1
              try clear hf1
              try clear c2
              try clear c2b0
              try clear c2b1
              try clear p2
              try clear c4
              try clear c6
              try clear c6b0
              try clear c6b1
              try clear c6b2
              try clear p6
              try clear q6
              try clear hx6
              try clear c12
              try clear c13
              try clear c14
              try clear c14b0
              try clear c15
              try clear c15b0
              try clear c17
              try clear p17
              try clear q17
              try clear hx17
              try clear hf17
              try clear c28
              try clear hx17_0
              try clear hx17_1
              try clear hx653_0
              try clear hx653_1
              try clear p17
              try clear p653
              try clear q17
              try clear q653
              obtain ⟨x14_1, x15_1, rfl, rfl, HA, HK1, HO_3, HB⟩ := hrel
              cases gk with
              | zero => exact absurd HA.out (by simp [laws_FnTickets.l0])
              | succ k1 =>
                have H := HA.out
                clear HA
                simp only [laws_FnTickets.l0] at H
                by_cases c31 : x15_1 < (t639.length : Int)
                · rw [if_pos c31] at H
                  have c31b0 : decide (x15_1 < (t639.length : Int)) = true := decide_eq_true c31
                  clear c31
                  by_cases c32 : 0 ≤ x15_1
                  · rw [if_pos c32] at H
                    have c32b0 : decide (0 ≤ x15_1) = true := decide_eq_true c32
                    clear c32
                    have H' := Aside0.mk H
                    clear H
                    have p660 : 0 ≤ (x15_1 : Int) := of_decide_eq_true (by first | (with_reducible assumption) | assumption)
                    have q660 : x15_1 < (t639.length : Int) := of_decide_eq_true (by first | (with_reducible assumption) | assumption)
                    obtain ⟨ad660, e660, hx660_0, hx660_1⟩ := at_T26 (Kd.R_reads' HO_3.out).2.2 x15_1 p660 q660
                    cases e660
                    replace p660 := eq_true p660
                    replace q660 := eq_true q660
                    go_wp2
                    go_roundg k1
                    case measure => have := HK1.out; omega
                    case rel => exact ⟨(wrap64 (x14_1 + ((rd_T26 t639 x15_1).f1))), (wrap64 (x15_1 + 1)), (by first | rfl | (simp; done) | (simp [*]; done)), (by first | rfl | (simp; done) | (simp [*]; done)), H', ⟨by have := HK1.out; omega⟩, ⟨by (with_reducible repeat (first | apply Kd.R_alloc | apply Kd.R_drewN | apply Kd.R_drew)); exact HO_3.out⟩, ⟨by repeat (first | (with_reducible first | exact HB.out | apply below_alloc | apply pw_below_drewN | apply below_drew1) | exact HB.out)⟩⟩
                  · rw [if_neg c32] at H
                    exact absurd H (by simp)
                · rw [if_neg c31] at H
                  have c31b0 : decide (x15_1 < (t639.length : Int)) = false := decide_eq_false c31
                  clear c31
                  by_cases c33 : t659 = 0
                  · rw [if_pos c33] at H
                    have c33b0 : (t659 == 0) = true := beq_iff_eq.mpr c33
                    have c33b1 : (t659 != 0) = false := bne_eq_false_iff_eq.mpr c33
                    clear c33
                    by_cases c35 : t657 = 0
                    · have c35b0 : (t657 == 0) = true := beq_iff_eq.mpr c35
                      have c35b1 : (t657 != 0) = false := bne_eq_false_iff_eq.mpr c35
                      cases b_ : decide (0 < x14_1) with
                      | false =>
                        have c34 : (((t657 == 0) != (decide (x14_1 > 0))) = true) := by show ((t657 == 0) != decide (0 < x14_1)) = true; rw [c35b0, b_]; rfl
                        rw [if_pos c34] at H
                        clear c34
                        clear c35
                        obtain rfl := Option.some.inj H
                        go_wp2
                        go_ret
                        exact ⟨by first | rfl | (simp [errW_none, errW_some] <;> rfl) | (simp [*, errW_none, errW_some] <;> rfl), by repeat (first | (with_reducible first | exact HB.out | apply below_alloc | apply pw_below_drewN | apply below_drew1) | exact HB.out)⟩
                      | true =>
                        have c34 : ¬ (((t657 == 0) != (decide (x14_1 > 0))) = true) := by show ¬ (((t657 == 0) != decide (0 < x14_1)) = true); rw [c35b0, b_]; decide
                        rw [if_neg c34] at H
                        clear c34
                        rw [if_pos c35] at H
                        clear c35
                        by_cases c36 : t658 = t656
                        · rw [if_pos c36] at H
                          have c36b0 : (t658 == t656) = true := beq_iff_eq.mpr c36
                          have c36b1 : (t658 != t656) = false := bne_eq_false_iff_eq.mpr c36
                          clear c36
                          obtain rfl := Option.some.inj H
                          go_wp2
                          go_ret
                          exact ⟨by first | rfl | (simp [errW_none, errW_some] <;> rfl) | (simp [*, errW_none, errW_some] <;> rfl), by repeat (first | (with_reducible first | exact HB.out | apply below_alloc | apply pw_below_drewN | apply below_drew1) | exact HB.out)⟩
                        · rw [if_neg c36] at H
                          have c36b0 : (t658 == t656) = false := beq_eq_false_iff_ne.mpr c36
                          have c36b1 : (t658 != t656) = true := bne_iff_ne.mpr c36
                          by_cases c37 : 0 ≤ t646
                          · rw [if_pos c37] at H
                            have c37b0 : decide (0 ≤ t646) = true := decide_eq_true c37
                            clear c37
                            by_cases c38 : t646 < (t639.length : Int)
                            · rw [if_pos c38] at H
                              have c38b0 : decide (t646 < (t639.length : Int)) = true := decide_eq_true c38
                              clear c38
                              obtain rfl := Option.some.inj H
                              have p661 : 0 ≤ (t646 : Int) := of_decide_eq_true (by first | (with_reducible assumption) | assumption)
                              have q661 : t646 < (t639.length : Int) := of_decide_eq_true (by first | (with_reducible assumption) | assumption)
                              obtain ⟨ad661, e661, hx661_0, hx661_1⟩ := at_T26 (Kd.R_reads' HO_3.out).2.2 t646 p661 q661
                              cases e661
                              replace p661 := eq_true p661
                              replace q661 := eq_true q661
                              go_wp2
                              go_ret
                              exact ⟨by first | rfl | (simp [errW_none, errW_some] <;> rfl) | (simp [*, errW_none, errW_some] <;> rfl), by repeat (first | (with_reducible first | exact HB.out | apply below_alloc | apply pw_below_drewN | apply below_drew1) | exact HB.out)⟩
                            · rw [if_neg c38] at H
                              exact absurd H (by simp)
                          · rw [if_neg c37] at H
                            exact absurd H (by simp)
                    · have c35b0 : (t657 == 0) = false := beq_eq_false_iff_ne.mpr c35
                      have c35b1 : (t657 != 0) = true := bne_iff_ne.mpr c35
                      cases b_ : decide (0 < x14_1) with
                      | false =>
                        have c34 : ¬ (((t657 == 0) != (decide (x14_1 > 0))) = true) := by show ¬ (((t657 == 0) != decide (0 < x14_1)) = true); rw [c35b0, b_]; decide
                        rw [if_neg c34] at H
                        clear c34
                        rw [if_neg c35] at H
                        by_cases c39 : 0 ≤ t646
                        · rw [if_pos c39] at H
                          have c39b0 : decide (0 ≤ t646) = true := decide_eq_true c39
                          clear c39
                          by_cases c40 : t646 < (t639.length : Int)
                          · rw [if_pos c40] at H
                            have c40b0 : decide (t646 < (t639.length : Int)) = true := decide_eq_true c40
                            clear c40
                            by_cases c41 : t658 = ((rd_T26 t639 t646).f0)
                            · rw [if_pos c41] at H
                              have c41b0 : (t658 == ((rd_T26 t639 t646).f0)) = true := beq_iff_eq.mpr c41
                              have c41b1 : (t658 != ((rd_T26 t639 t646).f0)) = false := bne_eq_false_iff_eq.mpr c41
                              clear c41
                              obtain rfl := Option.some.inj H
                              have p662 : 0 ≤ (t646 : Int) := of_decide_eq_true (by first | (with_reducible assumption) | assumption)
                              have q662 : t646 < (t639.length : Int) := of_decide_eq_true (by first | (with_reducible assumption) | assumption)
                              obtain ⟨ad662, e662, hx662_0, hx662_1⟩ := at_T26 (Kd.R_reads' HO_3.out).2.2 t646 p662 q662
                              cases e662
                              replace p662 := eq_true p662
                              replace q662 := eq_true q662
                              go_wp2
                              go_ret
                              exact ⟨by first | rfl | (simp [errW_none, errW_some] <;> rfl) | (simp [*, errW_none, errW_some] <;> rfl), by repeat (first | (with_reducible first | exact HB.out | apply below_alloc | apply pw_below_drewN | apply below_drew1) | exact HB.out)⟩
                            · rw [if_neg c41] at H
                              have c41b0 : (t658 == ((rd_T26 t639 t646).f0)) = false := beq_eq_false_iff_ne.mpr c41
                              have c41b1 : (t658 != ((rd_T26 t639 t646).f0)) = true := bne_iff_ne.mpr c41
                              obtain rfl := Option.some.inj H
                              have p662 : 0 ≤ (t646 : Int) := of_decide_eq_true (by first | (with_reducible assumption) | assumption)
                              have q662 : t646 < (t639.length : Int) := of_decide_eq_true (by first | (with_reducible assumption) | assumption)
                              obtain ⟨ad662, e662, hx662_0, hx662_1⟩ := at_T26 (Kd.R_reads' HO_3.out).2.2 t646 p662 q662
                              cases e662
                              replace p662 := eq_true p662
                              replace q662 := eq_true q662
                              go_wp2
                              go_ret
                              exact ⟨by first | rfl | (simp [errW_none, errW_some] <;> rfl) | (simp [*, errW_none, errW_some] <;> rfl), by repeat (first | (with_reducible first | exact HB.out | apply below_alloc | apply pw_below_drewN | apply below_drew1) | exact HB.out)⟩
                          · rw [if_neg c40] at H
                            exact absurd H (by simp)
                        · rw [if_neg c39] at H
                          exact absurd H (by simp)
                      | true =>
                        have c34 : (((t657 == 0) != (decide (x14_1 > 0))) = true) := by show ((t657 == 0) != decide (0 < x14_1)) = true; rw [c35b0, b_]; rfl
                        rw [if_pos c34] at H
                        clear c34
                        clear c35
                        obtain rfl := Option.some.inj H
                        go_wp2
                        go_ret
                        exact ⟨by first | rfl | (simp [errW_none, errW_some] <;> rfl) | (simp [*, errW_none, errW_some] <;> rfl), by repeat (first | (with_reducible first | exact HB.out | apply below_alloc | apply pw_below_drewN | apply below_drew1) | exact HB.out)⟩
                  · rw [if_neg c33] at H
                    have c33b0 : (t659 == 0) = false := beq_eq_false_iff_ne.mpr c33
                    have c33b1 : (t659 != 0) = true := bne_iff_ne.mpr c33
                    obtain rfl := Option.some.inj H
                    go_wp2
                    go_ret
                    exact ⟨by first | rfl | (simp [errW_none, errW_some] <;> rfl) | (simp [*, errW_none, errW_some] <;> rfl), by repeat (first | (with_reducible first | exact HB.out | apply below_alloc | apply pw_below_drewN | apply below_drew1) | exact HB.out)⟩
          · rw [if_neg c15] at H
            exact absurd H (by simp)
        · rw [if_neg c14] at H
          exact absurd H (by simp)
      · rw [if_neg c13] at H
        exact absurd H (by simp)

/-- THE ONE PURE STATEMENT of laws_FnTickets: yours. -/
def laws_FnTickets.Pure : Prop := ∀ (l0 : List Int), l0.length ≤ maxLen → l0.length * 1 ≤ 140737488351232 → (∀ x ∈ l0, (Lit.int .u8 x).wf = true) → ∃ k, laws_FnTickets.f k l0 = some true
theorem laws_FnTickets.walk (P : laws_FnTickets.Pure) (a0 : Option Addr) (len0 cap0 : Nat) (z0 : List Int) (w : World) (w0 : (a0 = none ∧ len0 = 0 ∧ cap0 = 0 ∧ z0 = []) ∨ ∃ x, a0 = some x ∧ len0 ≤ cap0 ∧ cap0 ≤ maxLen ∧ z0.length = cap0 ∧ (∀ i, i < z0.length → w.cell? (x.add i) = some (.int .u8 (z0.getD i 0))) ∧ ∀ n ∈ z0, (Lit.int .u8 n).wf = true) (y0 : len0 * 1 ≤ 140737488351232) :
    Calls Try.prog 12 #[.slice a0 len0 cap0] w fun e w' => e = .returned (.bool true) ∧ Below w.heap.size w w' := by
  obtain ⟨l0, rfl, hr0, hm0, hw0, hc0⟩ := ReadsInt.ofRowC w0
  obtain ⟨k, h⟩ := P l0 hm0 y0 hw0
  refine (laws_FnTickets.calls k _ _ l0 true w (Kd.C_of_reads (d := (0 : Int)) (h1 := fun _ => rfl) hr0) hc0 h).mono ?_
  rintro e w' ⟨rfl, hd⟩
  exact ⟨rfl, hd⟩

end Go.Proofs.Ytlocignlkigojaa.Q
