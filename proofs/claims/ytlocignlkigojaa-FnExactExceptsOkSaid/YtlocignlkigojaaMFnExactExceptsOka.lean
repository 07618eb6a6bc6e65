/- Walks and plain laws of one claim, several texts in one. -/
import Derived.Test.YtlocignlkigojaaQ0
import Derived.Test.YtlocignlkigojaaQf64
import Derived.Test.YtlocignlkigojaaQf65
import Derived.Test.YtlocignlkigojaaQf66
import Derived.Test.YtlocignlkigojaaQf67
import Derived.Test.YtlocignlkigojaaQf68
import Derived.Test.YtlocignlkigojaaWMore
import Derived.Test.YtlocignlkigojaaQf92
import Derived.Test.YtlocignlkigojaaQf96
import Derived.Test.YtlocignlkigojaaQf30
import Derived.Test.YtlocignlkigojaaQf126
import Derived.Test.YtlocignlkigojaaOTypes
-- text Qf13
namespace Go.Proofs.Ytlocignlkigojaa.Q
open Go.RowKit Go.Proofs.YtlocignlkigojaaW.PrintWords Go.Proofs.YtlocignlkigojaaW.PrintLast Go.Proofs.YtlocignlkigojaaW.PrintMore
attribute [local go_sem] max2_int min2_int max_two min_two max_three min_three max_four min_four   -- for this text's walks alone
set_option linter.unusedVariables false
set_option linter.unusedSimpArgs false

/-! ### laws_FnExactExceptsOk: function 13 -/
def laws_FnExactExceptsOk.f (k : Nat) (l0 : List (S148)) : Option (Bool) := (laws_szExceptS.f l0 1048576).bind fun t727 => (if t727 < 0 then (some true) else ((laws_toExceptS.f k l0).bind fun t728 => ((spec_ExceptsOk.f k t728).bind fun t731 => ((laws_toExceptS.f k l0).bind fun t732 => ((impl_ExceptsOk.f t732).bind fun t735 => (if (t735 != t731) = true then (some false) else ((laws_toExceptS.f k l0).bind fun t736 => ((laws_eqExceptS.f k t732 t736).bind fun t739 => (if t739 = true then (some true) else (some false))))))))))
theorem laws_FnExactExceptsOk.mono : ∀ a0 k, LeO (laws_FnExactExceptsOk.f k a0) (laws_FnExactExceptsOk.f (k + 1) a0) := by
  intro a0 k
  unfold laws_FnExactExceptsOk.f
  repeat' first
      | (with_reducible exact laws_eqExceptS.mono _ _ _)
      | (with_reducible exact laws_toExceptS.mono _ _)
      | (with_reducible exact spec_ExceptsOk.mono _ _)
      | (with_reducible exact LeO.refl _)
      | (with_reducible exact LeO.none _)
      | (with_reducible refine LeO.ite ?_ ?_)
      | (with_reducible refine LeO.bind ?_ (fun _ => ?_))
      | exact laws_eqExceptS.mono _ _ _
      | exact laws_toExceptS.mono _ _
      | exact spec_ExceptsOk.mono _ _
      | exact LeO.none _
      | refine LeO.ite ?_ ?_
      | refine LeO.bind ?_ (fun _ => ?_)
set_option maxHeartbeats 8000000 in
set_option maxRecDepth 100000 in
theorem laws_FnExactExceptsOk.calls (k : Nat) (A0 : Option Addr) (c0 : Nat) (l0 : List (S148)) (r : Bool) (w : World) (hr0 : Kd.C k148 w A0 l0.length l0) (hc0 : l0.length ≤ c0) (h : laws_FnExactExceptsOk.f k l0 = some r) :
    Calls Try.prog 13 #[.slice A0 l0.length c0] w fun e w' => e = .returned (.bool r) ∧ Below w.heap.size w w' := by
  have HR0 := Aside0.mk hr0
  have HC0 := Aside0.mk hc0
  clear hr0 hc0
  have HB := Aside0.mk (Below.refl w.heap.size w)
  have H : ((laws_szExceptS.f l0 1048576).bind fun t727 => (if t727 < 0 then (some true) else ((laws_toExceptS.f k l0).bind fun t728 => ((spec_ExceptsOk.f k t728).bind fun t731 => ((laws_toExceptS.f k l0).bind fun t732 => ((impl_ExceptsOk.f t732).bind fun t735 => (if (t735 != t731) = true then (some false) else ((laws_toExceptS.f k l0).bind fun t736 => ((laws_eqExceptS.f k t732 t736).bind fun t739 => (if t739 = true then (some true) else (some false))))))))))) = some r := h
  clear h
  replace H := Option.bind_eq_some_iff.mp H
  obtain ⟨t727, A20, H⟩ := H
  replace H : (if t727 < 0 then (some true) else ((laws_toExceptS.f k l0).bind fun t728 => ((spec_ExceptsOk.f k t728).bind fun t731 => ((laws_toExceptS.f k l0).bind fun t732 => ((impl_ExceptsOk.f t732).bind fun t735 => (if (t735 != t731) = true then (some false) else ((laws_toExceptS.f k l0).bind fun t736 => ((laws_eqExceptS.f k t732 t736).bind fun t739 => (if t739 = true then (some true) else (some false)))))))))) = some r := H
  have A2 := Aside0.mk A20
  clear A20
  by_cases c3 : t727 < 0
  · rw [if_pos c3] at H
    have c3b0 : decide (t727 < 0) = true := decide_eq_true c3
    clear c3
    obtain rfl := Option.some.inj H
    go_enter Try.func13, Try.ntmps13
    go_wp2_with (first | ((with_reducible refine gate_callee (f := 64) rfl ?_); refine goesL_ (some 9) rfl rfl Try.func64 (by kernel_rfl) rfl #[.slice A0 l0.length c0, .int .i64 1048576] rfl (by (try simp only [List.map_toArray, List.map_cons, List.map_nil]); first | done | rfl | (simp only [List.length_drop, List.length_take]; rfl)) ?_; (with_reducible refine (laws_szExceptS.calls _ _ l0 1048576 t727 _ ?side1 ?side2 A2.out).mono ?_); (case side1 => repeat (first | exact HR0.out | (with_reducible refine Kd.C_alloc ?_ _) | (with_reducible refine Kd.C_drewN ?_ _) | (with_reducible refine Kd.C_drew ?_))); (case side2 => exact HC0.out); rintro e w' ⟨rfl, ⟨nd, rfl⟩⟩; refine ⟨_, rfl, ?_⟩))
    go_ret
    exact ⟨by first | rfl | (simp [errW_none, errW_some] <;> rfl) | (simp [*, errW_none, errW_some] <;> rfl), by repeat (first | (with_reducible first | exact HB.out | apply below_alloc | apply pw_below_drewN | apply below_drew1) | exact HB.out)⟩
  · rw [if_neg c3] at H
    have c3b0 : decide (t727 < 0) = false := decide_eq_false c3
    clear c3
    replace H := Option.bind_eq_some_iff.mp H
    obtain ⟨t728, A40, H⟩ := H
    replace H : ((spec_ExceptsOk.f k t728).bind fun t731 => ((laws_toExceptS.f k l0).bind fun t732 => ((impl_ExceptsOk.f t732).bind fun t735 => (if (t735 != t731) = true then (some false) else ((laws_toExceptS.f k l0).bind fun t736 => ((laws_eqExceptS.f k t732 t736).bind fun t739 => (if t739 = true then (some true) else (some false)))))))) = some r := H
    have A4 := Aside0.mk A40
    clear A40
    replace H := Option.bind_eq_some_iff.mp H
    obtain ⟨t731, A50, H⟩ := H
    replace H : ((laws_toExceptS.f k l0).bind fun t732 => ((impl_ExceptsOk.f t732).bind fun t735 => (if (t735 != t731) = true then (some false) else ((laws_toExceptS.f k l0).bind fun t736 => ((laws_eqExceptS.f k t732 t736).bind fun t739 => (if t739 = true then (some true) else (some false))))))) = some r := H
    have A5 := Aside0.mk A50
    clear A50
    replace H := Option.bind_eq_some_iff.mp H
    obtain ⟨t732, A60, H⟩ := H
    replace H : ((impl_ExceptsOk.f t732).bind fun t735 => (if (t735 != t731) = true then (some false) else ((laws_toExceptS.f k l0).bind fun t736 => ((laws_eqExceptS.f k t732 t736).bind fun t739 => (if t739 = true then (some true) else (some false)))))) = some r := H
    have A6 := Aside0.mk A60
    clear A60
    replace H := Option.bind_eq_some_iff.mp H
    obtain ⟨t735, A70, H⟩ := H
    replace H : (if (t735 != t731) = true then (some false) else ((laws_toExceptS.f k l0).bind fun t736 => ((laws_eqExceptS.f k t732 t736).bind fun t739 => (if t739 = true then (some true) else (some false))))) = some r := H
    have A7 := Aside0.mk A70
    clear A70
    by_cases c8 : (t735 != t731) = true
    · rw [if_pos c8] at H
      have c8b0 : (t735 != t731) = true := c8
      (try (have c8b1 : decide (t735 = t731) = false := by simpa using c8))
      (try (have c8b2 : (t735 == t731) = false := by simpa using c8))
      (try (have c8b3 : ¬ (t735 = t731) := by simpa using c8))
      clear c8
      obtain rfl := Option.some.inj H
      go_enter Try.func13, Try.ntmps13
      go_wp2_with (first | ((with_reducible refine gate_callee (f := 64) rfl ?_); refine goesL_ (some 9) rfl rfl Try.func64 (by kernel_rfl) rfl #[.slice A0 l0.length c0, .int .i64 1048576] rfl (by (try simp only [List.map_toArray, List.map_cons, List.map_nil]); first | done | rfl | (simp only [List.length_drop, List.length_take]; rfl)) ?_; (with_reducible refine (laws_szExceptS.calls _ _ l0 1048576 t727 _ ?side1 ?side2 A2.out).mono ?_); (case side1 => repeat (first | exact HR0.out | (with_reducible refine Kd.C_alloc ?_ _) | (with_reducible refine Kd.C_drewN ?_ _) | (with_reducible refine Kd.C_drew ?_))); (case side2 => exact HC0.out); rintro e w' ⟨rfl, ⟨nd, rfl⟩⟩; refine ⟨_, rfl, ?_⟩) | ((with_reducible refine gate_callee (f := 66) rfl ?_); refine goesL_ (some 13) rfl rfl Try.func66 (by kernel_rfl) rfl #[.slice A0 l0.length c0] rfl (by (try simp only [List.map_toArray, List.map_cons, List.map_nil]); first | done | rfl | (simp only [List.length_drop, List.length_take]; rfl)) ?_; (with_reducible refine (laws_toExceptS.calls k _ _ l0 t728 _ ?side1 ?side2 A4.out).mono ?_); (case side1 => repeat (first | exact HR0.out | (with_reducible refine Kd.C_alloc ?_ _) | (with_reducible refine Kd.C_drewN ?_ _) | (with_reducible refine Kd.C_drew ?_))); (case side2 => exact HC0.out); rintro e w9 ⟨v729, rfl, ho0, hb⟩; refine ⟨_, rfl, ?_⟩; have n0_ := Aside0.mk (Kd.R_lower ho0 (below_size (by repeat (first | (with_reducible first | exact HB.out | apply below_alloc | apply pw_below_drewN | apply below_drew1) | exact HB.out)))); have n1_ := Aside0.mk (below_step (by repeat (first | (with_reducible first | exact HB.out | apply below_alloc | apply pw_below_drewN | apply below_drew1) | exact HB.out)) hb); clear HB; have HO730 := n0_; have HB := n1_; clear n0_ n1_; (try clear hb); (try clear hb2); (try clear hk); (try clear hi); (try clear ho0); obtain ⟨Ao10, co10, eo10⟩ := Kd.R_slice HO730.out; subst eo10) | ((with_reducible refine gate_callee (f := 65) rfl ?_); refine goesL_ (some 14) rfl rfl Try.func65 (by kernel_rfl) rfl #[.slice Ao10 t728.length co10] rfl (by (try simp only [List.map_toArray, List.map_cons, List.map_nil]); first | done | rfl | (simp only [List.length_drop, List.length_take]; rfl)) ?_; (with_reducible refine (spec_ExceptsOk.calls k _ _ t728 t731 _ ?side1 ?side2 A5.out).mono ?_); (case side1 => repeat (first | exact (Kd.R_reads' HO730.out).2.2 | (with_reducible refine Kd.C_alloc ?_ _) | (with_reducible refine Kd.C_drewN ?_ _) | (with_reducible refine Kd.C_drew ?_))); (case side2 => exact (Kd.R_reads' HO730.out).2.1); rintro e w11 ⟨rfl, hb⟩; refine ⟨_, rfl, ?_⟩; have n0_ := Aside0.mk (Kd.R_below (by (with_reducible repeat (first | apply Kd.R_alloc | apply Kd.R_drewN | apply Kd.R_drew)); exact HO730.out) hb); have n1_ := Aside0.mk (below_step (by repeat (first | (with_reducible first | exact HB.out | apply below_alloc | apply pw_below_drewN | apply below_drew1) | exact HB.out)) hb); clear HO730; clear HB; have HO730 := n0_; have HB := n1_; clear n0_ n1_; (try clear hb); (try clear hb2); (try clear hk); (try clear hi)) | ((with_reducible refine gate_callee (f := 66) rfl ?_); refine goesL_ (some 16) rfl rfl Try.func66 (by kernel_rfl) rfl #[.slice A0 l0.length c0] rfl (by (try simp only [List.map_toArray, List.map_cons, List.map_nil]); first | done | rfl | (simp only [List.length_drop, List.length_take]; rfl)) ?_; (with_reducible refine (laws_toExceptS.calls k _ _ l0 t732 _ ?side1 ?side2 A6.out).mono ?_); (case side1 => repeat (first | exact (Kd.C_below HR0.out HB.out) | (with_reducible refine Kd.C_alloc ?_ _) | (with_reducible refine Kd.C_drewN ?_ _) | (with_reducible refine Kd.C_drew ?_))); (case side2 => exact HC0.out); rintro e w12 ⟨v733, rfl, ho0, hb⟩; refine ⟨_, rfl, ?_⟩; have n0_ := Aside0.mk (Kd.R_elder' (by (with_reducible repeat (first | apply Kd.R_alloc | apply Kd.R_drewN | apply Kd.R_drew)); exact HO730.out) (Kd.R_base ho0) hb); have n1_ := Aside0.mk (Kd.R_lower (Kd.R_new' ho0 (Kd.R_lt (by (with_reducible repeat (first | apply Kd.R_alloc | apply Kd.R_drewN | apply Kd.R_drew)); exact HO730.out))) (below_size (by repeat (first | (with_reducible first | exact HB.out | apply below_alloc | apply pw_below_drewN | apply below_drew1) | exact HB.out)))); have n2_ := Aside0.mk (below_step (by repeat (first | (with_reducible first | exact HB.out | apply below_alloc | apply pw_below_drewN | apply below_drew1) | exact HB.out)) hb); clear HO730; clear HB; have HO730 := n0_; have HO734 := n1_; have HB := n2_; clear n0_ n1_ n2_; (try clear hb); (try clear hb2); (try clear hk); (try clear hi); (try clear ho0); obtain ⟨Ao13, co13, eo13⟩ := Kd.R_slice HO734.out; subst eo13) | ((with_reducible refine gate_callee (f := 67) rfl ?_); refine goesL_ (some 18) rfl rfl Try.func67 (by kernel_rfl) rfl #[.slice Ao13 t732.length co13] rfl (by (try simp only [List.map_toArray, List.map_cons, List.map_nil]); first | done | rfl | (simp only [List.length_drop, List.length_take]; rfl)) ?_; (with_reducible refine (impl_ExceptsOk.calls _ _ t732 t735 _ ?side1 ?side2 A7.out).mono ?_); (case side1 => repeat (first | exact (Kd.R_reads' HO734.out).2.2 | (with_reducible refine Kd.C_alloc ?_ _) | (with_reducible refine Kd.C_drewN ?_ _) | (with_reducible refine Kd.C_drew ?_))); (case side2 => exact (Kd.R_reads' HO734.out).2.1); rintro e w14 ⟨rfl, hb⟩; refine ⟨_, rfl, ?_⟩; have n0_ := Aside0.mk (Kd.R_below (by (with_reducible repeat (first | apply Kd.R_alloc | apply Kd.R_drewN | apply Kd.R_drew)); exact HO730.out) hb); have n1_ := Aside0.mk (Kd.R_below (by (with_reducible repeat (first | apply Kd.R_alloc | apply Kd.R_drewN | apply Kd.R_drew)); exact HO734.out) hb); have n2_ := Aside0.mk (below_step (by repeat (first | (with_reducible first | exact HB.out | apply below_alloc | apply pw_below_drewN | apply below_drew1) | exact HB.out)) hb); clear HO730; clear HO734; clear HB; have HO730 := n0_; have HO734 := n1_; have HB := n2_; clear n0_ n1_ n2_; (try clear hb); (try clear hb2); (try clear hk); (try clear hi)))
      go_ret
      exact ⟨by first | rfl | (simp [errW_none, errW_some] <;> rfl) | (simp [*, errW_none, errW_some] <;> rfl), by repeat (first | (with_reducible first | exact HB.out | apply below_alloc | apply pw_below_drewN | apply below_drew1) | exact HB.out)⟩
    · rw [if_neg c8] at H
      have c8b0 : (t735 != t731) = false := by simpa using c8
      (try (have c8b1 : decide (t735 = t731) = true := by simpa using c8))
      (try (have c8b2 : (t735 == t731) = true := by simpa using c8))
      clear c8
      replace H := Option.bind_eq_some_iff.mp H
      obtain ⟨t736, A150, H⟩ := H
      replace H : ((laws_eqExceptS.f k t732 t736).bind fun t739 => (if t739 = true then (some true) else (some false))) = some r := H
      have A15 := Aside0.mk A150
      clear A150
      replace H := Option.bind_eq_some_iff.mp H
      obtain ⟨t739, A160, H⟩ := H
      replace H : (if t739 = true then (some true) else (some false)) = some r := H
      have A16 := Aside0.mk A160
      clear A160
      by_cases c17 : t739 = true
      · subst c17
        have H1 : (some true) = some r := by rw [if_pos rfl] at H; exact H
        clear H
        have H := H1
        clear H1
        obtain rfl := Option.some.inj H
        go_enter Try.func13, Try.ntmps13
        go_wp2_with (first | ((with_reducible refine gate_callee (f := 64) rfl ?_); refine goesL_ (some 9) rfl rfl Try.func64 (by kernel_rfl) rfl #[.slice A0 l0.length c0, .int .i64 1048576] rfl (by (try simp only [List.map_toArray, List.map_cons, List.map_nil]); first | done | rfl | (simp only [List.length_drop, List.length_take]; rfl)) ?_; (with_reducible refine (laws_szExceptS.calls _ _ l0 1048576 t727 _ ?side1 ?side2 A2.out).mono ?_); (case side1 => repeat (first | exact HR0.out | (with_reducible refine Kd.C_alloc ?_ _) | (with_reducible refine Kd.C_drewN ?_ _) | (with_reducible refine Kd.C_drew ?_))); (case side2 => exact HC0.out); rintro e w' ⟨rfl, ⟨nd, rfl⟩⟩; refine ⟨_, rfl, ?_⟩) | ((with_reducible refine gate_callee (f := 66) rfl ?_); refine goesL_ (some 13) rfl rfl Try.func66 (by kernel_rfl) rfl #[.slice A0 l0.length c0] rfl (by (try simp only [List.map_toArray, List.map_cons, List.map_nil]); first | done | rfl | (simp only [List.length_drop, List.length_take]; rfl)) ?_; (with_reducible refine (laws_toExceptS.calls k _ _ l0 t728 _ ?side1 ?side2 A4.out).mono ?_); (case side1 => repeat (first | exact HR0.out | (with_reducible refine Kd.C_alloc ?_ _) | (with_reducible refine Kd.C_drewN ?_ _) | (with_reducible refine Kd.C_drew ?_))); (case side2 => exact HC0.out); rintro e w18 ⟨v729, rfl, ho0, hb⟩; refine ⟨_, rfl, ?_⟩; have n0_ := Aside0.mk (Kd.R_lower ho0 (below_size (by repeat (first | (with_reducible first | exact HB.out | apply below_alloc | apply pw_below_drewN | apply below_drew1) | exact HB.out)))); have n1_ := Aside0.mk (below_step (by repeat (first | (with_reducible first | exact HB.out | apply below_alloc | apply pw_below_drewN | apply below_drew1) | exact HB.out)) hb); clear HB; have HO730 := n0_; have HB := n1_; clear n0_ n1_; (try clear hb); (try clear hb2); (try clear hk); (try clear hi); (try clear ho0); obtain ⟨Ao19, co19, eo19⟩ := Kd.R_slice HO730.out; subst eo19) | ((with_reducible refine gate_callee (f := 65) rfl ?_); refine goesL_ (some 14) rfl rfl Try.func65 (by kernel_rfl) rfl #[.slice Ao19 t728.length co19] rfl (by (try simp only [List.map_toArray, List.map_cons, List.map_nil]); first | done | rfl | (simp only [List.length_drop, List.length_take]; rfl)) ?_; (with_reducible refine (spec_ExceptsOk.calls k _ _ t728 t731 _ ?side1 ?side2 A5.out).mono ?_); (case side1 => repeat (first | exact (Kd.R_reads' HO730.out).2.2 | (with_reducible refine Kd.C_alloc ?_ _) | (with_reducible refine Kd.C_drewN ?_ _) | (with_reducible refine Kd.C_drew ?_))); (case side2 => exact (Kd.R_reads' HO730.out).2.1); rintro e w20 ⟨rfl, hb⟩; refine ⟨_, rfl, ?_⟩; have n0_ := Aside0.mk (Kd.R_below (by (with_reducible repeat (first | apply Kd.R_alloc | apply Kd.R_drewN | apply Kd.R_drew)); exact HO730.out) hb); have n1_ := Aside0.mk (below_step (by repeat (first | (with_reducible first | exact HB.out | apply below_alloc | apply pw_below_drewN | apply below_drew1) | exact HB.out)) hb); clear HO730; clear HB; have HO730 := n0_; have HB := n1_; clear n0_ n1_; (try clear hb); (try clear hb2); (try clear hk); (try clear hi)) | ((with_reducible refine gate_callee (f := 66) rfl ?_); refine goesL_ (some 16) rfl rfl Try.func66 (by kernel_rfl) rfl #[.slice A0 l0.length c0] rfl (by (try simp only [List.map_toArray, List.map_cons, List.map_nil]); first | done | rfl | (simp only [List.length_drop, List.length_take]; rfl)) ?_; (with_reducible refine (laws_toExceptS.calls k _ _ l0 t732 _ ?side1 ?side2 A6.out).mono ?_); (case side1 => repeat (first | exact (Kd.C_below HR0.out HB.out) | (with_reducible refine Kd.C_alloc ?_ _) | (with_reducible refine Kd.C_drewN ?_ _) | (with_reducible refine Kd.C_drew ?_))); (case side2 => exact HC0.out); rintro e w21 ⟨v733, rfl, ho0, hb⟩; refine ⟨_, rfl, ?_⟩; have n0_ := Aside0.mk (Kd.R_elder' (by (with_reducible repeat (first | apply Kd.R_alloc | apply Kd.R_drewN | apply Kd.R_drew)); exact HO730.out) (Kd.R_base ho0) hb); have n1_ := Aside0.mk (Kd.R_lower (Kd.R_new' ho0 (Kd.R_lt (by (with_reducible repeat (first | apply Kd.R_alloc | apply Kd.R_drewN | apply Kd.R_drew)); exact HO730.out))) (below_size (by repeat (first | (with_reducible first | exact HB.out | apply below_alloc | apply pw_below_drewN | apply below_drew1) | exact HB.out)))); have n2_ := Aside0.mk (below_step (by repeat (first | (with_reducible first | exact HB.out | apply below_alloc | apply pw_below_drewN | apply below_drew1) | exact HB.out)) hb); clear HO730; clear HB; have HO730 := n0_; have HO734 := n1_; have HB := n2_; clear n0_ n1_ n2_; (try clear hb); (try clear hb2); (try clear hk); (try clear hi); (try clear ho0); obtain ⟨Ao22, co22, eo22⟩ := Kd.R_slice HO734.out; subst eo22) | ((with_reducible refine gate_callee (f := 67) rfl ?_); refine goesL_ (some 18) rfl rfl Try.func67 (by kernel_rfl) rfl #[.slice Ao22 t732.length co22] rfl (by (try simp only [List.map_toArray, List.map_cons, List.map_nil]); first | done | rfl | (simp only [List.length_drop, List.length_take]; rfl)) ?_; (with_reducible refine (impl_ExceptsOk.calls _ _ t732 t735 _ ?side1 ?side2 A7.out).mono ?_); (case side1 => repeat (first | exact (Kd.R_reads' HO734.out).2.2 | (with_reducible refine Kd.C_alloc ?_ _) | (with_reducible refine Kd.C_drewN ?_ _) | (with_reducible refine Kd.C_drew ?_))); (case side2 => exact (Kd.R_reads' HO734.out).2.1); rintro e w23 ⟨rfl, hb⟩; refine ⟨_, rfl, ?_⟩; have n0_ := Aside0.mk (Kd.R_below (by (with_reducible repeat (first | apply Kd.R_alloc | apply Kd.R_drewN | apply Kd.R_drew)); exact HO730.out) hb); have n1_ := Aside0.mk (Kd.R_below (by (with_reducible repeat (first | apply Kd.R_alloc | apply Kd.R_drewN | apply Kd.R_drew)); exact HO734.out) hb); have n2_ := Aside0.mk (below_step (by repeat (first | (with_reducible first | exact HB.out | apply below_alloc | apply pw_below_drewN | apply below_drew1) | exact HB.out)) hb); clear HO730; clear HO734; clear HB; have HO730 := n0_; have HO734 := n1_; have HB := n2_; clear n0_ n1_ n2_; (try clear hb); (try clear hb2); (try clear hk); (try clear hi)) | ((with_reducible refine gate_callee (f := 66) rfl ?_); refine goesL_ (some 24) rfl rfl Try.func66 (by kernel_rfl) rfl #[.slice A0 l0.length c0] rfl (by (try simp only [List.map_toArray, List.map_cons, List.map_nil]); first | done | rfl | (simp only [List.length_drop, List.length_take]; rfl)) ?_; (with_reducible refine (laws_toExceptS.calls k _ _ l0 t736 _ ?side1 ?side2 A15.out).mono ?_); (case side1 => repeat (first | exact (Kd.C_below HR0.out HB.out) | (with_reducible refine Kd.C_alloc ?_ _) | (with_reducible refine Kd.C_drewN ?_ _) | (with_reducible refine Kd.C_drew ?_))); (case side2 => exact HC0.out); rintro e w24 ⟨v737, rfl, ho0, hb⟩; refine ⟨_, rfl, ?_⟩; have n0_ := Aside0.mk (Kd.R_elder' (by (with_reducible repeat (first | apply Kd.R_alloc | apply Kd.R_drewN | apply Kd.R_drew)); exact HO730.out) (Kd.R_base ho0) hb); have n1_ := Aside0.mk (Kd.R_elder' (by (with_reducible repeat (first | apply Kd.R_alloc | apply Kd.R_drewN | apply Kd.R_drew)); exact HO734.out) (Kd.R_base ho0) hb); have n2_ := Aside0.mk (Kd.R_lower (Kd.R_new' (Kd.R_new' ho0 (Kd.R_lt (by (with_reducible repeat (first | apply Kd.R_alloc | apply Kd.R_drewN | apply Kd.R_drew)); exact HO730.out))) (Kd.R_lt (by (with_reducible repeat (first | apply Kd.R_alloc | apply Kd.R_drewN | apply Kd.R_drew)); exact HO734.out))) (below_size (by repeat (first | (with_reducible first | exact HB.out | apply below_alloc | apply pw_below_drewN | apply below_drew1) | exact HB.out)))); have n3_ := Aside0.mk (below_step (by repeat (first | (with_reducible first | exact HB.out | apply below_alloc | apply pw_below_drewN | apply below_drew1) | exact HB.out)) hb); clear HO730; clear HO734; clear HB; have HO730 := n0_; have HO734 := n1_; have HO738 := n2_; have HB := n3_; clear n0_ n1_ n2_ n3_; (try clear hb); (try clear hb2); (try clear hk); (try clear hi); (try clear ho0); obtain ⟨Ao25, co25, eo25⟩ := Kd.R_slice HO738.out; subst eo25) | ((with_reducible refine gate_callee (f := 68) rfl ?_); refine goesL_ (some 25) rfl rfl Try.func68 (by kernel_rfl) rfl #[.slice Ao22 t732.length co22, .slice Ao25 t736.length co25] rfl (by (try simp only [List.map_toArray, List.map_cons, List.map_nil]); first | done | rfl | (simp only [List.length_drop, List.length_take]; rfl)) ?_; (with_reducible refine (laws_eqExceptS.calls k _ _ t732 _ _ t736 true _ ?side1 ?side2 ?side3 ?side4 A16.out).mono ?_); (case side1 => repeat (first | exact (Kd.R_reads' HO734.out).2.2 | (with_reducible refine Kd.C_alloc ?_ _) | (with_reducible refine Kd.C_drewN ?_ _) | (with_reducible refine Kd.C_drew ?_))); (case side2 => exact (Kd.R_reads' HO734.out).2.1); (case side3 => repeat (first | exact (Kd.R_reads' HO738.out).2.2 | (with_reducible refine Kd.C_alloc ?_ _) | (with_reducible refine Kd.C_drewN ?_ _) | (with_reducible refine Kd.C_drew ?_))); (case side4 => exact (Kd.R_reads' HO738.out).2.1); rintro e w26 ⟨rfl, hb⟩; refine ⟨_, rfl, ?_⟩; have n0_ := Aside0.mk (Kd.R_below (by (with_reducible repeat (first | apply Kd.R_alloc | apply Kd.R_drewN | apply Kd.R_drew)); exact HO730.out) hb); have n1_ := Aside0.mk (Kd.R_below (by (with_reducible repeat (first | apply Kd.R_alloc | apply Kd.R_drewN | apply Kd.R_drew)); exact HO734.out) hb); have n2_ := Aside0.mk (Kd.R_below (by (with_reducible repeat (first | apply Kd.R_alloc | apply Kd.R_drewN | apply Kd.R_drew)); exact HO738.out) hb); have n3_ := Aside0.mk (below_step (by repeat (first | (with_reducible first | exact HB.out | apply below_alloc | apply pw_below_drewN | apply below_drew1) | exact HB.out)) hb); clear HO730; clear HO734; clear HO738; clear HB; have HO730 := n0_; have HO734 := n1_; have HO738 := n2_; have HB := n3_; clear n0_ n1_ n2_ n3_; (try clear hb); (try clear hb2); (try clear hk); (try clear hi)))
        go_ret
        exact ⟨by first | rfl | (simp [errW_none, errW_some] <;> rfl) | (simp [*, errW_none, errW_some] <;> rfl), by repeat (first | (with_reducible first | exact HB.out | apply below_alloc | apply pw_below_drewN | apply below_drew1) | exact HB.out)⟩
      · replace c17 := Bool.eq_false_iff.mpr c17
        subst c17
        have H1 : (some false) = some r := by rw [if_neg (show ¬ (false = true) by decide)] at H; exact H
        clear H
        have H := H1
        clear H1
        obtain rfl := Option.some.inj H
        go_enter Try.func13, Try.ntmps13
        go_wp2_with (first | ((with_reducible refine gate_callee (f := 64) rfl ?_); refine goesL_ (some 9) rfl rfl Try.func64 (by kernel_rfl) rfl #[.slice A0 l0.length c0, .int .i64 1048576] rfl (by (try simp only [List.map_toArray, List.map_cons, List.map_nil]); first | done | rfl | (simp only [List.length_drop, List.length_take]; rfl)) ?_; (with_reducible refine (laws_szExceptS.calls _ _ l0 1048576 t727 _ ?side1 ?side2 A2.out).mono ?_); (case side1 => repeat (first | exact HR0.out | (with_reducible refine Kd.C_alloc ?_ _) | (with_reducible refine Kd.C_drewN ?_ _) | (with_reducible refine Kd.C_drew ?_))); (case side2 => exact HC0.out); rintro e w' ⟨rfl, ⟨nd, rfl⟩⟩; refine ⟨_, rfl, ?_⟩) | ((with_reducible refine gate_callee (f := 66) rfl ?_); refine goesL_ (some 13) rfl rfl Try.func66 (by kernel_rfl) rfl #[.slice A0 l0.length c0] rfl (by (try simp only [List.map_toArray, List.map_cons, List.map_nil]); first | done | rfl | (simp only [List.length_drop, List.length_take]; rfl)) ?_; (with_reducible refine (laws_toExceptS.calls k _ _ l0 t728 _ ?side1 ?side2 A4.out).mono ?_); (case side1 => repeat (first | exact HR0.out | (with_reducible refine Kd.C_alloc ?_ _) | (with_reducible refine Kd.C_drewN ?_ _) | (with_reducible refine Kd.C_drew ?_))); (case side2 => exact HC0.out); rintro e w27 ⟨v729, rfl, ho0, hb⟩; refine ⟨_, rfl, ?_⟩; have n0_ := Aside0.mk (Kd.R_lower ho0 (below_size (by repeat (first | (with_reducible first | exact HB.out | apply below_alloc | apply pw_below_drewN | apply below_drew1) | exact HB.out)))); have n1_ := Aside0.mk (below_step (by repeat (first | (with_reducible first | exact HB.out | apply below_alloc | apply pw_below_drewN | apply below_drew1) | exact HB.out)) hb); clear HB; have HO730 := n0_; have HB := n1_; clear n0_ n1_; (try clear hb); (try clear hb2); (try clear hk); (try clear hi); (try clear ho0); obtain ⟨Ao28, co28, eo28⟩ := Kd.R_slice HO730.out; subst eo28) | ((with_reducible refine gate_callee (f := 65) rfl ?_); refine goesL_ (some 14) rfl rfl Try.func65 (by kernel_rfl) rfl #[.slice Ao28 t728.length co28] rfl (by (try simp only [List.map_toArray, List.map_cons, List.map_nil]); first | done | rfl | (simp only [List.length_drop, List.length_take]; rfl)) ?_; (with_reducible refine (spec_ExceptsOk.calls k _ _ t728 t731 _ ?side1 ?side2 A5.out).mono ?_); (case side1 => repeat (first | exact (Kd.R_reads' HO730.out).2.2 | (with_reducible refine Kd.C_alloc ?_ _) | (with_reducible refine Kd.C_drewN ?_ _) | (with_reducible refine Kd.C_drew ?_))); (case side2 => exact (Kd.R_reads' HO730.out).2.1); rintro e w29 ⟨rfl, hb⟩; refine ⟨_, rfl, ?_⟩; have n0_ := Aside0.mk (Kd.R_below (by (with_reducible repeat (first | apply Kd.R_alloc | apply Kd.R_drewN | apply Kd.R_drew)); exact HO730.out) hb); have n1_ := Aside0.mk (below_step (by repeat (first | (with_reducible first | exact HB.out | apply below_alloc | apply pw_below_drewN | apply below_drew1) | exact HB.out)) hb); clear HO730; clear HB; have HO730 := n0_; have HB := n1_; clear n0_ n1_; (try clear hb); (try clear hb2); (try clear hk); (try clear hi)) | ((with_reducible refine gate_callee (f := 66) rfl ?_); refine goesL_ (some 16) rfl rfl Try.func66 (by kernel_rfl) rfl #[.slice A0 l0.length c0] rfl (by (try simp only [List.map_toArray, List.map_cons, List.map_nil]); first | done | rfl | (simp only [List.length_drop, List.length_take]; rfl)) ?_; (with_reducible refine (laws_toExceptS.calls k _ _ l0 t732 _ ?side1 ?side2 A6.out).mono ?_); (case side1 => repeat (first | exact (Kd.C_below HR0.out HB.out) | (with_reducible refine Kd.C_alloc ?_ _) | (with_reducible refine Kd.C_drewN ?_ _) | (with_reducible refine Kd.C_drew ?_))); (case side2 => exact HC0.out); rintro e w30 ⟨v733, rfl, ho0, hb⟩; refine ⟨_, rfl, ?_⟩; have n0_ := Aside0.mk (Kd.R_elder' (by (with_reducible repeat (first | apply Kd.R_alloc | apply Kd.R_drewN | apply Kd.R_drew)); exact HO730.out) (Kd.R_base ho0) hb); have n1_ := Aside0.mk (Kd.R_lower (Kd.R_new' ho0 (Kd.R_lt (by (with_reducible repeat (first | apply Kd.R_alloc | apply Kd.R_drewN | apply Kd.R_drew)); exact HO730.out))) (below_size (by repeat (first | (with_reducible first | exact HB.out | apply below_alloc | apply pw_below_drewN | apply below_drew1) | exact HB.out)))); have n2_ := Aside0.mk (below_step (by repeat (first | (with_reducible first | exact HB.out | apply below_alloc | apply pw_below_drewN | apply below_drew1) | exact HB.out)) hb); clear HO730; clear HB; have HO730 := n0_; have HO734 := n1_; have HB := n2_; clear n0_ n1_ n2_; (try clear hb); (try clear hb2); (try clear hk); (try clear hi); (try clear ho0); obtain ⟨Ao31, co31, eo31⟩ := Kd.R_slice HO734.out; subst eo31) | ((with_reducible refine gate_callee (f := 67) rfl ?_); refine goesL_ (some 18) rfl rfl Try.func67 (by kernel_rfl) rfl #[.slice Ao31 t732.length co31] rfl (by (try simp only [List.map_toArray, List.map_cons, List.map_nil]); first | done | rfl | (simp only [List.length_drop, List.length_take]; rfl)) ?_; (with_reducible refine (impl_ExceptsOk.calls _ _ t732 t735 _ ?side1 ?side2 A7.out).mono ?_); (case side1 => repeat (first | exact (Kd.R_reads' HO734.out).2.2 | (with_reducible refine Kd.C_alloc ?_ _) | (with_reducible refine Kd.C_drewN ?_ _) | (with_reducible refine Kd.C_drew ?_))); (case side2 => exact (Kd.R_reads' HO734.out).2.1); rintro e w32 ⟨rfl, hb⟩; refine ⟨_, rfl, ?_⟩; have n0_ := Aside0.mk (Kd.R_below (by (with_reducible repeat (first | apply Kd.R_alloc | apply Kd.R_drewN | apply Kd.R_drew)); exact HO730.out) hb); have n1_ := Aside0.mk (Kd.R_below (by (with_reducible repeat (first | apply Kd.R_alloc | apply Kd.R_drewN | apply Kd.R_drew)); exact HO734.out) hb); have n2_ := Aside0.mk (below_step (by repeat (first | (with_reducible first | exact HB.out | apply below_alloc | apply pw_below_drewN | apply below_drew1) | exact HB.out)) hb); clear HO730; clear HO734; clear HB; have HO730 := n0_; have HO734 := n1_; have HB := n2_; clear n0_ n1_ n2_; (try clear hb); (try clear hb2); (try clear hk); (try clear hi)) | ((with_reducible refine gate_callee (f := 66) rfl ?_); refine goesL_ (some 24) rfl rfl Try.func66 (by kernel_rfl) rfl #[.slice A0 l0.length c0] rfl (by (try simp only [List.map_toArray, List.map_cons, List.map_nil]); first | done | rfl | (simp only [List.length_drop, List.length_take]; rfl)) ?_; (with_reducible refine (laws_toExceptS.calls k _ _ l0 t736 _ ?side1 ?side2 A15.out).mono ?_); (case side1 => repeat (first | exact (Kd.C_below HR0.out HB.out) | (with_reducible refine Kd.C_alloc ?_ _) | (with_reducible refine Kd.C_drewN ?_ _) | (with_reducible refine Kd.C_drew ?_))); (case side2 => exact HC0.out); rintro e w33 ⟨v737, rfl, ho0, hb⟩; refine ⟨_, rfl, ?_⟩; have n0_ := Aside0.mk (Kd.R_elder' (by (with_reducible repeat (first | apply Kd.R_alloc | apply Kd.R_drewN | apply Kd.R_drew)); exact HO730.out) (Kd.R_base ho0) hb); have n1_ := Aside0.mk (Kd.R_elder' (by (with_reducible repeat (first | apply Kd.R_alloc | apply Kd.R_drewN | apply Kd.R_drew)); exact HO734.out) (Kd.R_base ho0) hb); have n2_ := Aside0.mk (Kd.R_lower (Kd.R_new' (Kd.R_new' ho0 (Kd.R_lt (by (with_reducible repeat (first | apply Kd.R_alloc | apply Kd.R_drewN | apply Kd.R_drew)); exact HO730.out))) (Kd.R_lt (by (with_reducible repeat (first | apply Kd.R_alloc | apply Kd.R_drewN | apply Kd.R_drew)); exact HO734.out))) (below_size (by repeat (first | (with_reducible first | exact HB.out | apply below_alloc | apply pw_below_drewN | apply below_drew1) | exact HB.out)))); have n3_ := Aside0.mk (below_step (by repeat (first | (with_reducible first | exact HB.out | apply below_alloc | apply pw_below_drewN | apply below_drew1) | exact HB.out)) hb); clear HO730; clear HO734; clear HB; have HO730 := n0_; have HO734 := n1_; have HO738 := n2_; have HB := n3_; clear n0_ n1_ n2_ n3_; (try clear hb); (try clear hb2); (try clear hk); (try clear hi); (try clear ho0); obtain ⟨Ao34, co34, eo34⟩ := Kd.R_slice HO738.out; subst eo34) | ((with_reducible refine gate_callee (f := 68) rfl ?_); refine goesL_ (some 25) rfl rfl Try.func68 (by kernel_rfl) rfl #[.slice Ao31 t732.length co31, .slice Ao34 t736.length co34] rfl (by (try simp only [List.map_toArray, List.map_cons, List.map_nil]); first | done | rfl | (simp only [List.length_drop, List.length_take]; rfl)) ?_; (with_reducible refine (laws_eqExceptS.calls k _ _ t732 _ _ t736 false _ ?side1 ?side2 ?side3 ?side4 A16.out).mono ?_); (case side1 => repeat (first | exact (Kd.R_reads' HO734.out).2.2 | (with_reducible refine Kd.C_alloc ?_ _) | (with_reducible refine Kd.C_drewN ?_ _) | (with_reducible refine Kd.C_drew ?_))); (case side2 => exact (Kd.R_reads' HO734.out).2.1); (case side3 => repeat (first | exact (Kd.R_reads' HO738.out).2.2 | (with_reducible refine Kd.C_alloc ?_ _) | (with_reducible refine Kd.C_drewN ?_ _) | (with_reducible refine Kd.C_drew ?_))); (case side4 => exact (Kd.R_reads' HO738.out).2.1); rintro e w35 ⟨rfl, hb⟩; refine ⟨_, rfl, ?_⟩; have n0_ := Aside0.mk (Kd.R_below (by (with_reducible repeat (first | apply Kd.R_alloc | apply Kd.R_drewN | apply Kd.R_drew)); exact HO730.out) hb); have n1_ := Aside0.mk (Kd.R_below (by (with_reducible repeat (first | apply Kd.R_alloc | apply Kd.R_drewN | apply Kd.R_drew)); exact HO734.out) hb); have n2_ := Aside0.mk (Kd.R_below (by (with_reducible repeat (first | apply Kd.R_alloc | apply Kd.R_drewN | apply Kd.R_drew)); exact HO738.out) hb); have n3_ := Aside0.mk (below_step (by repeat (first | (with_reducible first | exact HB.out | apply below_alloc | apply pw_below_drewN | apply below_drew1) | exact HB.out)) hb); clear HO730; clear HO734; clear HO738; clear HB; have HO730 := n0_; have HO734 := n1_; have HO738 := n2_; have HB := n3_; clear n0_ n1_ n2_ n3_; (try clear hb); (try clear hb2); (try clear hk); (try clear hi)))
        go_ret
        exact ⟨by first | rfl | (simp [errW_none, errW_some] <;> rfl) | (simp [*, errW_none, errW_some] <;> rfl), by repeat (first | (with_reducible first | exact HB.out | apply below_alloc | apply pw_below_drewN | apply below_drew1) | exact HB.out)⟩

end Go.Proofs.Ytlocignlkigojaa.Q

-- text OLoop
namespace Go.Proofs.Ytlocignlkigojaa.Pure
open Go.RowKit Go.Proofs.YtlocignlkigojaaW.PrintWords Go.Proofs.YtlocignlkigojaaW.PrintLast Go.Proofs.YtlocignlkigojaaW.PrintMore
set_option linter.unusedVariables false
set_option linter.unusedSimpArgs false

theorem up64 (i n : Nat) (h : i < n) (hn : n ≤ 9223372036854775807) : wrap64 ((i : Int) + 1) = ((i + 1 : Nat) : Int) := by unfold wrap64; omega
/-- A loop over i from 0 to n: an invariant, and what is known of the answer. -/
theorem loop_from {σ ρ : Type} (n : Nat) (L : Nat → σ → Int → Option ρ) (I : Nat → σ → Prop) (Post : ρ → Prop)
    (hs : ∀ (i : Nat) s, i < n → I i s → (∃ r, Post r ∧ Ev (fun k => L k s (i : Int)) r) ∨ ∃ s', I (i + 1) s' ∧ ∀ r, Ev (fun k => L k s' ((i + 1 : Nat) : Int)) r → Ev (fun k => L k s (i : Int)) r)
    (he : ∀ s, I n s → ∃ r, Post r ∧ Ev (fun k => L k s (n : Int)) r) : ∀ (d i : Nat) s, i + d = n → I i s → ∃ r, Post r ∧ Ev (fun k => L k s (i : Int)) r
  | 0, i, s, hd, hI => by
    obtain rfl : i = n := by omega
    exact he s hI
  | d + 1, i, s, hd, hI => by
    rcases hs i s (by omega) hI with h | ⟨s', hI', h⟩
    · exact h
    · obtain ⟨r, hr, hE⟩ := loop_from n L I Post hs he d (i + 1) s' (by omega) hI'
      exact ⟨r, hr, h r hE⟩
theorem loop_up {σ ρ : Type} (n : Nat) (L : Nat → σ → Int → Option ρ) (I : Nat → σ → Prop) (Post : ρ → Prop)
    (hs : ∀ (i : Nat) s, i < n → I i s → (∃ r, Post r ∧ Ev (fun k => L k s (i : Int)) r) ∨ ∃ s', I (i + 1) s' ∧ ∀ r, Ev (fun k => L k s' ((i + 1 : Nat) : Int)) r → Ev (fun k => L k s (i : Int)) r)
    (he : ∀ s, I n s → ∃ r, Post r ∧ Ev (fun k => L k s (n : Int)) r) (s : σ) (h0 : I 0 s) : ∃ r, Post r ∧ Ev (fun k => L k s 0) r :=
  loop_from n L I Post hs he n 0 s (by omega) h0
/-- The same where one answer is told. -/
theorem loop_is {σ ρ : Type} (n : Nat) (L : Nat → σ → Int → Option ρ) (I : Nat → σ → Prop) (a : ρ)
    (hs : ∀ (i : Nat) s, i < n → I i s → Ev (fun k => L k s (i : Int)) a ∨ ∃ s', I (i + 1) s' ∧ ∀ r, Ev (fun k => L k s' ((i + 1 : Nat) : Int)) r → Ev (fun k => L k s (i : Int)) r)
    (he : ∀ s, I n s → Ev (fun k => L k s (n : Int)) a) (s : σ) (h0 : I 0 s) : Ev (fun k => L k s 0) a := by
  obtain ⟨r, hr, hE⟩ := loop_up n L I (· = a) (fun i s hi hI => (hs i s hi hI).imp (fun h => ⟨a, rfl, h⟩) id) (fun s hI => ⟨a, rfl, he s hI⟩) s h0
  exact hr ▸ hE
theorem ev_some {α : Type} {g : Nat → Option α} {r : α} (h : ∀ k, g k = some r) : Ev g r := ⟨0, fun k _ => h k⟩
theorem ev_next {α : Type} {g f : Nat → Option α} (h : ∀ k, g (k + 1) = f k) : ∀ r, Ev f r → Ev g r := fun _ k => Ev.step h k
theorem ev_end {α : Type} {g : Nat → Option α} {r : α} (h : ∀ k, g (k + 1) = some r) : Ev g r := Ev.step h (Ev.now r)
theorem ev_of {α : Type} {g : Nat → Option α} {r : α} {K : Nat} (h : ∀ k, K ≤ k → g k = some r) : Ev g r := ⟨K, h⟩
theorem ev_then1 {α : Type} {g : Nat → Option α} {r : α} (h : Ev g r) : Ev (fun k => (g k).bind fun t => some t) r := Ev.bind h (Ev.now r)
/-- what is bound comes to the same -/
theorem ev_bind_some {α β : Type} {a : α} {f : Nat → α → Option β} {r : β} (k : Ev (fun n => f n a) r) : Ev (fun n => (some a).bind (f n)) r := k

theorem take_set {α : Type} (l y : List α) (i : Nat) (v : α) (hl : y.length = l.length) (hi : i < l.length) (hv : v = l[i]) (h : y.take i = l.take i) : (y.set i v).take (i + 1) = l.take (i + 1) := by
  rw [List.take_succ_eq_append_getElem (by rw [List.length_set]; omega), List.take_succ_eq_append_getElem hi]
  congr 1
  · rw [List.take_set_of_le (by omega)]; exact h
  · simp [hv]
theorem take_all {α : Type} (l y : List α) (n : Nat) (hl : y.length = n) (hn : l.length = n) (h : y.take n = l.take n) : y = l := by
  rw [List.take_of_length_le (by omega), List.take_of_length_le (by omega)] at h
  exact h
theorem getD_get {α : Type} (l : List α) (i : Nat) (z : α) (h : i < l.length) : l.getD i z = l[i] := by
  rw [List.getD_eq_getElem?_getD, List.getElem?_eq_getElem h]; rfl
theorem map_loop {α β : Type} (L : Nat → List β → Int → Option (List β)) (l : List α) (c : α → β)
    (hs : ∀ (i : Nat) (h : i < l.length) y, y.length = l.length → ∀ r, Ev (fun k => L k (y.set i (c l[i])) ((i + 1 : Nat) : Int)) r → Ev (fun k => L k y (i : Int)) r)
    (he : ∀ k y, L (k + 1) y (l.length : Int) = some y) (y : List β) (hy : y.length = l.length) : Ev (fun k => L k y 0) (l.map c) := by
  refine loop_is l.length L (fun i y => y.length = l.length ∧ y.take i = (l.map c).take i) _ ?_ ?_ y ⟨hy, by simp⟩
  · intro i s hi ⟨h1, h2⟩
    exact .inr ⟨s.set i (c l[i]), ⟨by rw [List.length_set]; exact h1, take_set (l.map c) s i _ (by simpa using h1) (by simpa using hi) (by simp) h2⟩, hs i hi s h1⟩
  · intro s ⟨h1, h2⟩
    have e := take_all (l.map c) s l.length h1 (by simp) h2
    exact e ▸ ev_end (fun k => he k s)
theorem eq_loop (n : Nat) (L : Nat → Int → Option Bool) (hs : ∀ i : Nat, i < n → ∀ r, Ev (fun k => L k ((i + 1 : Nat) : Int)) r → Ev (fun k => L k (i : Int)) r) (he : ∀ k, L (k + 1) (n : Int) = some true) : Ev (fun k => L k 0) true :=
  loop_is n (fun k (_ : Unit) i => L k i) (fun _ _ => True) true (fun i _ hi _ => .inr ⟨(), trivial, hs i hi⟩) (fun _ _ => ev_end he) () trivial
theorem same_loop {α : Type} [DecidableEq α] (a b : List α) (hl : a.length = b.length) (L : Nat → Int → Option Bool)
    (hs : ∀ k (i : Nat) (h : i < a.length) (h' : i < b.length), L (k + 1) (i : Int) = if a[i] = b[i] then L k ((i + 1 : Nat) : Int) else some false) (he : ∀ k, L (k + 1) (a.length : Int) = some true) : Ev (fun k => L k 0) (decide (a = b)) := by
  refine loop_is a.length (fun k (_ : Unit) i => L k i) (fun i _ => a.take i = b.take i) _ ?_ ?_ () (by simp)
  · intro i _ hi hI
    have hi' : i < b.length := by omega
    by_cases c : a[i] = b[i]
    · refine .inr ⟨(), ?_, ev_next (fun k => ?_)⟩
      · rw [List.take_succ_eq_append_getElem hi, List.take_succ_eq_append_getElem hi', hI, c]
      · rw [hs k i hi hi', if_pos c]
    · left
      rw [decide_eq_false (fun e => c (by subst e; rfl))]
      exact ev_end (fun k => by rw [hs k i hi hi', if_neg c])
  · intro _ hI
    rw [List.take_length, hl, List.take_length] at hI
    rw [decide_eq_true hI]
    exact ev_end he
/-- numbers from c on -/
def cnt (c n : Nat) : List Int := (List.range n).map fun j => ((c + j : Nat) : Int)
theorem cnt_length (c n : Nat) : (cnt c n).length = n := by simp [cnt]
theorem cnt_get (c n i : Nat) (h : i < (cnt c n).length) : (cnt c n)[i] = ((c + i : Nat) : Int) := by simp [cnt]
theorem mark_loop (n c : Nat) (hc : c + n ≤ 4611686018427387904) (L : Nat → List Int × Int → Int → Option (Int × List Int))
    (hs : ∀ k (i : Nat) x (m : Nat), i < n → x.length = n → m ≤ 4611686018427387904 → L (k + 1) (x, (m : Int)) (i : Int) = L k (x.set i (m : Int), ((m + 1 : Nat) : Int)) ((i + 1 : Nat) : Int))
    (he : ∀ k x m, x.length = n → L (k + 1) (x, m) (n : Int) = some (m, x)) (x : List Int) (hx : x.length = n) : Ev (fun k => L k (x, (c : Int)) 0) (((c + n : Nat) : Int), cnt c n) := by
  refine loop_is n L (fun i s => s.1.length = n ∧ s.2 = ((c + i : Nat) : Int) ∧ s.1.take i = (cnt c n).take i) _ ?_ ?_ (x, (c : Int)) ⟨hx, by simp, by simp⟩
  · rintro i ⟨x, m⟩ hi ⟨h1, h2, h3⟩
    simp only at h1 h2 h3
    subst h2
    exact .inr ⟨(x.set i ((c + i : Nat) : Int), ((c + i + 1 : Nat) : Int)), ⟨by simpa using h1, rfl, take_set (cnt c n) x i _ (by rw [cnt_length]; exact h1) (by rw [cnt_length]; exact hi) (by rw [cnt_get]) h3⟩, ev_next (fun k => hs k i x (c + i) hi h1 (by omega))⟩
  · rintro ⟨x, m⟩ ⟨h1, h2, h3⟩
    simp only at h1 h2 h3
    have e := take_all (cnt c n) x n h1 (cnt_length c n) h3
    subst h2 e
    exact ev_end (fun k => he k _ _ h1)
theorem held_loop (n c : Nat) (hc : c + n ≤ 4611686018427387904) (L : Nat → Int → Int → Option Int)
    (hs : ∀ k (i : Nat), i < n → L (k + 1) ((c + i : Nat) : Int) (i : Int) = L k ((c + i + 1 : Nat) : Int) ((i + 1 : Nat) : Int))
    (he : ∀ k m, L (k + 1) m (n : Int) = some m) : Ev (fun k => L k (c : Int) 0) ((c + n : Nat) : Int) := by
  refine loop_is n L (fun i s => s = ((c + i : Nat) : Int)) _ ?_ ?_ (c : Int) (by simp)
  · rintro i _ hi rfl
    exact .inr ⟨((c + i + 1 : Nat) : Int), rfl, ev_next (fun k => hs k i hi)⟩
  · rintro _ rfl
    exact ev_end (fun k => he k _)
/-- marking rows of several numbers: how far it counts -/
theorem count_loop {α : Type} (n c w : Nat) (L : Nat → List α × Int → Int → Option (Int × List α))
    (hs : ∀ (i : Nat) x (m : Nat), i < n → x.length = n → m ≤ c + w * n → ∃ x' : List α, x'.length = n ∧ ∀ k, L (k + 1) (x, (m : Int)) (i : Int) = L k (x', ((m + w : Nat) : Int)) ((i + 1 : Nat) : Int))
    (he : ∀ k x m, x.length = n → L (k + 1) (x, m) (n : Int) = some (m, x)) (x : List α) (hx : x.length = n) : ∃ x', Ev (fun k => L k (x, (c : Int)) 0) (((c + w * n : Nat) : Int), x') := by
  obtain ⟨r, hr, hE⟩ := loop_up n L (fun i s => s.1.length = n ∧ s.2 = ((c + w * i : Nat) : Int)) (fun r : Int × List α => r.1 = ((c + w * n : Nat) : Int)) (by
    rintro i ⟨x, m⟩ hi ⟨h1, h2⟩
    simp only at h1 h2
    subst h2
    have hle : w * i ≤ w * n := Nat.mul_le_mul_left _ (by omega)
    obtain ⟨x', g1, g2⟩ := hs i x (c + w * i) hi h1 (by omega)
    exact .inr ⟨(x', ((c + w * i + w : Nat) : Int)), ⟨g1, by simp only [Nat.mul_add, Nat.mul_one, Nat.add_assoc]⟩, ev_next g2⟩) (by
    rintro ⟨x, m⟩ ⟨h1, h2⟩
    simp only at h1 h2
    subst h2
    exact ⟨_, rfl, ev_end (fun k => he k _ _ h1)⟩) (x, (c : Int)) ⟨hx, by simp⟩
  obtain ⟨a, b⟩ := r
  simp only at hr
  subst hr
  exact ⟨b, hE⟩

end Go.Proofs.Ytlocignlkigojaa.Pure

-- text OIn
namespace Go.Proofs.Ytlocignlkigojaa.Pure
open Go.RowKit Go.Proofs.Ytlocignlkigojaa.Q Go.Proofs.YtlocignlkigojaaW.PrintWords Go.Proofs.YtlocignlkigojaaW.PrintLast Go.Proofs.YtlocignlkigojaaW.PrintMore
set_option linter.unusedVariables false
set_option linter.unusedSimpArgs false
theorem in_inB (a b c : Int) : spec_l00In.f a b c = some (inB a b c) := between_inB a b c
end Go.Proofs.Ytlocignlkigojaa.Pure

-- text OLExcept
namespace Go.Proofs.Ytlocignlkigojaa.Pure
open Go.RowKit Go.Proofs.Ytlocignlkigojaa.Q Go.Proofs.YtlocignlkigojaaW.PrintWords Go.Proofs.YtlocignlkigojaaW.PrintLast Go.Proofs.YtlocignlkigojaaW.PrintMore
set_option linter.unusedVariables false
set_option linter.unusedSimpArgs false

/-- a law's exception as the program's -/
def exceptOf (x : S148) : S144 := ⟨⟨x.f0.f0, x.f0.f1⟩, x.f1, x.f2⟩
theorem rd_exceptL (l : List S148) (i : Nat) (h : i < l.length) : rd_T148 l (i : Int) = l[i] := by
  unfold rd_T148
  rw [Int.toNat_natCast, getD_get l i _ h]
theorem rd_except (l : List S144) (i : Nat) (h : i < l.length) : rd_T144 l (i : Int) = l[i] := by
  unfold rd_T144
  rw [Int.toNat_natCast, getD_get l i _ h]
theorem szExceptS_is (l : List S148) (hl : l.length ≤ 9223372036854775807) : laws_szExceptS.f l 1048576 = some (if l.length ≤ 1048576 then (1048576 - (l.length : Int)) else -1) := by
  have e : wrap64 (1048576 - (l.length : Int)) = 1048576 - (l.length : Int) := by unfold wrap64; omega
  unfold laws_szExceptS.f
  rw [e]
  by_cases h : l.length ≤ 1048576
  · rw [if_neg (by omega), if_pos h]
  · rw [if_pos (by omega), if_neg h]
theorem toExceptS_ev (l : List S148) (hl : l.length ≤ 1048576) : Ev (fun k => laws_toExceptS.f k l) (l.map exceptOf) := by
  have h := map_loop (fun k y i => laws_toExceptS.l0 k l y i) l exceptOf (fun i hi y hy => ev_next (fun k => by
    simp only [laws_toExceptS.l0, laws_toExcept.f, laws_toPg.f, Option.bind_some]
    rw [if_pos (by omega), if_pos (by omega), if_pos (by omega), up64 i l.length hi (by omega), Int.toNat_natCast, rd_exceptL l i hi]
    rfl)) (fun k y => by simp only [laws_toExceptS.l0]; rw [if_neg (by omega)]) (List.replicate ((l.length : Int) : Int).toNat z144) (by simp)
  refine Ev.congr (fun k => ?_) h
  unfold laws_toExceptS.f
  rw [if_pos (by omega), if_pos (by omega)]
theorem eqExceptS_ev (l : List S144) (hl : l.length ≤ 9223372036854775807) : Ev (fun k => laws_eqExceptS.f k l l) true := by
  refine Ev.congr (fun k => ?_) (eq_loop l.length (fun k i => laws_eqExceptS.l0 k l l i) (fun i hi => ev_next (fun k => by
    simp only [laws_eqExceptS.l0, laws_eqExcept.f, laws_eqPg.f, Option.bind_some, if_true]
    rw [if_pos (by omega), if_pos (by omega), if_pos (by omega), up64 i l.length hi hl])) (fun k => by simp only [laws_eqExceptS.l0]; rw [if_neg (by omega)]))
  unfold laws_eqExceptS.f
  rw [if_pos rfl]

end Go.Proofs.Ytlocignlkigojaa.Pure

-- text OExcept
namespace Go.Proofs.Ytlocignlkigojaa.Pure
open Go.RowKit Go.Proofs.Ytlocignlkigojaa.Q Go.Proofs.YtlocignlkigojaaW.PrintWords Go.Proofs.YtlocignlkigojaaW.PrintLast Go.Proofs.YtlocignlkigojaaW.PrintMore
set_option linter.unusedVariables false
set_option linter.unusedSimpArgs false

theorem less_cmp (a0 a1 b0 b1 : Int) : spec_l10Less.f a0 a1 b0 b1 = some (decide (0 < cmpP b0 b1 a0 a1)) := by
  unfold spec_l10Less.f cmpP cmpV
  by_cases h1 : a0 < b0
  · rw [if_pos h1, if_neg (show ¬ b0 < a0 by omega), if_pos h1]; simp
  · by_cases h2 : a0 = b0
    · subst h2
      by_cases h3 : a1 < b1
      · simp [h3]; omega
      · by_cases h4 : b1 < a1
        · simp [h3, h4]
        · simp [h3, h4]
    · have h5 : b0 < a0 := by omega
      simp [h1, h2, h5]
theorem known_step (l : List S144) (e : S144) (j : Nat) (h : j < l.length) : ((l.take (j + 1)).any (sameE e)) = ((l.take j).any (sameE e) || sameE e l[j]) := by
  rw [List.take_succ_eq_append_getElem h, List.any_append]
  simp
theorem known_ev (l : List S144) (e : S144) (hl : l.length ≤ 1048576) : Ev (fun k => spec_l10Known.f k l e.f0.f0 e.f0.f1 e.f1) (l.any (sameE e)) := by
  refine loop_is l.length (fun k (_ : Unit) j => spec_l10Known.l0 k l e.f1 j e.f0.f0 e.f0.f1) (fun j _ => (l.take j).any (sameE e) = false) _ ?_ ?_ () (by simp)
  · intro j _ hj hJ
    by_cases c : sameE e l[j] = true
    · left
      have ha : l.any (sameE e) = true := List.any_eq_true.2 ⟨l[j], List.getElem_mem hj, c⟩
      rw [ha]
      refine ev_end (fun k => ?_)
      simp only [spec_l10Known.l0]
      unfold sameE at c
      rw [Bool.and_eq_true] at c
      rw [if_pos (by omega), if_pos (by omega), rd_except l j hj, if_pos c.1, if_pos (by simpa using c.2)]
    · have c' : sameE e l[j] = false := by simpa using c
      refine .inr ⟨(), ?_, ev_next (fun k => ?_)⟩
      · rw [known_step l e j hj, hJ, c']; rfl
      · simp only [spec_l10Known.l0]
        rw [if_pos (by omega), if_pos (by omega), rd_except l j hj, up64 j l.length hj (by omega)]
        unfold sameE at c'
        by_cases c1 : (l[j].f0.f0 == e.f0.f0 && l[j].f0.f1 == e.f0.f1) = true
        · rw [c1, Bool.true_and] at c'
          rw [if_pos c1, if_neg (by simpa using c')]
        · rw [if_neg c1]
  · intro _ hJ
    rw [List.take_length] at hJ
    rw [hJ]
    refine ev_end (fun k => ?_)
    simp only [spec_l10Known.l0]
    rw [if_neg (by omega)]
theorem spec_excs_ev (l : List S144) : Ev (fun k => spec_l10OK.f k l) (excsB l) := by
  by_cases h16 : (l.length : Int) > 16
  · refine ev_some (fun k => ?_)
    unfold spec_l10OK.f excsB
    rw [if_pos h16, decide_eq_false (by omega), Bool.and_false]
  · have hmain : Ev (fun k => spec_l10OK.l0 k l 0) (excGo l l.length 0) := by
      refine loop_is l.length (fun k (_ : Unit) i => spec_l10OK.l0 k l i) (fun i _ => excGo l l.length 0 = excGo l (l.length - i) i) _ ?_ ?_ () rfl
      · intro i _ hi hI
        rw [hI, show l.length - i = (l.length - (i + 1)) + 1 from by omega]
        have hs : excGo l ((l.length - (i + 1)) + 1) i = (stepE l i && excGo l (l.length - (i + 1)) ((i : Int) + 1)) := rfl
        rw [show l.length - i = (l.length - (i + 1)) + 1 from by omega] at hI
        rw [hs] at hI ⊢
        have hst : stepE l i = (excB l[i] && !(decide (0 < (i : Int)) && decide (0 < cmpP (rd_T144 l ((i : Int) - 1)).f0.f0 (rd_T144 l ((i : Int) - 1)).f0.f1 l[i].f0.f0 l[i].f0.f1)) && !((l.take i).any (sameE l[i]))) := by
          unfold stepE
          rw [rd_except l i hi, Int.toNat_natCast]
        have hkn := known_ev (l.take i) l[i] (by rw [List.length_take]; omega)
        have hlow : ∀ k, spec_l10OK.l0 (k + 1) l i = if excB l[i] = true then (if (i : Int) > 0 then (if 0 < cmpP (rd_T144 l ((i : Int) - 1)).f0.f0 (rd_T144 l ((i : Int) - 1)).f0.f1 l[i].f0.f0 l[i].f0.f1 then some false else ((spec_l10Known.f k (l.take i) l[i].f0.f0 l[i].f0.f1 l[i].f1).bind fun t => if t = true then some false else spec_l10OK.l0 k l ((i + 1 : Nat) : Int))) else ((spec_l10Known.f k (l.take i) l[i].f0.f0 l[i].f0.f1 l[i].f1).bind fun t => if t = true then some false else spec_l10OK.l0 k l ((i + 1 : Nat) : Int))) else some false := by
          intro k
          simp only [spec_l10OK.l0]
          rw [if_pos (by omega), if_pos (by omega), rd_except l i hi, up64 i l.length hi (by omega)]
          simp only [in_inB, Option.bind_some]
          unfold excB
          by_cases a1 : inB l[i].f0.f0 1 4 = true
          · by_cases a2 : inB l[i].f0.f1 0 15 = true
            · by_cases a3 : inB l[i].f1 0 15 = true
              · by_cases a4 : inB l[i].f2 0 15 = true
                · by_cases a5 : l[i].f1 = l[i].f2
                  · rw [if_pos a1, if_pos a2, if_pos a3, if_pos a4, if_pos a5, if_neg (by simp [a5])]
                  · rw [if_pos a1, if_pos a2, if_pos a3, if_pos a4, if_neg a5, if_pos (show (inB l[i].f0.f0 1 4 && inB l[i].f0.f1 0 15 && inB l[i].f1 0 15 && inB l[i].f2 0 15 && (l[i].f1 != l[i].f2)) = true by simp [a1, a2, a3, a4, a5])]
                    by_cases a6 : (i : Int) > 0
                    · rw [if_pos a6, if_pos a6, show wrap64 ((i : Int) - 1) = (i : Int) - 1 from by unfold wrap64; omega, if_pos (by omega), if_pos (by omega), less_cmp, Option.bind_some]
                      simp only [decide_eq_true_eq]
                      rw [if_pos (show (i : Int) ≤ (l.length : Int) by omega), Int.toNat_natCast]
                    · rw [if_neg a6, if_neg a6, if_pos (by omega), Int.toNat_natCast]
                · rw [if_pos a1, if_pos a2, if_pos a3, if_neg a4, if_neg (by simp [a4])]
              · rw [if_pos a1, if_pos a2, if_neg a3, if_neg (by simp [a3])]
            · rw [if_pos a1, if_neg a2, if_neg (by simp [a2])]
          · rw [if_neg a1, if_neg (by simp [a1])]
        by_cases c1 : excB l[i] = true
        · by_cases c2 : (0 < (i : Int)) ∧ 0 < cmpP (rd_T144 l ((i : Int) - 1)).f0.f0 (rd_T144 l ((i : Int) - 1)).f0.f1 l[i].f0.f0 l[i].f0.f1
          · left
            rw [hst, decide_eq_true c2.1, decide_eq_true c2.2]
            refine ev_end (fun k => ?_)
            rw [hlow k, if_pos c1, if_pos c2.1, if_pos c2.2]
            simp
          · have hst2 : stepE l i = !((l.take i).any (sameE l[i])) := by
              rw [hst, c1]
              by_cases d1 : 0 < (i : Int)
              · have d2 : ¬ 0 < cmpP (rd_T144 l ((i : Int) - 1)).f0.f0 (rd_T144 l ((i : Int) - 1)).f0.f1 l[i].f0.f0 l[i].f0.f1 := fun h => c2 ⟨d1, h⟩
                rw [decide_eq_false d2]; simp
              · rw [decide_eq_false d1]; simp
            have hlow2 : ∀ k, spec_l10OK.l0 (k + 1) l i = ((spec_l10Known.f k (l.take i) l[i].f0.f0 l[i].f0.f1 l[i].f1).bind fun t => if t = true then some false else spec_l10OK.l0 k l ((i + 1 : Nat) : Int)) := by
              intro k
              rw [hlow k, if_pos c1]
              by_cases d1 : (i : Int) > 0
              · rw [if_pos d1, if_neg (fun h => c2 ⟨d1, h⟩)]
              · rw [if_neg d1]
            cases c3 : (l.take i).any (sameE l[i]) with
            | true =>
              left
              rw [hst2, c3]
              refine Ev.step hlow2 (Ev.bind (c3 ▸ hkn) ?_)
              exact ev_some fun k => if_pos rfl
            | false =>
              refine .inr ⟨(), ?_, fun r hr => Ev.step hlow2 (Ev.bind (c3 ▸ hkn) ?_)⟩
              · rw [hst2, c3]
                simp
              · refine Ev.congr (fun k => ?_) hr
                exact if_neg (by decide)
        · left
          have c1' : excB l[i] = false := by simpa using c1
          rw [hst, c1']
          refine ev_end (fun k => ?_)
          rw [hlow k, if_neg c1]
          rfl
      · intro _ hI
        rw [hI, Nat.sub_self]
        refine ev_end (fun k => ?_)
        simp only [spec_l10OK.l0]
        rw [if_neg (by omega)]
        rfl
    have e : excsB l = excGo l l.length 0 := by
      unfold excsB
      rw [decide_eq_true (show l.length ≤ 16 by omega), Bool.and_true]
    rw [e]
    refine Ev.congr (fun k => ?_) hmain
    unfold spec_l10OK.f
    rw [if_neg h16]

end Go.Proofs.Ytlocignlkigojaa.Pure

-- text PureFnExactExceptsOk
namespace Go.Proofs.Ytlocignlkigojaa.Pure
open Go.RowKit Go.Proofs.Ytlocignlkigojaa.Q Go.Proofs.Ytlocignlkigojaa.Opens Go.Proofs.YtlocignlkigojaaW.PrintWords Go.Proofs.YtlocignlkigojaaW.PrintLast Go.Proofs.YtlocignlkigojaaW.PrintMore
set_option linter.unusedVariables false
set_option linter.unusedSimpArgs false

theorem FnExactExceptsOk (l0 : List S148) (hg : good_t95 l0) : ∃ k, laws_FnExactExceptsOk.f k l0 = some true := by
  by_cases h : l0.length ≤ 1048576
  · have hto := toExceptS_ev l0 h
    have heq := eqExceptS_ev (l0.map exceptOf) (by rw [List.length_map]; omega)
    have hsp := ev_then1 (spec_excs_ev (l0.map exceptOf))
    refine Ev.rounds (r := true) ?_
    unfold laws_FnExactExceptsOk.f spec_ExceptsOk.f impl_ExceptsOk.f
    simp only [szExceptS_is l0 hg.1, if_pos h, Option.bind_some]
    simp only [show ¬ ((1048576 : Int) - (l0.length : Int) < 0) by omega, if_false]
    refine Ev.bind hto (Ev.bind hsp (Ev.bind hto ?_))
    simp only [bne_self_eq_false, Bool.false_eq_true, if_false]
    refine Ev.bind hto (Ev.bind heq ?_)
    exact ev_some fun k => if_pos rfl
  · refine ⟨0, ?_⟩
    unfold laws_FnExactExceptsOk.f
    rw [szExceptS_is l0 hg.1, if_neg h, Option.bind_some, if_pos (by decide)]

end Go.Proofs.Ytlocignlkigojaa.Pure
