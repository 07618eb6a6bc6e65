/- Walks of the Go functions that the laws call: each returns what a plain Lean function says. Written by a program for these claims. -/
import Derived.Test.YtlocignlkigojaaQ0
import Derived.Test.YtlocignlkigojaaQf122
namespace Go.Proofs.Ytlocignlkigojaa.Q
open Go.RowKit Go.Proofs.YtlocignlkigojaaW.PrintWords Go.Proofs.YtlocignlkigojaaW.PrintLast Go.Proofs.YtlocignlkigojaaW.PrintMore
attribute [local go_sem] max2_int min2_int max_two min_two max_three min_three max_four min_four   -- for this text's walks alone
set_option linter.unusedVariables false
set_option linter.unusedSimpArgs false

/-! ### spec_Moves: function 57 -/
mutual
def spec_Moves.j0 : Nat → List (List Int) → List (List Int) → Bool → Option (Int × Int)
  | 0, _, _, _ => none
  | k + 1, x0, x1, x16 => if x16 = true then (some (0, 1)) else (if (x0.length : Int) = (x1.length : Int) then (if (x0.length : Int) > 0 then (if 0 < (x0.length : Int) then (if 0 < (x1.length : Int) then (spec_Moves.j1 k x0 x1 (((rd_L5 x0 0).length : Int) != ((rd_L5 x1 0).length : Int))) else (none)) else (none)) else (spec_Moves.j1 k x0 x1 false)) else (spec_Moves.j1 k x0 x1 true))
def spec_Moves.j1 : Nat → List (List Int) → List (List Int) → Bool → Option (Int × Int)
  | 0, _, _, _ => none
  | k + 1, x0, x1, x37 => if x37 = true then (some (0, 2)) else (spec_Moves.l0 k x0 x1 0 0)
def spec_Moves.l0 : Nat → List (List Int) → List (List Int) → Int → Int → Option (Int × Int)
  | 0, _, _, _, _ => none
  | k + 1, x0, x1, x6, x7 => if x7 < (x0.length : Int) then (spec_Moves.l1 k x0 x1 x6 x7 0) else (some (x6, 0))
def spec_Moves.l1 : Nat → List (List Int) → List (List Int) → Int → Int → Int → Option (Int × Int)
  | 0, _, _, _, _, _ => none
  | k + 1, x0, x1, x6, x7, x8 => if 0 ≤ x7 then (if x7 < (x0.length : Int) then (if x8 < ((rd_L5 x0 x7).length : Int) then (if 0 ≤ x8 then (if x7 < (x1.length : Int) then (if x8 < ((rd_L5 x1 x7).length : Int) then (if (rd (rd_L5 x0 x7) x8) = (rd (rd_L5 x1 x7) x8) then (spec_Moves.l1 k x0 x1 x6 x7 (wrap64 (x8 + 1))) else (spec_Moves.l1 k x0 x1 (wrap64 (x6 + 1)) x7 (wrap64 (x8 + 1)))) else (none)) else (none)) else (none)) else (spec_Moves.l0 k x0 x1 x6 (wrap64 (x7 + 1)))) else (none)) else (none)
end
def spec_Moves.f (k : Nat) (l0 : List (List Int)) (l1 : List (List Int)) : Option (Int × Int) := (spec_l10Rows.f k l0).bind fun t589 => (if t589 = true then ((spec_l10Rows.f k l1).bind fun t590 => (spec_Moves.j0 k l0 l1 (!t590))) else (spec_Moves.j0 k l0 l1 true))
theorem spec_Moves.mono_l : ∀ k, (∀ y0 y1 y2, LeO (spec_Moves.j0 k y0 y1 y2) (spec_Moves.j0 (k + 1) y0 y1 y2)) ∧ (∀ y0 y1 y2, LeO (spec_Moves.j1 k y0 y1 y2) (spec_Moves.j1 (k + 1) y0 y1 y2)) ∧ (∀ y0 y1 y2 y3, LeO (spec_Moves.l0 k y0 y1 y2 y3) (spec_Moves.l0 (k + 1) y0 y1 y2 y3)) ∧ (∀ y0 y1 y2 y3 y4, LeO (spec_Moves.l1 k y0 y1 y2 y3 y4) (spec_Moves.l1 (k + 1) y0 y1 y2 y3 y4))
  | 0 => ⟨fun _ _ _ r h => by simp [spec_Moves.j0] at h, fun _ _ _ r h => by simp [spec_Moves.j1] at h, fun _ _ _ _ r h => by simp [spec_Moves.l0] at h, fun _ _ _ _ _ r h => by simp [spec_Moves.l1] at h⟩
  | k + 1 => by
    obtain ⟨ih0, ih1, ih2, ih3⟩ := spec_Moves.mono_l k
    refine ⟨?_, ?_, ?_, ?_⟩
    · intro y0 y1 y2
      unfold spec_Moves.j0
      repeat' first
      | (with_reducible exact ih0 _ _ _)
      | (with_reducible exact ih1 _ _ _)
      | (with_reducible exact ih2 _ _ _ _)
      | (with_reducible exact ih3 _ _ _ _ _)
      | (with_reducible exact spec_l10Rows.mono _ _)
      | (with_reducible exact LeO.refl _)
      | (with_reducible exact LeO.none _)
      | (with_reducible refine LeO.ite ?_ ?_)
      | (with_reducible refine LeO.bind ?_ (fun _ => ?_))
      | exact ih0 _ _ _
      | exact ih1 _ _ _
      | exact ih2 _ _ _ _
      | exact ih3 _ _ _ _ _
      | exact spec_l10Rows.mono _ _
      | exact LeO.none _
      | refine LeO.ite ?_ ?_
      | refine LeO.bind ?_ (fun _ => ?_)
    · intro y0 y1 y2
      unfold spec_Moves.j1
      repeat' first
      | (with_reducible exact ih0 _ _ _)
      | (with_reducible exact ih1 _ _ _)
      | (with_reducible exact ih2 _ _ _ _)
      | (with_reducible exact ih3 _ _ _ _ _)
      | (with_reducible exact spec_l10Rows.mono _ _)
      | (with_reducible exact LeO.refl _)
      | (with_reducible exact LeO.none _)
      | (with_reducible refine LeO.ite ?_ ?_)
      | (with_reducible refine LeO.bind ?_ (fun _ => ?_))
      | exact ih0 _ _ _
      | exact ih1 _ _ _
      | exact ih2 _ _ _ _
      | exact ih3 _ _ _ _ _
      | exact spec_l10Rows.mono _ _
      | exact LeO.none _
      | refine LeO.ite ?_ ?_
      | refine LeO.bind ?_ (fun _ => ?_)
    · intro y0 y1 y2 y3
      unfold spec_Moves.l0
      repeat' first
      | (with_reducible exact ih0 _ _ _)
      | (with_reducible exact ih1 _ _ _)
      | (with_reducible exact ih2 _ _ _ _)
      | (with_reducible exact ih3 _ _ _ _ _)
      | (with_reducible exact spec_l10Rows.mono _ _)
      | (with_reducible exact LeO.refl _)
      | (with_reducible exact LeO.none _)
      | (with_reducible refine LeO.ite ?_ ?_)
      | (with_reducible refine LeO.bind ?_ (fun _ => ?_))
      | exact ih0 _ _ _
      | exact ih1 _ _ _
      | exact ih2 _ _ _ _
      | exact ih3 _ _ _ _ _
      | exact spec_l10Rows.mono _ _
      | exact LeO.none _
      | refine LeO.ite ?_ ?_
      | refine LeO.bind ?_ (fun _ => ?_)
    · intro y0 y1 y2 y3 y4
      unfold spec_Moves.l1
      repeat' first
      | (with_reducible exact ih0 _ _ _)
      | (with_reducible exact ih1 _ _ _)
      | (with_reducible exact ih2 _ _ _ _)
      | (with_reducible exact ih3 _ _ _ _ _)
      | (with_reducible exact spec_l10Rows.mono _ _)
      | (with_reducible exact LeO.refl _)
      | (with_reducible exact LeO.none _)
      | (with_reducible refine LeO.ite ?_ ?_)
      | (with_reducible refine LeO.bind ?_ (fun _ => ?_))
      | exact ih0 _ _ _
      | exact ih1 _ _ _
      | exact ih2 _ _ _ _
      | exact ih3 _ _ _ _ _
      | exact spec_l10Rows.mono _ _
      | exact LeO.none _
      | refine LeO.ite ?_ ?_
      | refine LeO.bind ?_ (fun _ => ?_)
theorem spec_Moves.mono : ∀ a0 a1 k, LeO (spec_Moves.f k a0 a1) (spec_Moves.f (k + 1) a0 a1) := by
  intro a0 a1 k
  obtain ⟨ih0, ih1, ih2, ih3⟩ := spec_Moves.mono_l k
  unfold spec_Moves.f
  repeat' first
      | (with_reducible exact ih0 _ _ _)
      | (with_reducible exact ih1 _ _ _)
      | (with_reducible exact ih2 _ _ _ _)
      | (with_reducible exact ih3 _ _ _ _ _)
      | (with_reducible exact spec_l10Rows.mono _ _)
      | (with_reducible exact LeO.refl _)
      | (with_reducible exact LeO.none _)
      | (with_reducible refine LeO.ite ?_ ?_)
      | (with_reducible refine LeO.bind ?_ (fun _ => ?_))
      | exact ih0 _ _ _
      | exact ih1 _ _ _
      | exact ih2 _ _ _ _
      | exact ih3 _ _ _ _ _
      | exact spec_l10Rows.mono _ _
      | exact LeO.none _
      | refine LeO.ite ?_ ?_
      | refine LeO.bind ?_ (fun _ => ?_)
set_option maxHeartbeats 8000000 in
set_option maxRecDepth 100000 in
theorem spec_Moves.calls (k : Nat) (A0 : Option Addr) (c0 : Nat) (l0 : List (List Int)) (A1 : Option Addr) (c1 : Nat) (l1 : List (List Int)) (r1 : Int) (r2 : Int) (w : World) (hr0 : Kd.C (Kd.slice 2 (Kd.int .i64)) w A0 l0.length l0) (hc0 : l0.length ≤ c0) (hr1 : Kd.C (Kd.slice 2 (Kd.int .i64)) w A1 l1.length l1) (hc1 : l1.length ≤ c1) (h : spec_Moves.f k l0 l1 = some (r1, r2)) :
    Calls Try.prog 57 #[.slice A0 l0.length c0, .slice A1 l1.length c1] w fun e w' => e = .returned (.tuple #[.int .i64 r1, .int .i64 r2]) ∧ Drawn0 w w' := by
  have HR0 := Aside0.mk hr0
  have HC0 := Aside0.mk hc0
  clear hr0 hc0
  have HR1 := Aside0.mk hr1
  have HC1 := Aside0.mk hc1
  clear hr1 hc1
  have H : ((spec_l10Rows.f k l0).bind fun t589 => (if t589 = true then ((spec_l10Rows.f k l1).bind fun t590 => (spec_Moves.j0 k l0 l1 (!t590))) else (spec_Moves.j0 k l0 l1 true))) = some (r1, r2) := h
  clear h
  have HC3 := Aside0.mk H
  clear H
  go_enter Try.func57, Try.ntmps57
  go_upto_region 1 with (fail)
  repeat (go_quiet (fail); go_upto_region 1 with (fail))
  go_cut [16] (fun v16 wc => ∃ (kq : Nat) (x16_2 : Bool), v16 = .bool x16_2 ∧ Aside0 (spec_Moves.j0 kq l0 l1 x16_2 = some (r1, r2)) ∧ Aside0 (kq ≤ k) ∧ Drawn0 w wc)
  case first =>
    have H := HC3.out
    clear HC3
    replace H := Option.bind_eq_some_iff.mp H
    obtain ⟨t589, A40, H⟩ := H
    replace H : (if t589 = true then ((spec_l10Rows.f k l1).bind fun t590 => (spec_Moves.j0 k l0 l1 (!t590))) else (spec_Moves.j0 k l0 l1 true)) = some (r1, r2) := H
    have A4 := Aside0.mk A40
    clear A40
    by_cases c5 : t589 = true
    · subst c5
      have H1 : ((spec_l10Rows.f k l1).bind fun t590 => (spec_Moves.j0 k l0 l1 (!t590))) = some (r1, r2) := by rw [if_pos rfl] at H; exact H
      clear H
      have H := H1
      clear H1
      replace H := Option.bind_eq_some_iff.mp H
      obtain ⟨t590, A60, H⟩ := H
      replace H : (spec_Moves.j0 k l0 l1 (!t590)) = some (r1, r2) := H
      have A6 := Aside0.mk A60
      clear A60
      have H' := Aside0.mk H
      clear H
      go_wp2_with (first | (go_at_call 122; (with_reducible refine (spec_l10Rows.calls k _ _ l0 true _ ?side1 ?side2 A4.out).mono ?_); (case side1 => repeat (first | exact HR0.out | (with_reducible refine Kd.C_alloc ?_ _) | (with_reducible refine Kd.C_drewN ?_ _) | (with_reducible refine Kd.C_drew ?_))); (case side2 => exact HC0.out); rintro e w' ⟨rfl, ⟨nd, rfl⟩⟩; (try first | exact ⟨rfl, _, World.drewN_drewN _ _ _⟩ | exact ⟨rfl, _, Eq.trans (World.drewN_drewN _ _ _) (congrArg (World.drewN _) (Nat.add_assoc _ _ _))⟩)) | (go_at_call 122; (with_reducible refine (spec_l10Rows.calls k _ _ l1 t590 _ ?side1 ?side2 A6.out).mono ?_); (case side1 => repeat (first | exact HR1.out | (with_reducible refine Kd.C_alloc ?_ _) | (with_reducible refine Kd.C_drewN ?_ _) | (with_reducible refine Kd.C_drew ?_))); (case side2 => exact HC1.out); rintro e w' ⟨rfl, ⟨nd, rfl⟩⟩; (try first | exact ⟨rfl, _, World.drewN_drewN _ _ _⟩ | exact ⟨rfl, _, Eq.trans (World.drewN_drewN _ _ _) (congrArg (World.drewN _) (Nat.add_assoc _ _ _))⟩)))
      repeat (go_quiet (first | (go_at_call 122; (with_reducible refine (spec_l10Rows.calls k _ _ l0 true _ ?side1 ?side2 A4.out).mono ?_); (case side1 => repeat (first | exact HR0.out | (with_reducible refine Kd.C_alloc ?_ _) | (with_reducible refine Kd.C_drewN ?_ _) | (with_reducible refine Kd.C_drew ?_))); (case side2 => exact HC0.out); rintro e w' ⟨rfl, ⟨nd, rfl⟩⟩; (try first | exact ⟨rfl, _, World.drewN_drewN _ _ _⟩ | exact ⟨rfl, _, Eq.trans (World.drewN_drewN _ _ _) (congrArg (World.drewN _) (Nat.add_assoc _ _ _))⟩)) | (go_at_call 122; (with_reducible refine (spec_l10Rows.calls k _ _ l1 t590 _ ?side1 ?side2 A6.out).mono ?_); (case side1 => repeat (first | exact HR1.out | (with_reducible refine Kd.C_alloc ?_ _) | (with_reducible refine Kd.C_drewN ?_ _) | (with_reducible refine Kd.C_drew ?_))); (case side2 => exact HC1.out); rintro e w' ⟨rfl, ⟨nd, rfl⟩⟩; (try first | exact ⟨rfl, _, World.drewN_drewN _ _ _⟩ | exact ⟨rfl, _, Eq.trans (World.drewN_drewN _ _ _) (congrArg (World.drewN _) (Nat.add_assoc _ _ _))⟩))); try go_wp2_with (first | (go_at_call 122; (with_reducible refine (spec_l10Rows.calls k _ _ l0 true _ ?side1 ?side2 A4.out).mono ?_); (case side1 => repeat (first | exact HR0.out | (with_reducible refine Kd.C_alloc ?_ _) | (with_reducible refine Kd.C_drewN ?_ _) | (with_reducible refine Kd.C_drew ?_))); (case side2 => exact HC0.out); rintro e w' ⟨rfl, ⟨nd, rfl⟩⟩; (try first | exact ⟨rfl, _, World.drewN_drewN _ _ _⟩ | exact ⟨rfl, _, Eq.trans (World.drewN_drewN _ _ _) (congrArg (World.drewN _) (Nat.add_assoc _ _ _))⟩)) | (go_at_call 122; (with_reducible refine (spec_l10Rows.calls k _ _ l1 t590 _ ?side1 ?side2 A6.out).mono ?_); (case side1 => repeat (first | exact HR1.out | (with_reducible refine Kd.C_alloc ?_ _) | (with_reducible refine Kd.C_drewN ?_ _) | (with_reducible refine Kd.C_drew ?_))); (case side2 => exact HC1.out); rintro e w' ⟨rfl, ⟨nd, rfl⟩⟩; (try first | exact ⟨rfl, _, World.drewN_drewN _ _ _⟩ | exact ⟨rfl, _, Eq.trans (World.drewN_drewN _ _ _) (congrArg (World.drewN _) (Nat.add_assoc _ _ _))⟩))))
      go_meet
      case rel => exact ⟨_, (!t590), (by first | rfl | (simp; done) | (simp [*]; done)), H', ⟨by first | omega | exact Nat.le_refl _⟩, by repeat (first | exact Drawn0.refl _ | apply Drawn0.step)⟩
    · replace c5 := Bool.eq_false_iff.mpr c5
      subst c5
      have H1 : (spec_Moves.j0 k l0 l1 true) = some (r1, r2) := by rw [if_neg (show ¬ (false = true) by decide)] at H; exact H
      clear H
      have H := H1
      clear H1
      have H' := Aside0.mk H
      clear H
      go_wp2_with (first | (go_at_call 122; (with_reducible refine (spec_l10Rows.calls k _ _ l0 false _ ?side1 ?side2 A4.out).mono ?_); (case side1 => repeat (first | exact HR0.out | (with_reducible refine Kd.C_alloc ?_ _) | (with_reducible refine Kd.C_drewN ?_ _) | (with_reducible refine Kd.C_drew ?_))); (case side2 => exact HC0.out); rintro e w' ⟨rfl, ⟨nd, rfl⟩⟩; (try first | exact ⟨rfl, _, World.drewN_drewN _ _ _⟩ | exact ⟨rfl, _, Eq.trans (World.drewN_drewN _ _ _) (congrArg (World.drewN _) (Nat.add_assoc _ _ _))⟩)))
      repeat (go_quiet (first | (go_at_call 122; (with_reducible refine (spec_l10Rows.calls k _ _ l0 false _ ?side1 ?side2 A4.out).mono ?_); (case side1 => repeat (first | exact HR0.out | (with_reducible refine Kd.C_alloc ?_ _) | (with_reducible refine Kd.C_drewN ?_ _) | (with_reducible refine Kd.C_drew ?_))); (case side2 => exact HC0.out); rintro e w' ⟨rfl, ⟨nd, rfl⟩⟩; (try first | exact ⟨rfl, _, World.drewN_drewN _ _ _⟩ | exact ⟨rfl, _, Eq.trans (World.drewN_drewN _ _ _) (congrArg (World.drewN _) (Nat.add_assoc _ _ _))⟩))); try go_wp2_with (first | (go_at_call 122; (with_reducible refine (spec_l10Rows.calls k _ _ l0 false _ ?side1 ?side2 A4.out).mono ?_); (case side1 => repeat (first | exact HR0.out | (with_reducible refine Kd.C_alloc ?_ _) | (with_reducible refine Kd.C_drewN ?_ _) | (with_reducible refine Kd.C_drew ?_))); (case side2 => exact HC0.out); rintro e w' ⟨rfl, ⟨nd, rfl⟩⟩; (try first | exact ⟨rfl, _, World.drewN_drewN _ _ _⟩ | exact ⟨rfl, _, Eq.trans (World.drewN_drewN _ _ _) (congrArg (World.drewN _) (Nat.add_assoc _ _ _))⟩))))
      go_meet
      case rel => exact ⟨_, (true), (by first | rfl | (simp; done) | (simp [*]; done)), H', ⟨by first | omega | exact Nat.le_refl _⟩, by repeat (first | exact Drawn0.refl _ | apply Drawn0.step)⟩
  case rest =>
    clear HC3
    try clear c1
    try clear p2
    try clear c5
    obtain ⟨kq, x16_2, rfl, HA, HJ2, ⟨mc2, rfl⟩⟩ := hcut
    cases kq with
    | zero => exact absurd HA.out (by simp [spec_Moves.j0])
    | succ kj2 =>
      have H := HA.out
      clear HA
      simp only [spec_Moves.j0] at H
      by_cases c7 : x16_2 = true
      · subst c7
        have H1 : (some (0, 1)) = some (r1, r2) := by rw [if_pos rfl] at H; exact H
        clear H
        have H := H1
        clear H1
        simp only [Option.some.injEq, Prod.mk.injEq] at H
        obtain ⟨rfl, rfl⟩ := H
        go_wp2
        repeat (go_quiet (fail); try go_wp2)
        go_ret2
        exact ⟨by first | rfl | (simp; done) | (simp [*]; done), by repeat (first | exact Drawn0.refl _ | apply Drawn0.step)⟩
      · replace c7 := Bool.eq_false_iff.mpr c7
        subst c7
        have H1 : (if (l0.length : Int) = (l1.length : Int) then (if (l0.length : Int) > 0 then (if 0 < (l0.length : Int) then (if 0 < (l1.length : Int) then (spec_Moves.j1 kj2 l0 l1 (((rd_L5 l0 0).length : Int) != ((rd_L5 l1 0).length : Int))) else (none)) else (none)) else (spec_Moves.j1 kj2 l0 l1 false)) else (spec_Moves.j1 kj2 l0 l1 true)) = some (r1, r2) := by rw [if_neg (show ¬ (false = true) by decide)] at H; exact H
        clear H
        have H := H1
        clear H1
        have HC8 := Aside0.mk H
        clear H
        go_upto_region 3 with (fail)
        repeat (go_quiet (fail); go_upto_region 3 with (fail))
        go_cut [37] (fun v37 wc => ∃ (kq : Nat) (x37_7 : Bool), v37 = .bool x37_7 ∧ Aside0 (spec_Moves.j1 kq l0 l1 x37_7 = some (r1, r2)) ∧ Aside0 (kq ≤ kj2) ∧ Drawn0 w wc)
        case first =>
          have H := HC8.out
          clear HC8
          by_cases c9 : (l0.length : Int) = (l1.length : Int)
          · rw [if_pos c9] at H
            have c9b0 : ((l0.length : Int) == (l1.length : Int)) = true := beq_iff_eq.mpr c9
            have c9b1 : ((l0.length : Int) != (l1.length : Int)) = false := bne_eq_false_iff_eq.mpr c9
            have c9b2 : (l0.length == l1.length) = true := by first | simpa using c9 | (simp at c9 ⊢; omega)
            clear c9
            (first | rw [c9b0] | (simp only [i64_w, i32_w]; rw [c9b0]) | skip)
            by_cases c10 : (l0.length : Int) > 0
            · rw [if_pos c10] at H
              have c10b0 : decide (0 < (l0.length : Int)) = true := decide_eq_true c10
              have c10b1 : decide (0 < l0.length) = true := decide_eq_true (by omega)
              clear c10
              by_cases c11 : 0 < (l0.length : Int)
              · rw [if_pos c11] at H
                have c11b0 : decide (0 < (l0.length : Int)) = true := decide_eq_true c11
                have c11b1 : decide (0 < l0.length) = true := decide_eq_true (by omega)
                clear c11
                by_cases c12 : 0 < (l1.length : Int)
                · rw [if_pos c12] at H
                  have c12b0 : decide (0 < (l1.length : Int)) = true := decide_eq_true c12
                  have c12b1 : decide (0 < l1.length) = true := decide_eq_true (by omega)
                  clear c12
                  have H' := Aside0.mk H
                  clear H
                  have p591 : 0 ≤ (0 : Int) := (by omega)
                  have q591 : 0 < (l0.length : Int) := of_decide_eq_true (by first | (with_reducible assumption) | assumption)
                  obtain ⟨ad591, A591_0, c591_0, e591, hx591_0, hl591_0, hi591_0⟩ := at_L5 HR0.out 0 p591 q591
                  cases e591
                  have qi591 : (0 < l0.length) = True := eq_true (by omega)
                  (try rw [show ((0 : Int)).toNat = 0 from rfl] at hx591_0)
                  (try rw [Addr.add_zero'] at hx591_0)
                  have HR591_0 := Aside0.mk hi591_0
                  have HC591_0 := Aside0.mk hl591_0
                  clear hi591_0 hl591_0
                  replace p591 := eq_true p591
                  replace q591 := eq_true q591
                  have p592 : 0 ≤ (0 : Int) := (by omega)
                  have q592 : 0 < (l1.length : Int) := of_decide_eq_true (by first | (with_reducible assumption) | assumption)
                  obtain ⟨ad592, A592_0, c592_0, e592, hx592_0, hl592_0, hi592_0⟩ := at_L5 HR1.out 0 p592 q592
                  cases e592
                  have qi592 : (0 < l1.length) = True := eq_true (by omega)
                  (try rw [show ((0 : Int)).toNat = 0 from rfl] at hx592_0)
                  (try rw [Addr.add_zero'] at hx592_0)
                  have HR592_0 := Aside0.mk hi592_0
                  have HC592_0 := Aside0.mk hl592_0
                  clear hi592_0 hl592_0
                  replace p592 := eq_true p592
                  replace q592 := eq_true q592
                  go_wp2
                  repeat (go_quiet (fail); try go_wp2)
                  go_meet
                  case rel => exact ⟨_, ((((rd_L5 l0 0).length : Int) != ((rd_L5 l1 0).length : Int))), (by first | rfl | (simp; done) | (simp [*]; done)), H', ⟨by have := HJ2.out; first | omega | exact Nat.le_refl _⟩, by repeat (first | exact Drawn0.refl _ | apply Drawn0.step)⟩
                · rw [if_neg c12] at H
                  exact absurd H (by simp)
              · rw [if_neg c11] at H
                exact absurd H (by simp)
            · rw [if_neg c10] at H
              have c10b0 : decide (0 < (l0.length : Int)) = false := decide_eq_false c10
              have c10b1 : decide (0 < l0.length) = false := decide_eq_false (by omega)
              clear c10
              have H' := Aside0.mk H
              clear H
              go_wp2
              repeat (go_quiet (fail); try go_wp2)
              go_meet
              case rel => exact ⟨_, (false), (by first | rfl | (simp; done) | (simp [*]; done)), H', ⟨by have := HJ2.out; first | omega | exact Nat.le_refl _⟩, by repeat (first | exact Drawn0.refl _ | apply Drawn0.step)⟩
          · rw [if_neg c9] at H
            have c9b0 : ((l0.length : Int) == (l1.length : Int)) = false := beq_eq_false_iff_ne.mpr c9
            have c9b1 : ((l0.length : Int) != (l1.length : Int)) = true := bne_iff_ne.mpr c9
            have c9b2 : (l0.length == l1.length) = false := by first | simpa using c9 | (simp at c9 ⊢; omega)
            (first | rw [c9b0] | (simp only [i64_w, i32_w]; rw [c9b0]) | skip)
            have H' := Aside0.mk H
            clear H
            go_wp2
            repeat (go_quiet (fail); try go_wp2)
            go_meet
            case rel => exact ⟨_, (true), (by first | rfl | (simp; done) | (simp [*]; done)), H', ⟨by have := HJ2.out; first | omega | exact Nat.le_refl _⟩, by repeat (first | exact Drawn0.refl _ | apply Drawn0.step)⟩
        case rest =>
          clear HC8
          try clear c1
          try clear c2
          try clear p2
          try clear c5
          try clear p5
          try clear q5
          try clear hx5
          try clear qi5
          try clear c7
          try clear c9
          try clear c9b0
          try clear c9b1
          try clear c9b2
          try clear c10
          try clear c10b0
          try clear c10b1
          try clear c11
          try clear c11b0
          try clear c11b1
          try clear c12
          try clear c12b0
          try clear c12b1
          try clear hx591_0
          try clear hx592_0
          try clear p2
          try clear p591
          try clear p592
          try clear q591
          try clear q592
          obtain ⟨kq, x37_7, rfl, HA, HJ7, ⟨mc7, rfl⟩⟩ := hcut
          cases kq with
          | zero => exact absurd HA.out (by simp [spec_Moves.j1])
          | succ kj7 =>
            have H := HA.out
            clear HA
            simp only [spec_Moves.j1] at H
            by_cases c13 : x37_7 = true
            · subst c13
              have H1 : (some (0, 2)) = some (r1, r2) := by rw [if_pos rfl] at H; exact H
              clear H
              have H := H1
              clear H1
              simp only [Option.some.injEq, Prod.mk.injEq] at H
              obtain ⟨rfl, rfl⟩ := H
              go_wp2
              repeat (go_quiet (fail); try go_wp2)
              go_ret2
              exact ⟨by first | rfl | (simp; done) | (simp [*]; done), by repeat (first | exact Drawn0.refl _ | apply Drawn0.step)⟩
            · replace c13 := Bool.eq_false_iff.mpr c13
              subst c13
              have H1 : (spec_Moves.l0 kj7 l0 l1 0 0) = some (r1, r2) := by rw [if_neg (show ¬ (false = true) by decide)] at H; exact H
              clear H
              have H := H1
              clear H1
              have H' := Aside0.mk H
              clear H
              go_wp2
              repeat (go_quiet (fail); try go_wp2)
              go_loopg [6, 7] kj7 (fun kq v6 v7 w' => ∃ (x6_3 : Int) (x7_3 : Int), v6 = .int .i64 x6_3 ∧ v7 = .int .i64 x7_3 ∧ Aside0 (spec_Moves.l0 kq l0 l1 x6_3 x7_3 = some (r1, r2)) ∧ Aside0 (kq ≤ kj7) ∧ Drawn0 w w')
              case atStart => exact ⟨(0), (0), (by first | rfl | (simp; done) | (simp [*]; done)), (by first | rfl | (simp; done) | (simp [*]; done)), H', ⟨Nat.le_refl _⟩, by repeat (first | exact Drawn0.refl _ | apply Drawn0.step)⟩
              case round =>
                clear H'
                try clear c1
                try clear c2
                try clear p2
                try clear c5
                try clear p5
                try clear q5
                try clear hx5
                try clear qi5
                try clear c7
                try clear c9
                try clear c9b0
                try clear c9b1
                try clear c9b2
                try clear c10
                try clear c10b0
                try clear c10b1
                try clear c11
                try clear c11b0
                try clear c11b1
                try clear c12
                try clear c12b0
                try clear c12b1
                try clear c13
                try clear hx591_0
                try clear hx592_0
                try clear p2
                try clear p5
                try clear p591
                try clear p592
                try clear q5
                try clear q591
                try clear q592
                obtain ⟨x6_3, x7_3, rfl, rfl, HA, HK3, ⟨m3, rfl⟩⟩ := hrel
                cases gk with
                | zero => exact absurd HA.out (by simp [spec_Moves.l0])
                | succ k3 =>
                  have H := HA.out
                  clear HA
                  simp only [spec_Moves.l0] at H
                  by_cases c14 : x7_3 < (l0.length : Int)
                  · rw [if_pos c14] at H
                    have c14b0 : decide (x7_3 < (l0.length : Int)) = true := decide_eq_true c14
                    clear c14
                    have H' := Aside0.mk H
                    clear H
                    go_wp2
                    repeat (go_quiet (fail); try go_wp2)
                    go_loopg [6, 8] k3 (fun kq v6 v8 w' => ∃ (x6_4 : Int) (x8_4 : Int), v6 = .int .i64 x6_4 ∧ v8 = .int .i64 x8_4 ∧ Aside0 (spec_Moves.l1 kq l0 l1 x6_4 x7_3 x8_4 = some (r1, r2)) ∧ Aside0 (kq ≤ k3) ∧ Drawn0 w w')
                    case atStart => exact ⟨(x6_3), (0), (by first | rfl | (simp; done) | (simp [*]; done)), (by first | rfl | (simp; done) | (simp [*]; done)), H', ⟨Nat.le_refl _⟩, by repeat (first | exact Drawn0.refl _ | apply Drawn0.step)⟩
                    case round =>
                      clear H'
                      try clear c1
                      try clear c2
                      try clear p2
                      try clear c5
                      try clear p5
                      try clear q5
                      try clear hx5
                      try clear qi5
                      try clear c7
                      try clear c9
                      try clear c9b0
                      try clear c9b1
                      try clear c9b2
                      try clear c10
                      try clear c10b0
                      try clear c10b1
                      try clear c11
                      try clear c11b0
                      try clear c11b1
                      try clear c12
                      try clear c12b0
                      try clear c12b1
                      try clear c13
                      try clear c14
                      try clear c14b0
                      try clear hx591_0
                      try clear hx592_0
                      try clear p2
                      try clear p5
                      try clear p591
                      try clear p592
                      try clear q5
                      try clear q591
                      try clear q592
                      obtain ⟨x6_4, x8_4, rfl, rfl, HA, HK4, ⟨m4, rfl⟩⟩ := hrel
                      cases gk with
                      | zero => exact absurd HA.out (by simp [spec_Moves.l1])
                      | succ k4 =>
                        have H := HA.out
                        clear HA
                        simp only [spec_Moves.l1] at H
                        by_cases c15 : 0 ≤ x7_3
                        · rw [if_pos c15] at H
                          have c15b0 : decide (0 ≤ x7_3) = true := decide_eq_true c15
                          clear c15
                          by_cases c16 : x7_3 < (l0.length : Int)
                          · rw [if_pos c16] at H
                            have c16b0 : decide (x7_3 < (l0.length : Int)) = true := decide_eq_true c16
                            clear c16
                            by_cases c17 : x8_4 < ((rd_L5 l0 x7_3).length : Int)
                            · rw [if_pos c17] at H
                              have c17b0 : decide (x8_4 < ((rd_L5 l0 x7_3).length : Int)) = true := decide_eq_true c17
                              clear c17
                              by_cases c18 : 0 ≤ x8_4
                              · rw [if_pos c18] at H
                                have c18b0 : decide (0 ≤ x8_4) = true := decide_eq_true c18
                                clear c18
                                by_cases c19 : x7_3 < (l1.length : Int)
                                · rw [if_pos c19] at H
                                  have c19b0 : decide (x7_3 < (l1.length : Int)) = true := decide_eq_true c19
                                  clear c19
                                  by_cases c20 : x8_4 < ((rd_L5 l1 x7_3).length : Int)
                                  · rw [if_pos c20] at H
                                    have c20b0 : decide (x8_4 < ((rd_L5 l1 x7_3).length : Int)) = true := decide_eq_true c20
                                    clear c20
                                    by_cases c21 : (rd (rd_L5 l0 x7_3) x8_4) = (rd (rd_L5 l1 x7_3) x8_4)
                                    · rw [if_pos c21] at H
                                      have c21b0 : ((rd (rd_L5 l0 x7_3) x8_4) == (rd (rd_L5 l1 x7_3) x8_4)) = true := beq_iff_eq.mpr c21
                                      have c21b1 : ((rd (rd_L5 l0 x7_3) x8_4) != (rd (rd_L5 l1 x7_3) x8_4)) = false := bne_eq_false_iff_eq.mpr c21
                                      clear c21
                                      have H' := Aside0.mk H
                                      clear H
                                      have p593 : 0 ≤ (x7_3 : Int) := of_decide_eq_true (by first | (with_reducible assumption) | assumption)
                                      have q593 : x7_3 < (l0.length : Int) := of_decide_eq_true (by first | (with_reducible assumption) | assumption)
                                      obtain ⟨ad593, A593_0, c593_0, e593, hx593_0, hl593_0, hi593_0⟩ := at_L5 HR0.out x7_3 p593 q593
                                      cases e593
                                      have HR593_0 := Aside0.mk hi593_0
                                      have HC593_0 := Aside0.mk hl593_0
                                      clear hi593_0 hl593_0
                                      replace p593 := eq_true p593
                                      replace q593 := eq_true q593
                                      have p594 : 0 ≤ (x7_3 : Int) := of_decide_eq_true (by first | (with_reducible assumption) | assumption)
                                      have q594 : x7_3 < (l0.length : Int) := of_decide_eq_true (by first | (with_reducible assumption) | assumption)
                                      obtain ⟨ad594, A594_0, c594_0, e594, hx594_0, hl594_0, hi594_0⟩ := at_L5 HR0.out x7_3 p594 q594
                                      obtain rfl : ad593 = ad594 := (by injection e594)
                                      have HR594_0 := Aside0.mk hi594_0
                                      have HC594_0 := Aside0.mk hl594_0
                                      clear hi594_0 hl594_0
                                      replace p594 := eq_true p594
                                      replace q594 := eq_true q594
                                      have ea_ := Option.some.inj (hx593_0.symm.trans hx594_0)
                                      injection ea_ with ea_ en_ ec_
                                      subst ea_
                                      subst ec_
                                      clear en_
                                      have p595 : 0 ≤ (x8_4 : Int) := of_decide_eq_true (by first | (with_reducible assumption) | assumption)
                                      have q595 : x8_4 < ((rd_L5 l0 x7_3).length : Int) := of_decide_eq_true (by first | (with_reducible assumption) | assumption)
                                      obtain ⟨ad595, e595, hx595_0⟩ := Kd.at_int HR594_0.out x8_4 p595 q595
                                      cases e595
                                      replace p595 := eq_true p595
                                      replace q595 := eq_true q595
                                      have p596 : 0 ≤ (x7_3 : Int) := of_decide_eq_true (by first | (with_reducible assumption) | assumption)
                                      have q596 : x7_3 < (l1.length : Int) := of_decide_eq_true (by first | (with_reducible assumption) | assumption)
                                      obtain ⟨ad596, A596_0, c596_0, e596, hx596_0, hl596_0, hi596_0⟩ := at_L5 HR1.out x7_3 p596 q596
                                      cases e596
                                      have HR596_0 := Aside0.mk hi596_0
                                      have HC596_0 := Aside0.mk hl596_0
                                      clear hi596_0 hl596_0
                                      replace p596 := eq_true p596
                                      replace q596 := eq_true q596
                                      have p597 : 0 ≤ (x8_4 : Int) := of_decide_eq_true (by first | (with_reducible assumption) | assumption)
                                      have q597 : x8_4 < ((rd_L5 l1 x7_3).length : Int) := of_decide_eq_true (by first | (with_reducible assumption) | assumption)
                                      obtain ⟨ad597, e597, hx597_0⟩ := Kd.at_int HR596_0.out x8_4 p597 q597
                                      cases e597
                                      replace p597 := eq_true p597
                                      replace q597 := eq_true q597
                                      go_wp2
                                      repeat (go_quiet (fail); try go_wp2)
                                      go_roundg k4
                                      case measure => have := HJ2.out; have := HJ7.out; have := HK3.out; have := HK4.out; omega
                                      case rel => exact ⟨(x6_4), (wrap64 (x8_4 + 1)), (by first | rfl | (simp; done) | (simp [*]; done)), (by first | rfl | (simp; done) | (simp [*]; done)), H', ⟨by have := HJ2.out; have := HJ7.out; have := HK3.out; have := HK4.out; omega⟩, by repeat (first | exact Drawn0.refl _ | apply Drawn0.step)⟩
                                    · rw [if_neg c21] at H
                                      have c21b0 : ((rd (rd_L5 l0 x7_3) x8_4) == (rd (rd_L5 l1 x7_3) x8_4)) = false := beq_eq_false_iff_ne.mpr c21
                                      have c21b1 : ((rd (rd_L5 l0 x7_3) x8_4) != (rd (rd_L5 l1 x7_3) x8_4)) = true := bne_iff_ne.mpr c21
                                      have H' := Aside0.mk H
                                      clear H
                                      have p593 : 0 ≤ (x7_3 : Int) := of_decide_eq_true (by first | (with_reducible assumption) | assumption)
                                      have q593 : x7_3 < (l0.length : Int) := of_decide_eq_true (by first | (with_reducible assumption) | assumption)
                                      obtain ⟨ad593, A593_0, c593_0, e593, hx593_0, hl593_0, hi593_0⟩ := at_L5 HR0.out x7_3 p593 q593
                                      cases e593
                                      have HR593_0 := Aside0.mk hi593_0
                                      have HC593_0 := Aside0.mk hl593_0
                                      clear hi593_0 hl593_0
                                      replace p593 := eq_true p593
                                      replace q593 := eq_true q593
                                      have p594 : 0 ≤ (x7_3 : Int) := of_decide_eq_true (by first | (with_reducible assumption) | assumption)
                                      have q594 : x7_3 < (l0.length : Int) := of_decide_eq_true (by first | (with_reducible assumption) | assumption)
                                      obtain ⟨ad594, A594_0, c594_0, e594, hx594_0, hl594_0, hi594_0⟩ := at_L5 HR0.out x7_3 p594 q594
                                      obtain rfl : ad593 = ad594 := (by injection e594)
                                      have HR594_0 := Aside0.mk hi594_0
                                      have HC594_0 := Aside0.mk hl594_0
                                      clear hi594_0 hl594_0
                                      replace p594 := eq_true p594
                                      replace q594 := eq_true q594
                                      have ea_ := Option.some.inj (hx593_0.symm.trans hx594_0)
                                      injection ea_ with ea_ en_ ec_
                                      subst ea_
                                      subst ec_
                                      clear en_
                                      have p595 : 0 ≤ (x8_4 : Int) := of_decide_eq_true (by first | (with_reducible assumption) | assumption)
                                      have q595 : x8_4 < ((rd_L5 l0 x7_3).length : Int) := of_decide_eq_true (by first | (with_reducible assumption) | assumption)
                                      obtain ⟨ad595, e595, hx595_0⟩ := Kd.at_int HR594_0.out x8_4 p595 q595
                                      cases e595
                                      replace p595 := eq_true p595
                                      replace q595 := eq_true q595
                                      have p596 : 0 ≤ (x7_3 : Int) := of_decide_eq_true (by first | (with_reducible assumption) | assumption)
                                      have q596 : x7_3 < (l1.length : Int) := of_decide_eq_true (by first | (with_reducible assumption) | assumption)
                                      obtain ⟨ad596, A596_0, c596_0, e596, hx596_0, hl596_0, hi596_0⟩ := at_L5 HR1.out x7_3 p596 q596
                                      cases e596
                                      have HR596_0 := Aside0.mk hi596_0
                                      have HC596_0 := Aside0.mk hl596_0
                                      clear hi596_0 hl596_0
                                      replace p596 := eq_true p596
                                      replace q596 := eq_true q596
                                      have p597 : 0 ≤ (x8_4 : Int) := of_decide_eq_true (by first | (with_reducible assumption) | assumption)
                                      have q597 : x8_4 < ((rd_L5 l1 x7_3).length : Int) := of_decide_eq_true (by first | (with_reducible assumption) | assumption)
                                      obtain ⟨ad597, e597, hx597_0⟩ := Kd.at_int HR596_0.out x8_4 p597 q597
                                      cases e597
                                      replace p597 := eq_true p597
                                      replace q597 := eq_true q597
                                      go_wp2
                                      repeat (go_quiet (fail); try go_wp2)
                                      go_roundg k4
                                      case measure => have := HJ2.out; have := HJ7.out; have := HK3.out; have := HK4.out; omega
                                      case rel => exact ⟨(wrap64 (x6_4 + 1)), (wrap64 (x8_4 + 1)), (by first | rfl | (simp; done) | (simp [*]; done)), (by first | rfl | (simp; done) | (simp [*]; done)), H', ⟨by have := HJ2.out; have := HJ7.out; have := HK3.out; have := HK4.out; omega⟩, by repeat (first | exact Drawn0.refl _ | apply Drawn0.step)⟩
                                  · rw [if_neg c20] at H
                                    exact absurd H (by simp)
                                · rw [if_neg c19] at H
                                  exact absurd H (by simp)
                              · rw [if_neg c18] at H
                                exact absurd H (by simp)
                            · rw [if_neg c17] at H
                              have c17b0 : decide (x8_4 < ((rd_L5 l0 x7_3).length : Int)) = false := decide_eq_false c17
                              clear c17
                              have H' := Aside0.mk H
                              clear H
                              have p593 : 0 ≤ (x7_3 : Int) := of_decide_eq_true (by first | (with_reducible assumption) | assumption)
                              have q593 : x7_3 < (l0.length : Int) := of_decide_eq_true (by first | (with_reducible assumption) | assumption)
                              obtain ⟨ad593, A593_0, c593_0, e593, hx593_0, hl593_0, hi593_0⟩ := at_L5 HR0.out x7_3 p593 q593
                              cases e593
                              have HR593_0 := Aside0.mk hi593_0
                              have HC593_0 := Aside0.mk hl593_0
                              clear hi593_0 hl593_0
                              replace p593 := eq_true p593
                              replace q593 := eq_true q593
                              go_wp2
                              repeat (go_quiet (fail); try go_wp2)
                              go_roundg k4
                              case measure => have := HJ2.out; have := HJ7.out; have := HK3.out; have := HK4.out; omega
                              case rel => exact ⟨(x6_4), (wrap64 (x7_3 + 1)), (by first | rfl | (simp; done) | (simp [*]; done)), (by first | rfl | (simp; done) | (simp [*]; done)), H', ⟨by have := HJ2.out; have := HJ7.out; have := HK3.out; have := HK4.out; omega⟩, by repeat (first | exact Drawn0.refl _ | apply Drawn0.step)⟩
                          · rw [if_neg c16] at H
                            exact absurd H (by simp)
                        · rw [if_neg c15] at H
                          exact absurd H (by simp)
                  · rw [if_neg c14] at H
                    have c14b0 : decide (x7_3 < (l0.length : Int)) = false := decide_eq_false c14
                    clear c14
                    simp only [Option.some.injEq, Prod.mk.injEq] at H
                    obtain ⟨rfl, rfl⟩ := H
                    go_wp2
                    repeat (go_quiet (fail); try go_wp2)
                    go_ret2
                    exact ⟨by first | rfl | (simp; done) | (simp [*]; done), by repeat (first | exact Drawn0.refl _ | apply Drawn0.step)⟩

end Go.Proofs.Ytlocignlkigojaa.Q
