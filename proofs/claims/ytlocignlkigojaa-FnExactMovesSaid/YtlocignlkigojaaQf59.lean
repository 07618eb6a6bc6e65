/- Walks of the Go functions that the laws call: each returns what a plain Lean function says. Written by a program for these claims. -/
import Derived.Test.YtlocignlkigojaaQ0
import Derived.Test.YtlocignlkigojaaQf123
namespace Go.Proofs.Ytlocignlkigojaa.Q
open Go.RowKit Go.Proofs.YtlocignlkigojaaW.PrintWords Go.Proofs.YtlocignlkigojaaW.PrintLast Go.Proofs.YtlocignlkigojaaW.PrintMore
attribute [local go_sem] max2_int min2_int max_two min_two max_three min_three max_four min_four   -- for this text's walks alone
set_option linter.unusedVariables false
set_option linter.unusedSimpArgs false

/-! ### impl_Moves: function 59 -/
mutual
def impl_Moves.j1 : Nat → List (List Int) → List (List Int) → Option (Int × Int)
  | 0, _, _ => none
  | k + 1, x0, x1 => impl_Moves.l0 k x1 0 x0 (x0.length : Int) 0
def impl_Moves.l0 : Nat → List (List Int) → Int → List (List Int) → Int → Int → Option (Int × Int)
  | 0, _, _, _, _, _ => none
  | k + 1, x1, x6, x42, x43, x44 => if x44 < x43 then (if 0 ≤ x44 then (if x44 < (x42.length : Int) then (impl_Moves.l1 k x1 x6 x44 x42 x43 x44 (rd_L5 x42 x44) ((rd_L5 x42 x44).length : Int) 0) else (none)) else (none)) else (some (x6, 0))
def impl_Moves.l1 : Nat → List (List Int) → Int → Int → List (List Int) → Int → Int → List Int → Int → Int → Option (Int × Int)
  | 0, _, _, _, _, _, _, _, _, _ => none
  | k + 1, x1, x6, x7, x42, x43, x44, x49, x50, x51 => if x51 < x50 then (if 0 ≤ x51 then (if x51 < (x49.length : Int) then (if 0 ≤ x7 then (if x7 < (x1.length : Int) then (if x51 < ((rd_L5 x1 x7).length : Int) then (if (rd (rd_L5 x1 x7) x51) = (rd x49 x51) then (impl_Moves.l1 k x1 x6 x7 x42 x43 x44 x49 x50 (wrap64 (x51 + 1))) else (impl_Moves.l1 k x1 (wrap64 (x6 + 1)) x7 x42 x43 x44 x49 x50 (wrap64 (x51 + 1)))) else (none)) else (none)) else (none)) else (none)) else (none)) else (impl_Moves.l0 k x1 x6 x42 x43 (wrap64 (x44 + 1)))
def impl_Moves.j0 : Nat → List (List Int) → List (List Int) → Bool → Option (Int × Int)
  | 0, _, _, _ => none
  | k + 1, x0, x1, x11 => if x11 = true then (some (0, 1)) else (if (x0.length : Int) = (x1.length : Int) then (if (x0.length : Int) > 0 then (if 0 < (x0.length : Int) then (if 0 < (x1.length : Int) then (if ((rd_L5 x0 0).length : Int) = ((rd_L5 x1 0).length : Int) then (impl_Moves.j1 k x0 x1) else (some (0, 2))) else (none)) else (none)) else (impl_Moves.j1 k x0 x1)) else (some (0, 2)))
end
def impl_Moves.f (k : Nat) (l0 : List (List Int)) (l1 : List (List Int)) : Option (Int × Int) := (impl_tableOk.f l0).bind fun t606 => (if t606 = true then ((impl_tableOk.f l1).bind fun t607 => (impl_Moves.j0 k l0 l1 (!t607))) else (impl_Moves.j0 k l0 l1 true))
theorem impl_Moves.mono_l : ∀ k, (∀ y0 y1, LeO (impl_Moves.j1 k y0 y1) (impl_Moves.j1 (k + 1) y0 y1)) ∧ (∀ y0 y1 y2 y3 y4, LeO (impl_Moves.l0 k y0 y1 y2 y3 y4) (impl_Moves.l0 (k + 1) y0 y1 y2 y3 y4)) ∧ (∀ y0 y1 y2 y3 y4 y5 y6 y7 y8, LeO (impl_Moves.l1 k y0 y1 y2 y3 y4 y5 y6 y7 y8) (impl_Moves.l1 (k + 1) y0 y1 y2 y3 y4 y5 y6 y7 y8)) ∧ (∀ y0 y1 y2, LeO (impl_Moves.j0 k y0 y1 y2) (impl_Moves.j0 (k + 1) y0 y1 y2))
  | 0 => ⟨fun _ _ r h => by simp [impl_Moves.j1] at h, fun _ _ _ _ _ r h => by simp [impl_Moves.l0] at h, fun _ _ _ _ _ _ _ _ _ r h => by simp [impl_Moves.l1] at h, fun _ _ _ r h => by simp [impl_Moves.j0] at h⟩
  | k + 1 => by
    obtain ⟨ih0, ih1, ih2, ih3⟩ := impl_Moves.mono_l k
    refine ⟨?_, ?_, ?_, ?_⟩
    · intro y0 y1
      unfold impl_Moves.j1
      repeat' first
      | (with_reducible exact ih0 _ _)
      | (with_reducible exact ih1 _ _ _ _ _)
      | (with_reducible exact ih2 _ _ _ _ _ _ _ _ _)
      | (with_reducible exact ih3 _ _ _)
      | (with_reducible exact LeO.refl _)
      | (with_reducible exact LeO.none _)
      | (with_reducible refine LeO.ite ?_ ?_)
      | (with_reducible refine LeO.bind ?_ (fun _ => ?_))
      | exact ih0 _ _
      | exact ih1 _ _ _ _ _
      | exact ih2 _ _ _ _ _ _ _ _ _
      | exact ih3 _ _ _
      | exact LeO.none _
      | refine LeO.ite ?_ ?_
      | refine LeO.bind ?_ (fun _ => ?_)
    · intro y0 y1 y2 y3 y4
      unfold impl_Moves.l0
      repeat' first
      | (with_reducible exact ih0 _ _)
      | (with_reducible exact ih1 _ _ _ _ _)
      | (with_reducible exact ih2 _ _ _ _ _ _ _ _ _)
      | (with_reducible exact ih3 _ _ _)
      | (with_reducible exact LeO.refl _)
      | (with_reducible exact LeO.none _)
      | (with_reducible refine LeO.ite ?_ ?_)
      | (with_reducible refine LeO.bind ?_ (fun _ => ?_))
      | exact ih0 _ _
      | exact ih1 _ _ _ _ _
      | exact ih2 _ _ _ _ _ _ _ _ _
      | exact ih3 _ _ _
      | exact LeO.none _
      | refine LeO.ite ?_ ?_
      | refine LeO.bind ?_ (fun _ => ?_)
    · intro y0 y1 y2 y3 y4 y5 y6 y7 y8
      unfold impl_Moves.l1
      repeat' first
      | (with_reducible exact ih0 _ _)
      | (with_reducible exact ih1 _ _ _ _ _)
      | (with_reducible exact ih2 _ _ _ _ _ _ _ _ _)
      | (with_reducible exact ih3 _ _ _)
      | (with_reducible exact LeO.refl _)
      | (with_reducible exact LeO.none _)
      | (with_reducible refine LeO.ite ?_ ?_)
      | (with_reducible refine LeO.bind ?_ (fun _ => ?_))
      | exact ih0 _ _
      | exact ih1 _ _ _ _ _
      | exact ih2 _ _ _ _ _ _ _ _ _
      | exact ih3 _ _ _
      | exact LeO.none _
      | refine LeO.ite ?_ ?_
      | refine LeO.bind ?_ (fun _ => ?_)
    · intro y0 y1 y2
      unfold impl_Moves.j0
      repeat' first
      | (with_reducible exact ih0 _ _)
      | (with_reducible exact ih1 _ _ _ _ _)
      | (with_reducible exact ih2 _ _ _ _ _ _ _ _ _)
      | (with_reducible exact ih3 _ _ _)
      | (with_reducible exact LeO.refl _)
      | (with_reducible exact LeO.none _)
      | (with_reducible refine LeO.ite ?_ ?_)
      | (with_reducible refine LeO.bind ?_ (fun _ => ?_))
      | exact ih0 _ _
      | exact ih1 _ _ _ _ _
      | exact ih2 _ _ _ _ _ _ _ _ _
      | exact ih3 _ _ _
      | exact LeO.none _
      | refine LeO.ite ?_ ?_
      | refine LeO.bind ?_ (fun _ => ?_)
theorem impl_Moves.mono : ∀ a0 a1 k, LeO (impl_Moves.f k a0 a1) (impl_Moves.f (k + 1) a0 a1) := by
  intro a0 a1 k
  obtain ⟨ih0, ih1, ih2, ih3⟩ := impl_Moves.mono_l k
  unfold impl_Moves.f
  repeat' first
      | (with_reducible exact ih0 _ _)
      | (with_reducible exact ih1 _ _ _ _ _)
      | (with_reducible exact ih2 _ _ _ _ _ _ _ _ _)
      | (with_reducible exact ih3 _ _ _)
      | (with_reducible exact LeO.refl _)
      | (with_reducible exact LeO.none _)
      | (with_reducible refine LeO.ite ?_ ?_)
      | (with_reducible refine LeO.bind ?_ (fun _ => ?_))
      | exact ih0 _ _
      | exact ih1 _ _ _ _ _
      | exact ih2 _ _ _ _ _ _ _ _ _
      | exact ih3 _ _ _
      | exact LeO.none _
      | refine LeO.ite ?_ ?_
      | refine LeO.bind ?_ (fun _ => ?_)
set_option maxHeartbeats 8000000 in
set_option maxRecDepth 100000 in
theorem impl_Moves.calls (k : Nat) (A0 : Option Addr) (c0 : Nat) (l0 : List (List Int)) (A1 : Option Addr) (c1 : Nat) (l1 : List (List Int)) (r1 : Int) (r2 : Int) (w : World) (hr0 : Kd.C (Kd.slice 2 (Kd.int .i64)) w A0 l0.length l0) (hc0 : l0.length ≤ c0) (hr1 : Kd.C (Kd.slice 2 (Kd.int .i64)) w A1 l1.length l1) (hc1 : l1.length ≤ c1) (h : impl_Moves.f k l0 l1 = some (r1, r2)) :
    Calls Try.prog 59 #[.slice A0 l0.length c0, .slice A1 l1.length c1] w fun e w' => e = .returned (.tuple #[.int .i64 r1, .int .i64 r2]) ∧ Below w.heap.size w w' := by
  have HR0 := Aside0.mk hr0
  have HC0 := Aside0.mk hc0
  clear hr0 hc0
  have HR1 := Aside0.mk hr1
  have HC1 := Aside0.mk hc1
  clear hr1 hc1
  have HB := Aside0.mk (Below.refl w.heap.size w)
  have H : ((impl_tableOk.f l0).bind fun t606 => (if t606 = true then ((impl_tableOk.f l1).bind fun t607 => (impl_Moves.j0 k l0 l1 (!t607))) else (impl_Moves.j0 k l0 l1 true))) = some (r1, r2) := h
  clear h
  have HC3 := Aside0.mk H
  clear H
  go_enter Try.func59, Try.ntmps59
  go_upto_block 0 with (fail)
  repeat (go_quiet (fail); go_upto_block 0 with (fail))
  go_cut [] (fun wc => ∃ (kq : Nat), Aside0 (impl_Moves.j1 kq l0 l1 = some (r1, r2)) ∧ Aside0 (kq ≤ k) ∧ Aside0 (Below w.heap.size w wc))
  case first =>
    have H := HC3.out
    clear HC3
    have HC4 := Aside0.mk H
    clear H
    go_upto_region 1 with (fail)
    repeat (go_quiet (fail); go_upto_region 1 with (fail))
    go_cut [11] (fun v11 wc => ∃ (kq : Nat) (x11_3 : Bool), v11 = .bool x11_3 ∧ Aside0 (impl_Moves.j0 kq l0 l1 x11_3 = some (r1, r2)) ∧ Aside0 (kq ≤ k) ∧ Aside0 (Below w.heap.size w wc))
    case first =>
      have H := HC4.out
      clear HC4
      replace H := Option.bind_eq_some_iff.mp H
      obtain ⟨t606, A50, H⟩ := H
      replace H : (if t606 = true then ((impl_tableOk.f l1).bind fun t607 => (impl_Moves.j0 k l0 l1 (!t607))) else (impl_Moves.j0 k l0 l1 true)) = some (r1, r2) := H
      have A5 := Aside0.mk A50
      clear A50
      by_cases c6 : t606 = true
      · subst c6
        have H1 : ((impl_tableOk.f l1).bind fun t607 => (impl_Moves.j0 k l0 l1 (!t607))) = some (r1, r2) := by rw [if_pos rfl] at H; exact H
        clear H
        have H := H1
        clear H1
        replace H := Option.bind_eq_some_iff.mp H
        obtain ⟨t607, A70, H⟩ := H
        replace H : (impl_Moves.j0 k l0 l1 (!t607)) = some (r1, r2) := H
        have A7 := Aside0.mk A70
        clear A70
        have H' := Aside0.mk H
        clear H
        go_wp2_with (first | (go_at_call 123; (with_reducible refine (impl_tableOk.calls _ _ l0 true _ ?side1 ?side2 A5.out).mono ?_); (case side1 => repeat (first | exact (Kd.C_below HR0.out HB.out) | (with_reducible refine Kd.C_alloc ?_ _) | (with_reducible refine Kd.C_drewN ?_ _) | (with_reducible refine Kd.C_drew ?_))); (case side2 => exact HC0.out); rintro e w8 ⟨rfl, hb⟩; have n0_ := Aside0.mk (below_step (by repeat (first | (with_reducible first | exact HB.out | apply below_alloc | apply pw_below_drewN | apply below_drew1) | exact HB.out)) hb); clear HB; have HB := n0_; clear n0_; (try clear hb); (try clear hb2); (try clear hk); (try clear hi)) | (go_at_call 123; (with_reducible refine (impl_tableOk.calls _ _ l1 t607 _ ?side1 ?side2 A7.out).mono ?_); (case side1 => repeat (first | exact (Kd.C_below HR1.out HB.out) | (with_reducible refine Kd.C_alloc ?_ _) | (with_reducible refine Kd.C_drewN ?_ _) | (with_reducible refine Kd.C_drew ?_))); (case side2 => exact HC1.out); rintro e w9 ⟨rfl, hb⟩; have n0_ := Aside0.mk (below_step (by repeat (first | (with_reducible first | exact HB.out | apply below_alloc | apply pw_below_drewN | apply below_drew1) | exact HB.out)) hb); clear HB; have HB := n0_; clear n0_; (try clear hb); (try clear hb2); (try clear hk); (try clear hi)))
        repeat (go_quiet (first | (go_at_call 123; (with_reducible refine (impl_tableOk.calls _ _ l0 true _ ?side1 ?side2 A5.out).mono ?_); (case side1 => repeat (first | exact (Kd.C_below HR0.out HB.out) | (with_reducible refine Kd.C_alloc ?_ _) | (with_reducible refine Kd.C_drewN ?_ _) | (with_reducible refine Kd.C_drew ?_))); (case side2 => exact HC0.out); rintro e w8 ⟨rfl, hb⟩; have n0_ := Aside0.mk (below_step (by repeat (first | (with_reducible first | exact HB.out | apply below_alloc | apply pw_below_drewN | apply below_drew1) | exact HB.out)) hb); clear HB; have HB := n0_; clear n0_; (try clear hb); (try clear hb2); (try clear hk); (try clear hi)) | (go_at_call 123; (with_reducible refine (impl_tableOk.calls _ _ l1 t607 _ ?side1 ?side2 A7.out).mono ?_); (case side1 => repeat (first | exact (Kd.C_below HR1.out HB.out) | (with_reducible refine Kd.C_alloc ?_ _) | (with_reducible refine Kd.C_drewN ?_ _) | (with_reducible refine Kd.C_drew ?_))); (case side2 => exact HC1.out); rintro e w9 ⟨rfl, hb⟩; have n0_ := Aside0.mk (below_step (by repeat (first | (with_reducible first | exact HB.out | apply below_alloc | apply pw_below_drewN | apply below_drew1) | exact HB.out)) hb); clear HB; have HB := n0_; clear n0_; (try clear hb); (try clear hb2); (try clear hk); (try clear hi))); try go_wp2_with (first | (go_at_call 123; (with_reducible refine (impl_tableOk.calls _ _ l0 true _ ?side1 ?side2 A5.out).mono ?_); (case side1 => repeat (first | exact (Kd.C_below HR0.out HB.out) | (with_reducible refine Kd.C_alloc ?_ _) | (with_reducible refine Kd.C_drewN ?_ _) | (with_reducible refine Kd.C_drew ?_))); (case side2 => exact HC0.out); rintro e w8 ⟨rfl, hb⟩; have n0_ := Aside0.mk (below_step (by repeat (first | (with_reducible first | exact HB.out | apply below_alloc | apply pw_below_drewN | apply below_drew1) | exact HB.out)) hb); clear HB; have HB := n0_; clear n0_; (try clear hb); (try clear hb2); (try clear hk); (try clear hi)) | (go_at_call 123; (with_reducible refine (impl_tableOk.calls _ _ l1 t607 _ ?side1 ?side2 A7.out).mono ?_); (case side1 => repeat (first | exact (Kd.C_below HR1.out HB.out) | (with_reducible refine Kd.C_alloc ?_ _) | (with_reducible refine Kd.C_drewN ?_ _) | (with_reducible refine Kd.C_drew ?_))); (case side2 => exact HC1.out); rintro e w9 ⟨rfl, hb⟩; have n0_ := Aside0.mk (below_step (by repeat (first | (with_reducible first | exact HB.out | apply below_alloc | apply pw_below_drewN | apply below_drew1) | exact HB.out)) hb); clear HB; have HB := n0_; clear n0_; (try clear hb); (try clear hb2); (try clear hk); (try clear hi))))
        go_meet
        case rel => exact ⟨_, (!t607), (by first | rfl | (simp; done) | (simp [*]; done)), H', ⟨by first | omega | exact Nat.le_refl _⟩, ⟨by repeat (first | (with_reducible first | exact HB.out | apply below_alloc | apply pw_below_drewN | apply below_drew1) | exact HB.out)⟩⟩
      · replace c6 := Bool.eq_false_iff.mpr c6
        subst c6
        have H1 : (impl_Moves.j0 k l0 l1 true) = some (r1, r2) := by rw [if_neg (show ¬ (false = true) by decide)] at H; exact H
        clear H
        have H := H1
        clear H1
        have H' := Aside0.mk H
        clear H
        go_wp2_with (first | (go_at_call 123; (with_reducible refine (impl_tableOk.calls _ _ l0 false _ ?side1 ?side2 A5.out).mono ?_); (case side1 => repeat (first | exact (Kd.C_below HR0.out HB.out) | (with_reducible refine Kd.C_alloc ?_ _) | (with_reducible refine Kd.C_drewN ?_ _) | (with_reducible refine Kd.C_drew ?_))); (case side2 => exact HC0.out); rintro e w10 ⟨rfl, hb⟩; have n0_ := Aside0.mk (below_step (by repeat (first | (with_reducible first | exact HB.out | apply below_alloc | apply pw_below_drewN | apply below_drew1) | exact HB.out)) hb); clear HB; have HB := n0_; clear n0_; (try clear hb); (try clear hb2); (try clear hk); (try clear hi)))
        repeat (go_quiet (first | (go_at_call 123; (with_reducible refine (impl_tableOk.calls _ _ l0 false _ ?side1 ?side2 A5.out).mono ?_); (case side1 => repeat (first | exact (Kd.C_below HR0.out HB.out) | (with_reducible refine Kd.C_alloc ?_ _) | (with_reducible refine Kd.C_drewN ?_ _) | (with_reducible refine Kd.C_drew ?_))); (case side2 => exact HC0.out); rintro e w10 ⟨rfl, hb⟩; have n0_ := Aside0.mk (below_step (by repeat (first | (with_reducible first | exact HB.out | apply below_alloc | apply pw_below_drewN | apply below_drew1) | exact HB.out)) hb); clear HB; have HB := n0_; clear n0_; (try clear hb); (try clear hb2); (try clear hk); (try clear hi))); try go_wp2_with (first | (go_at_call 123; (with_reducible refine (impl_tableOk.calls _ _ l0 false _ ?side1 ?side2 A5.out).mono ?_); (case side1 => repeat (first | exact (Kd.C_below HR0.out HB.out) | (with_reducible refine Kd.C_alloc ?_ _) | (with_reducible refine Kd.C_drewN ?_ _) | (with_reducible refine Kd.C_drew ?_))); (case side2 => exact HC0.out); rintro e w10 ⟨rfl, hb⟩; have n0_ := Aside0.mk (below_step (by repeat (first | (with_reducible first | exact HB.out | apply below_alloc | apply pw_below_drewN | apply below_drew1) | exact HB.out)) hb); clear HB; have HB := n0_; clear n0_; (try clear hb); (try clear hb2); (try clear hk); (try clear hi))))
        go_meet
        case rel => exact ⟨_, (true), (by first | rfl | (simp; done) | (simp [*]; done)), H', ⟨by first | omega | exact Nat.le_refl _⟩, ⟨by repeat (first | (with_reducible first | exact HB.out | apply below_alloc | apply pw_below_drewN | apply below_drew1) | exact HB.out)⟩⟩
    case rest =>
      clear HC4
      try clear c1
      try clear p2
      try clear c5
      try clear c6
      obtain ⟨kq, x11_3, rfl, HA, HJ3, HB⟩ := hcut
      cases kq with
      | zero => exact absurd HA.out (by simp [impl_Moves.j0])
      | succ kj3 =>
        have H := HA.out
        clear HA
        simp only [impl_Moves.j0] at H
        by_cases c11 : x11_3 = true
        · subst c11
          have H1 : (some (0, 1)) = some (r1, r2) := by rw [if_pos rfl] at H; exact H
          clear H
          have H := H1
          clear H1
          simp only [Option.some.injEq, Prod.mk.injEq] at H
          obtain ⟨rfl, rfl⟩ := H
          go_wp2
          repeat (go_quiet (fail); try go_wp2)
          go_ret2
          exact ⟨by first | rfl | (simp [errW_none, errW_some] <;> rfl) | (simp [*, errW_none, errW_some] <;> rfl), by repeat (first | (with_reducible first | exact HB.out | apply below_alloc | apply pw_below_drewN | apply below_drew1) | exact HB.out)⟩
        · replace c11 := Bool.eq_false_iff.mpr c11
          subst c11
          have H1 : (if (l0.length : Int) = (l1.length : Int) then (if (l0.length : Int) > 0 then (if 0 < (l0.length : Int) then (if 0 < (l1.length : Int) then (if ((rd_L5 l0 0).length : Int) = ((rd_L5 l1 0).length : Int) then (impl_Moves.j1 kj3 l0 l1) else (some (0, 2))) else (none)) else (none)) else (impl_Moves.j1 kj3 l0 l1)) else (some (0, 2))) = some (r1, r2) := by rw [if_neg (show ¬ (false = true) by decide)] at H; exact H
          clear H
          have H := H1
          clear H1
          by_cases c12 : (l0.length : Int) = (l1.length : Int)
          · rw [if_pos c12] at H
            have c12b0 : ((l0.length : Int) == (l1.length : Int)) = true := beq_iff_eq.mpr c12
            have c12b1 : ((l0.length : Int) != (l1.length : Int)) = false := bne_eq_false_iff_eq.mpr c12
            have c12b2 : (l0.length == l1.length) = true := by first | simpa using c12 | (simp at c12 ⊢; omega)
            clear c12
            by_cases c13 : (l0.length : Int) > 0
            · rw [if_pos c13] at H
              have c13b0 : decide (0 < (l0.length : Int)) = true := decide_eq_true c13
              have c13b1 : decide (0 < l0.length) = true := decide_eq_true (by omega)
              clear c13
              by_cases c14 : 0 < (l0.length : Int)
              · rw [if_pos c14] at H
                have c14b0 : decide (0 < (l0.length : Int)) = true := decide_eq_true c14
                have c14b1 : decide (0 < l0.length) = true := decide_eq_true (by omega)
                clear c14
                by_cases c15 : 0 < (l1.length : Int)
                · rw [if_pos c15] at H
                  have c15b0 : decide (0 < (l1.length : Int)) = true := decide_eq_true c15
                  have c15b1 : decide (0 < l1.length) = true := decide_eq_true (by omega)
                  clear c15
                  by_cases c16 : ((rd_L5 l0 0).length : Int) = ((rd_L5 l1 0).length : Int)
                  · rw [if_pos c16] at H
                    have c16b0 : (((rd_L5 l0 0).length : Int) == ((rd_L5 l1 0).length : Int)) = true := beq_iff_eq.mpr c16
                    have c16b1 : (((rd_L5 l0 0).length : Int) != ((rd_L5 l1 0).length : Int)) = false := bne_eq_false_iff_eq.mpr c16
                    have c16b2 : ((rd_L5 l0 0).length == (rd_L5 l1 0).length) = true := by first | simpa using c16 | (simp at c16 ⊢; omega)
                    clear c16
                    have H' := Aside0.mk H
                    clear H
                    have p608 : 0 ≤ (0 : Int) := (by omega)
                    have q608 : 0 < (l0.length : Int) := of_decide_eq_true (by first | (with_reducible assumption) | assumption)
                    obtain ⟨ad608, A608_0, c608_0, e608, hx608_0, hl608_0, hi608_0⟩ := at_L5 HR0.out 0 p608 q608
                    cases e608
                    have qi608 : (0 < l0.length) = True := eq_true (by omega)
                    (try rw [show ((0 : Int)).toNat = 0 from rfl] at hx608_0)
                    (try rw [Addr.add_zero'] at hx608_0)
                    replace hx608_0 := (HB.out.cell (World.block_lt_of_cell? w _ hx608_0)).trans hx608_0
                    have HR608_0 := Aside0.mk hi608_0
                    have HC608_0 := Aside0.mk hl608_0
                    clear hi608_0 hl608_0
                    replace p608 := eq_true p608
                    replace q608 := eq_true q608
                    have p609 : 0 ≤ (0 : Int) := (by omega)
                    have q609 : 0 < (l1.length : Int) := of_decide_eq_true (by first | (with_reducible assumption) | assumption)
                    obtain ⟨ad609, A609_0, c609_0, e609, hx609_0, hl609_0, hi609_0⟩ := at_L5 HR1.out 0 p609 q609
                    cases e609
                    have qi609 : (0 < l1.length) = True := eq_true (by omega)
                    (try rw [show ((0 : Int)).toNat = 0 from rfl] at hx609_0)
                    (try rw [Addr.add_zero'] at hx609_0)
                    replace hx609_0 := (HB.out.cell (World.block_lt_of_cell? w _ hx609_0)).trans hx609_0
                    have HR609_0 := Aside0.mk hi609_0
                    have HC609_0 := Aside0.mk hl609_0
                    clear hi609_0 hl609_0
                    replace p609 := eq_true p609
                    replace q609 := eq_true q609
                    go_wp2
                    repeat (go_quiet (fail); try go_wp2)
                    go_meet
                    case rel => exact ⟨_, H', ⟨by have := HJ3.out; first | omega | exact Nat.le_refl _⟩, ⟨by repeat (first | (with_reducible first | exact HB.out | apply below_alloc | apply pw_below_drewN | apply below_drew1) | exact HB.out)⟩⟩
                  · rw [if_neg c16] at H
                    have c16b0 : (((rd_L5 l0 0).length : Int) == ((rd_L5 l1 0).length : Int)) = false := beq_eq_false_iff_ne.mpr c16
                    have c16b1 : (((rd_L5 l0 0).length : Int) != ((rd_L5 l1 0).length : Int)) = true := bne_iff_ne.mpr c16
                    have c16b2 : ((rd_L5 l0 0).length == (rd_L5 l1 0).length) = false := by first | simpa using c16 | (simp at c16 ⊢; omega)
                    simp only [Option.some.injEq, Prod.mk.injEq] at H
                    obtain ⟨rfl, rfl⟩ := H
                    have p608 : 0 ≤ (0 : Int) := (by omega)
                    have q608 : 0 < (l0.length : Int) := of_decide_eq_true (by first | (with_reducible assumption) | assumption)
                    obtain ⟨ad608, A608_0, c608_0, e608, hx608_0, hl608_0, hi608_0⟩ := at_L5 HR0.out 0 p608 q608
                    cases e608
                    have qi608 : (0 < l0.length) = True := eq_true (by omega)
                    (try rw [show ((0 : Int)).toNat = 0 from rfl] at hx608_0)
                    (try rw [Addr.add_zero'] at hx608_0)
                    replace hx608_0 := (HB.out.cell (World.block_lt_of_cell? w _ hx608_0)).trans hx608_0
                    have HR608_0 := Aside0.mk hi608_0
                    have HC608_0 := Aside0.mk hl608_0
                    clear hi608_0 hl608_0
                    replace p608 := eq_true p608
                    replace q608 := eq_true q608
                    have p609 : 0 ≤ (0 : Int) := (by omega)
                    have q609 : 0 < (l1.length : Int) := of_decide_eq_true (by first | (with_reducible assumption) | assumption)
                    obtain ⟨ad609, A609_0, c609_0, e609, hx609_0, hl609_0, hi609_0⟩ := at_L5 HR1.out 0 p609 q609
                    cases e609
                    have qi609 : (0 < l1.length) = True := eq_true (by omega)
                    (try rw [show ((0 : Int)).toNat = 0 from rfl] at hx609_0)
                    (try rw [Addr.add_zero'] at hx609_0)
                    replace hx609_0 := (HB.out.cell (World.block_lt_of_cell? w _ hx609_0)).trans hx609_0
                    have HR609_0 := Aside0.mk hi609_0
                    have HC609_0 := Aside0.mk hl609_0
                    clear hi609_0 hl609_0
                    replace p609 := eq_true p609
                    replace q609 := eq_true q609
                    go_wp2
                    repeat (go_quiet (fail); try go_wp2)
                    go_ret2
                    exact ⟨by first | rfl | (simp [errW_none, errW_some] <;> rfl) | (simp [*, errW_none, errW_some] <;> rfl), by repeat (first | (with_reducible first | exact HB.out | apply below_alloc | apply pw_below_drewN | apply below_drew1) | exact HB.out)⟩
                · rw [if_neg c15] at H
                  exact absurd H (by simp)
              · rw [if_neg c14] at H
                exact absurd H (by simp)
            · rw [if_neg c13] at H
              have c13b0 : decide (0 < (l0.length : Int)) = false := decide_eq_false c13
              have c13b1 : decide (0 < l0.length) = false := decide_eq_false (by omega)
              clear c13
              have H' := Aside0.mk H
              clear H
              go_wp2
              repeat (go_quiet (fail); try go_wp2)
              go_meet
              case rel => exact ⟨_, H', ⟨by have := HJ3.out; first | omega | exact Nat.le_refl _⟩, ⟨by repeat (first | (with_reducible first | exact HB.out | apply below_alloc | apply pw_below_drewN | apply below_drew1) | exact HB.out)⟩⟩
          · rw [if_neg c12] at H
            have c12b0 : ((l0.length : Int) == (l1.length : Int)) = false := beq_eq_false_iff_ne.mpr c12
            have c12b1 : ((l0.length : Int) != (l1.length : Int)) = true := bne_iff_ne.mpr c12
            have c12b2 : (l0.length == l1.length) = false := by first | simpa using c12 | (simp at c12 ⊢; omega)
            simp only [Option.some.injEq, Prod.mk.injEq] at H
            obtain ⟨rfl, rfl⟩ := H
            go_wp2
            repeat (go_quiet (fail); try go_wp2)
            go_ret2
            exact ⟨by first | rfl | (simp [errW_none, errW_some] <;> rfl) | (simp [*, errW_none, errW_some] <;> rfl), by repeat (first | (with_reducible first | exact HB.out | apply below_alloc | apply pw_below_drewN | apply below_drew1) | exact HB.out)⟩
  case rest =>
    clear HC3
    try clear c1
    try clear p2
    try clear c5
    try clear c6
    try clear p6
    try clear q6
    try clear hx6
    try clear qi6
    try clear c11
    try clear c12
    try clear c12b0
    try clear c12b1
    try clear c12b2
    try clear c13
    try clear c13b0
    try clear c13b1
    try clear c14
    try clear c14b0
    try clear c14b1
    try clear c15
    try clear c15b0
    try clear c15b1
    try clear c16
    try clear c16b0
    try clear c16b1
    try clear c16b2
    try clear hx608_0
    try clear hx609_0
    try clear p2
    try clear p608
    try clear p609
    try clear q608
    try clear q609
    obtain ⟨kq, HA, HJ2, HB⟩ := hcut
    cases kq with
    | zero => exact absurd HA.out (by simp [impl_Moves.j1])
    | succ kj2 =>
      have H := HA.out
      clear HA
      simp only [impl_Moves.j1] at H
      have H' := Aside0.mk H
      clear H
      go_wp2
      repeat (go_quiet (fail); try go_wp2)
      go_loopg [6, 44] kj2 (fun kq v6 v44 w' => ∃ (x6_2 : Int) (x44_2 : Int), v6 = .int .i64 x6_2 ∧ v44 = .int .i64 x44_2 ∧ Aside0 (impl_Moves.l0 kq l1 x6_2 l0 (l0.length : Int) x44_2 = some (r1, r2)) ∧ Aside0 (kq ≤ kj2) ∧ Aside0 (Below w.heap.size w w'))
      case atStart => exact ⟨(0), (0), (by first | rfl | (simp; done) | (simp [*]; done)), (by first | rfl | (simp; done) | (simp [*]; done)), H', ⟨Nat.le_refl _⟩, ⟨by repeat (first | (with_reducible first | exact HB.out | apply below_alloc | apply pw_below_drewN | apply below_drew1) | exact HB.out)⟩⟩
      case round =>
        clear H'
        try clear c1
        try clear p2
        try clear c5
        try clear c6
        try clear p6
        try clear q6
        try clear hx6
        try clear qi6
        try clear c11
        try clear c12
        try clear c12b0
        try clear c12b1
        try clear c12b2
        try clear c13
        try clear c13b0
        try clear c13b1
        try clear c14
        try clear c14b0
        try clear c14b1
        try clear c15
        try clear c15b0
        try clear c15b1
        try clear c16
        try clear c16b0
        try clear c16b1
        try clear c16b2
        try clear hx608_0
        try clear hx609_0
        try clear p2
        try clear p6
        try clear p608
        try clear p609
        try clear q6
        try clear q608
        try clear q609
        obtain ⟨x6_2, x44_2, rfl, rfl, HA, HK2, HB⟩ := hrel
        cases gk with
        | zero => exact absurd HA.out (by simp [impl_Moves.l0])
        | succ k2 =>
          have H := HA.out
          clear HA
          simp only [impl_Moves.l0] at H
          by_cases c17 : x44_2 < (l0.length : Int)
          · rw [if_pos c17] at H
            have c17b0 : decide (x44_2 < (l0.length : Int)) = true := decide_eq_true c17
            clear c17
            by_cases c18 : 0 ≤ x44_2
            · rw [if_pos c18] at H
              have c18b0 : decide (0 ≤ x44_2) = true := decide_eq_true c18
              clear c18
              by_cases c19 : x44_2 < (l0.length : Int)
              · rw [if_pos c19] at H
                have c19b0 : decide (x44_2 < (l0.length : Int)) = true := decide_eq_true c19
                clear c19
                have H' := Aside0.mk H
                clear H
                have p610 : 0 ≤ (x44_2 : Int) := of_decide_eq_true (by first | (with_reducible assumption) | assumption)
                have q610 : x44_2 < (l0.length : Int) := of_decide_eq_true (by first | (with_reducible assumption) | assumption)
                obtain ⟨ad610, A610_0, c610_0, e610, hx610_0, hl610_0, hi610_0⟩ := at_L5 HR0.out x44_2 p610 q610
                cases e610
                replace hx610_0 := (HB.out.cell (World.block_lt_of_cell? w _ hx610_0)).trans hx610_0
                have HR610_0 := Aside0.mk hi610_0
                have HC610_0 := Aside0.mk hl610_0
                clear hi610_0 hl610_0
                replace p610 := eq_true p610
                replace q610 := eq_true q610
                go_wp2
                repeat (go_quiet (fail); try go_wp2)
                go_loopg [6, 51] k2 (fun kq v6 v51 w' => ∃ (x6_3 : Int) (x51_3 : Int), v6 = .int .i64 x6_3 ∧ v51 = .int .i64 x51_3 ∧ Aside0 (impl_Moves.l1 kq l1 x6_3 x44_2 l0 (l0.length : Int) x44_2 (rd_L5 l0 x44_2) ((rd_L5 l0 x44_2).length : Int) x51_3 = some (r1, r2)) ∧ Aside0 (kq ≤ k2) ∧ Aside0 (Below w.heap.size w w'))
                case atStart => exact ⟨(x6_2), (0), (by first | rfl | (simp; done) | (simp [*]; done)), (by first | rfl | (simp; done) | (simp [*]; done)), H', ⟨Nat.le_refl _⟩, ⟨by repeat (first | (with_reducible first | exact HB.out | apply below_alloc | apply pw_below_drewN | apply below_drew1) | exact HB.out)⟩⟩
                case round =>
                  clear H'
                  try clear c1
                  try clear p2
                  try clear c5
                  try clear c6
                  try clear p6
                  try clear q6
                  try clear hx6
                  try clear qi6
                  try clear c11
                  try clear c12
                  try clear c12b0
                  try clear c12b1
                  try clear c12b2
                  try clear c13
                  try clear c13b0
                  try clear c13b1
                  try clear c14
                  try clear c14b0
                  try clear c14b1
                  try clear c15
                  try clear c15b0
                  try clear c15b1
                  try clear c16
                  try clear c16b0
                  try clear c16b1
                  try clear c16b2
                  try clear c17
                  try clear c17b0
                  try clear c18
                  try clear c18b0
                  try clear c19
                  try clear c19b0
                  try clear hx608_0
                  try clear hx609_0
                  try clear hx610_0
                  try clear p2
                  try clear p6
                  try clear p608
                  try clear p609
                  try clear p610
                  try clear q6
                  try clear q608
                  try clear q609
                  try clear q610
                  obtain ⟨x6_3, x51_3, rfl, rfl, HA, HK3, HB⟩ := hrel
                  cases gk with
                  | zero => exact absurd HA.out (by simp [impl_Moves.l1])
                  | succ k3 =>
                    have H := HA.out
                    clear HA
                    simp only [impl_Moves.l1] at H
                    by_cases c20 : x51_3 < ((rd_L5 l0 x44_2).length : Int)
                    · rw [if_pos c20] at H
                      have c20b0 : decide (x51_3 < ((rd_L5 l0 x44_2).length : Int)) = true := decide_eq_true c20
                      clear c20
                      by_cases c21 : 0 ≤ x51_3
                      · rw [if_pos c21] at H
                        have c21b0 : decide (0 ≤ x51_3) = true := decide_eq_true c21
                        clear c21
                        by_cases c22 : x51_3 < ((rd_L5 l0 x44_2).length : Int)
                        · rw [if_pos c22] at H
                          have c22b0 : decide (x51_3 < ((rd_L5 l0 x44_2).length : Int)) = true := decide_eq_true c22
                          clear c22
                          by_cases c23 : 0 ≤ x44_2
                          · rw [if_pos c23] at H
                            have c23b0 : decide (0 ≤ x44_2) = true := decide_eq_true c23
                            clear c23
                            by_cases c24 : x44_2 < (l1.length : Int)
                            · rw [if_pos c24] at H
                              have c24b0 : decide (x44_2 < (l1.length : Int)) = true := decide_eq_true c24
                              clear c24
                              by_cases c25 : x51_3 < ((rd_L5 l1 x44_2).length : Int)
                              · rw [if_pos c25] at H
                                have c25b0 : decide (x51_3 < ((rd_L5 l1 x44_2).length : Int)) = true := decide_eq_true c25
                                clear c25
                                by_cases c26 : (rd (rd_L5 l1 x44_2) x51_3) = (rd (rd_L5 l0 x44_2) x51_3)
                                · rw [if_pos c26] at H
                                  have c26b0 : ((rd (rd_L5 l1 x44_2) x51_3) == (rd (rd_L5 l0 x44_2) x51_3)) = true := beq_iff_eq.mpr c26
                                  have c26b1 : ((rd (rd_L5 l1 x44_2) x51_3) != (rd (rd_L5 l0 x44_2) x51_3)) = false := bne_eq_false_iff_eq.mpr c26
                                  clear c26
                                  have H' := Aside0.mk H
                                  clear H
                                  have p611 : 0 ≤ (x51_3 : Int) := of_decide_eq_true (by first | (with_reducible assumption) | assumption)
                                  have q611 : x51_3 < ((rd_L5 l0 x44_2).length : Int) := of_decide_eq_true (by first | (with_reducible assumption) | assumption)
                                  obtain ⟨ad611, e611, hx611_0⟩ := Kd.at_int HR610_0.out x51_3 p611 q611
                                  cases e611
                                  replace hx611_0 := (HB.out.cell (World.block_lt_of_cell? w _ hx611_0)).trans hx611_0
                                  replace p611 := eq_true p611
                                  replace q611 := eq_true q611
                                  have p612 : 0 ≤ (x44_2 : Int) := of_decide_eq_true (by first | (with_reducible assumption) | assumption)
                                  have q612 : x44_2 < (l1.length : Int) := of_decide_eq_true (by first | (with_reducible assumption) | assumption)
                                  obtain ⟨ad612, A612_0, c612_0, e612, hx612_0, hl612_0, hi612_0⟩ := at_L5 HR1.out x44_2 p612 q612
                                  cases e612
                                  replace hx612_0 := (HB.out.cell (World.block_lt_of_cell? w _ hx612_0)).trans hx612_0
                                  have HR612_0 := Aside0.mk hi612_0
                                  have HC612_0 := Aside0.mk hl612_0
                                  clear hi612_0 hl612_0
                                  replace p612 := eq_true p612
                                  replace q612 := eq_true q612
                                  have p613 : 0 ≤ (x51_3 : Int) := of_decide_eq_true (by first | (with_reducible assumption) | assumption)
                                  have q613 : x51_3 < ((rd_L5 l1 x44_2).length : Int) := of_decide_eq_true (by first | (with_reducible assumption) | assumption)
                                  obtain ⟨ad613, e613, hx613_0⟩ := Kd.at_int HR612_0.out x51_3 p613 q613
                                  cases e613
                                  replace hx613_0 := (HB.out.cell (World.block_lt_of_cell? w _ hx613_0)).trans hx613_0
                                  replace p613 := eq_true p613
                                  replace q613 := eq_true q613
                                  go_wp2
                                  repeat (go_quiet (fail); try go_wp2)
                                  go_roundg k3
                                  case measure => have := HJ2.out; have := HK2.out; have := HK3.out; omega
                                  case rel => exact ⟨(x6_3), (wrap64 (x51_3 + 1)), (by first | rfl | (simp; done) | (simp [*]; done)), (by first | rfl | (simp; done) | (simp [*]; done)), H', ⟨by have := HJ2.out; have := HK2.out; have := HK3.out; omega⟩, ⟨by repeat (first | (with_reducible first | exact HB.out | apply below_alloc | apply pw_below_drewN | apply below_drew1) | exact HB.out)⟩⟩
                                · rw [if_neg c26] at H
                                  have c26b0 : ((rd (rd_L5 l1 x44_2) x51_3) == (rd (rd_L5 l0 x44_2) x51_3)) = false := beq_eq_false_iff_ne.mpr c26
                                  have c26b1 : ((rd (rd_L5 l1 x44_2) x51_3) != (rd (rd_L5 l0 x44_2) x51_3)) = true := bne_iff_ne.mpr c26
                                  have H' := Aside0.mk H
                                  clear H
                                  have p611 : 0 ≤ (x51_3 : Int) := of_decide_eq_true (by first | (with_reducible assumption) | assumption)
                                  have q611 : x51_3 < ((rd_L5 l0 x44_2).length : Int) := of_decide_eq_true (by first | (with_reducible assumption) | assumption)
                                  obtain ⟨ad611, e611, hx611_0⟩ := Kd.at_int HR610_0.out x51_3 p611 q611
                                  cases e611
                                  replace hx611_0 := (HB.out.cell (World.block_lt_of_cell? w _ hx611_0)).trans hx611_0
                                  replace p611 := eq_true p611
                                  replace q611 := eq_true q611
                                  have p612 : 0 ≤ (x44_2 : Int) := of_decide_eq_true (by first | (with_reducible assumption) | assumption)
                                  have q612 : x44_2 < (l1.length : Int) := of_decide_eq_true (by first | (with_reducible assumption) | assumption)
                                  obtain ⟨ad612, A612_0, c612_0, e612, hx612_0, hl612_0, hi612_0⟩ := at_L5 HR1.out x44_2 p612 q612
                                  cases e612
                                  replace hx612_0 := (HB.out.cell (World.block_lt_of_cell? w _ hx612_0)).trans hx612_0
                                  have HR612_0 := Aside0.mk hi612_0
                                  have HC612_0 := Aside0.mk hl612_0
                                  clear hi612_0 hl612_0
                                  replace p612 := eq_true p612
                                  replace q612 := eq_true q612
                                  have p613 : 0 ≤ (x51_3 : Int) := of_decide_eq_true (by first | (with_reducible assumption) | assumption)
                                  have q613 : x51_3 < ((rd_L5 l1 x44_2).length : Int) := of_decide_eq_true (by first | (with_reducible assumption) | assumption)
                                  obtain ⟨ad613, e613, hx613_0⟩ := Kd.at_int HR612_0.out x51_3 p613 q613
                                  cases e613
                                  replace hx613_0 := (HB.out.cell (World.block_lt_of_cell? w _ hx613_0)).trans hx613_0
                                  replace p613 := eq_true p613
                                  replace q613 := eq_true q613
                                  go_wp2
                                  repeat (go_quiet (fail); try go_wp2)
                                  go_roundg k3
                                  case measure => have := HJ2.out; have := HK2.out; have := HK3.out; omega
                                  case rel => exact ⟨(wrap64 (x6_3 + 1)), (wrap64 (x51_3 + 1)), (by first | rfl | (simp; done) | (simp [*]; done)), (by first | rfl | (simp; done) | (simp [*]; done)), H', ⟨by have := HJ2.out; have := HK2.out; have := HK3.out; omega⟩, ⟨by repeat (first | (with_reducible first | exact HB.out | apply below_alloc | apply pw_below_drewN | apply below_drew1) | exact HB.out)⟩⟩
                              · rw [if_neg c25] at H
                                exact absurd H (by simp)
                            · rw [if_neg c24] at H
                              exact absurd H (by simp)
                          · rw [if_neg c23] at H
                            exact absurd H (by simp)
                        · rw [if_neg c22] at H
                          exact absurd H (by simp)
                      · rw [if_neg c21] at H
                        exact absurd H (by simp)
                    · rw [if_neg c20] at H
                      have c20b0 : decide (x51_3 < ((rd_L5 l0 x44_2).length : Int)) = false := decide_eq_false c20
                      clear c20
                      have H' := Aside0.mk H
                      clear H
                      go_wp2
                      repeat (go_quiet (fail); try go_wp2)
                      go_roundg k3
                      case measure => have := HJ2.out; have := HK2.out; have := HK3.out; omega
                      case rel => exact ⟨(x6_3), (wrap64 (x44_2 + 1)), (by first | rfl | (simp; done) | (simp [*]; done)), (by first | rfl | (simp; done) | (simp [*]; done)), H', ⟨by have := HJ2.out; have := HK2.out; have := HK3.out; omega⟩, ⟨by repeat (first | (with_reducible first | exact HB.out | apply below_alloc | apply pw_below_drewN | apply below_drew1) | exact HB.out)⟩⟩
              · rw [if_neg c19] at H
                exact absurd H (by simp)
            · rw [if_neg c18] at H
              exact absurd H (by simp)
          · rw [if_neg c17] at H
            have c17b0 : decide (x44_2 < (l0.length : Int)) = false := decide_eq_false c17
            clear c17
            simp only [Option.some.injEq, Prod.mk.injEq] at H
            obtain ⟨rfl, rfl⟩ := H
            go_wp2
            repeat (go_quiet (fail); try go_wp2)
            go_ret2
            exact ⟨by first | rfl | (simp [errW_none, errW_some] <;> rfl) | (simp [*, errW_none, errW_some] <;> rfl), by repeat (first | (with_reducible first | exact HB.out | apply below_alloc | apply pw_below_drewN | apply below_drew1) | exact HB.out)⟩

end Go.Proofs.Ytlocignlkigojaa.Q
