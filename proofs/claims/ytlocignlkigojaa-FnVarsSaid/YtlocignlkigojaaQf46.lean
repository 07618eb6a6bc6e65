/- Walks of the Go functions that the laws call: each returns what a plain Lean function says. Written by a program for these claims. -/
import Derived.Test.YtlocignlkigojaaQ0
namespace Go.Proofs.Ytlocignlkigojaa.Q
open Go.RowKit Go.Proofs.YtlocignlkigojaaW.PrintWords Go.Proofs.YtlocignlkigojaaW.PrintLast Go.Proofs.YtlocignlkigojaaW.PrintMore
attribute [local go_sem] max2_int min2_int max_two min_two max_three min_three max_four min_four   -- for this text's walks alone
set_option linter.unusedVariables false
set_option linter.unusedSimpArgs false

/-! ### impl_GetVar: function 46 -/
mutual
def impl_GetVar.l0 : Nat → ByteArray → Int → Int → Option (Int × Int × Bool)
  | 0, _, _, _ => none
  | k + 1, x0, x5, x6 => if x6 < (x0.size : Int) then (impl_GetVar.j1 k x0 x5 x6 (decide (x6 < 9))) else (impl_GetVar.j1 k x0 x5 x6 false)
def impl_GetVar.j1 : Nat → ByteArray → Int → Int → Bool → Option (Int × Int × Bool)
  | 0, _, _, _, _ => none
  | k + 1, x0, x5, x6, x15 => if x15 = true then (if 0 ≤ x6 then (if x6 < (x0.size : Int) then (if 0 ≤ (wrap64 (7 * x6)) then (if (wrap64 (bt x0 x6)) < 128 then (if (Go.bits .or .i64 x5 (shl .i64 (Int.tmod (wrap64 (bt x0 x6)) 128) (wrap64 (7 * x6)))) > 4611686018427387904 then (some (0, 0, false)) else (if x6 > 0 then (if (wrap64 (bt x0 x6)) = 0 then (some (0, 0, false)) else (some (Go.bits .or .i64 x5 (shl .i64 (Int.tmod (wrap64 (bt x0 x6)) 128) (wrap64 (7 * x6))), wrap64 (x6 + 1), true))) else (some (Go.bits .or .i64 x5 (shl .i64 (Int.tmod (wrap64 (bt x0 x6)) 128) (wrap64 (7 * x6))), wrap64 (x6 + 1), true)))) else (impl_GetVar.l0 k x0 (Go.bits .or .i64 x5 (shl .i64 (Int.tmod (wrap64 (bt x0 x6)) 128) (wrap64 (7 * x6)))) (wrap64 (x6 + 1)))) else (none)) else (none)) else (none)) else (some (0, 0, false))
end
def impl_GetVar.f (k : Nat) (a0 : ByteArray) : Option (Int × Int × Bool) := impl_GetVar.l0 k a0 0 0
theorem impl_GetVar.mono_l : ∀ k, (∀ y0 y1 y2, LeO (impl_GetVar.l0 k y0 y1 y2) (impl_GetVar.l0 (k + 1) y0 y1 y2)) ∧ (∀ y0 y1 y2 y3, LeO (impl_GetVar.j1 k y0 y1 y2 y3) (impl_GetVar.j1 (k + 1) y0 y1 y2 y3))
  | 0 => ⟨fun _ _ _ r h => by simp [impl_GetVar.l0] at h, fun _ _ _ _ r h => by simp [impl_GetVar.j1] at h⟩
  | k + 1 => by
    obtain ⟨ih0, ih1⟩ := impl_GetVar.mono_l k
    refine ⟨?_, ?_⟩
    · intro y0 y1 y2
      unfold impl_GetVar.l0
      repeat' first
      | (with_reducible exact ih0 _ _ _)
      | (with_reducible exact ih1 _ _ _ _)
      | (with_reducible exact LeO.refl _)
      | (with_reducible exact LeO.none _)
      | (with_reducible refine LeO.ite ?_ ?_)
      | (with_reducible refine LeO.bind ?_ (fun _ => ?_))
      | exact ih0 _ _ _
      | exact ih1 _ _ _ _
      | exact LeO.none _
      | refine LeO.ite ?_ ?_
      | refine LeO.bind ?_ (fun _ => ?_)
    · intro y0 y1 y2 y3
      unfold impl_GetVar.j1
      repeat' first
      | (with_reducible exact ih0 _ _ _)
      | (with_reducible exact ih1 _ _ _ _)
      | (with_reducible exact LeO.refl _)
      | (with_reducible exact LeO.none _)
      | (with_reducible refine LeO.ite ?_ ?_)
      | (with_reducible refine LeO.bind ?_ (fun _ => ?_))
      | exact ih0 _ _ _
      | exact ih1 _ _ _ _
      | exact LeO.none _
      | refine LeO.ite ?_ ?_
      | refine LeO.bind ?_ (fun _ => ?_)
theorem impl_GetVar.mono : ∀ a0 k, LeO (impl_GetVar.f k a0) (impl_GetVar.f (k + 1) a0) := by
  intro a0 k
  obtain ⟨ih0, ih1⟩ := impl_GetVar.mono_l k
  unfold impl_GetVar.f
  repeat' first
      | (with_reducible exact ih0 _ _ _)
      | (with_reducible exact ih1 _ _ _ _)
      | (with_reducible exact LeO.refl _)
      | (with_reducible exact LeO.none _)
      | (with_reducible refine LeO.ite ?_ ?_)
      | (with_reducible refine LeO.bind ?_ (fun _ => ?_))
      | exact ih0 _ _ _
      | exact ih1 _ _ _ _
      | exact LeO.none _
      | refine LeO.ite ?_ ?_
      | refine LeO.bind ?_ (fun _ => ?_)
set_option maxHeartbeats 8000000 in
set_option maxRecDepth 100000 in
theorem impl_GetVar.calls (k : Nat) (a0 : ByteArray) (r1 : Int) (r2 : Int) (r3 : Bool) (w : World) (h : impl_GetVar.f k a0 = some (r1, r2, r3)) :
    Calls Try.prog 46 #[.string a0] w fun e w' => e = .returned (.tuple #[.int .i64 r1, .int .i64 r2, .bool r3]) ∧ Drawn0 w w' := by
  have H : (impl_GetVar.l0 k a0 0 0) = some (r1, r2, r3) := h
  clear h
  have H' := Aside0.mk H
  clear H
  go_enter Try.func46, Try.ntmps46
  go_wp2
  go_loopg [5, 6] k (fun kq v5 v6 w' => ∃ (x5_1 : Int) (x6_1 : Int), v5 = .int .i64 x5_1 ∧ v6 = .int .i64 x6_1 ∧ Aside0 (impl_GetVar.l0 kq a0 x5_1 x6_1 = some (r1, r2, r3)) ∧ Aside0 (kq ≤ k) ∧ Drawn0 w w')
  case atStart => exact ⟨(0), (0), (by first | rfl | (simp; done) | (simp [*]; done)), (by first | rfl | (simp; done) | (simp [*]; done)), H', ⟨Nat.le_refl _⟩, by repeat (first | exact Drawn0.refl _ | apply Drawn0.step)⟩
  case round =>
    clear H'
    obtain ⟨x5_1, x6_1, rfl, rfl, HA, HK1, ⟨m1, rfl⟩⟩ := hrel
    cases gk with
    | zero => exact absurd HA.out (by simp [impl_GetVar.l0])
    | succ k1 =>
      have H := HA.out
      clear HA
      simp only [impl_GetVar.l0] at H
      have HC2 := Aside0.mk H
      clear H
      go_upto_region 3 with (fail)
      go_cut [15] (fun v15 wc => ∃ (kq : Nat) (x15_1 : Bool), v15 = .bool x15_1 ∧ Aside0 (impl_GetVar.j1 kq a0 x5_1 x6_1 x15_1 = some (r1, r2, r3)) ∧ Aside0 (kq ≤ k1) ∧ Drawn0 w wc)
      case first =>
        have H := HC2.out
        clear HC2
        by_cases c3 : x6_1 < (a0.size : Int)
        · rw [if_pos c3] at H
          have c3b0 : decide (x6_1 < (a0.size : Int)) = true := decide_eq_true c3
          clear c3
          (first | rw [c3b0] | (simp only [i64_w, i32_w]; rw [c3b0]) | skip)
          have H' := Aside0.mk H
          clear H
          go_wp2
          go_meet
          case rel => exact ⟨_, (decide (x6_1 < 9)), (by first | rfl | (simp; done) | (simp [*]; done)), H', ⟨by have := HK1.out; first | omega | exact Nat.le_refl _⟩, by repeat (first | exact Drawn0.refl _ | apply Drawn0.step)⟩
        · rw [if_neg c3] at H
          have c3b0 : decide (x6_1 < (a0.size : Int)) = false := decide_eq_false c3
          clear c3
          (first | rw [c3b0] | (simp only [i64_w, i32_w]; rw [c3b0]) | skip)
          have H' := Aside0.mk H
          clear H
          go_wp2
          go_meet
          case rel => exact ⟨_, (false), (by first | rfl | (simp; done) | (simp [*]; done)), H', ⟨by have := HK1.out; first | omega | exact Nat.le_refl _⟩, by repeat (first | exact Drawn0.refl _ | apply Drawn0.step)⟩
      case rest =>
        clear HC2
        try clear p2
        try clear c3
        try clear c3b0
        obtain ⟨kq, x15_1, rfl, HA, HJ1, ⟨mc1, rfl⟩⟩ := hcut
        cases kq with
        | zero => exact absurd HA.out (by simp [impl_GetVar.j1])
        | succ kj1 =>
          have H := HA.out
          clear HA
          simp only [impl_GetVar.j1] at H
          by_cases c4 : x15_1 = true
          · subst c4
            have H1 : (if 0 ≤ x6_1 then (if x6_1 < (a0.size : Int) then (if 0 ≤ (wrap64 (7 * x6_1)) then (if (wrap64 (bt a0 x6_1)) < 128 then (if (Go.bits .or .i64 x5_1 (shl .i64 (Int.tmod (wrap64 (bt a0 x6_1)) 128) (wrap64 (7 * x6_1)))) > 4611686018427387904 then (some (0, 0, false)) else (if x6_1 > 0 then (if (wrap64 (bt a0 x6_1)) = 0 then (some (0, 0, false)) else (some (Go.bits .or .i64 x5_1 (shl .i64 (Int.tmod (wrap64 (bt a0 x6_1)) 128) (wrap64 (7 * x6_1))), wrap64 (x6_1 + 1), true))) else (some (Go.bits .or .i64 x5_1 (shl .i64 (Int.tmod (wrap64 (bt a0 x6_1)) 128) (wrap64 (7 * x6_1))), wrap64 (x6_1 + 1), true)))) else (impl_GetVar.l0 kj1 a0 (Go.bits .or .i64 x5_1 (shl .i64 (Int.tmod (wrap64 (bt a0 x6_1)) 128) (wrap64 (7 * x6_1)))) (wrap64 (x6_1 + 1)))) else (none)) else (none)) else (none)) = some (r1, r2, r3) := by rw [if_pos rfl] at H; exact H
            clear H
            have H := H1
            clear H1
            by_cases c5 : 0 ≤ x6_1
            · rw [if_pos c5] at H
              have c5b0 : decide (0 ≤ x6_1) = true := decide_eq_true c5
              clear c5
              by_cases c6 : x6_1 < (a0.size : Int)
              · rw [if_pos c6] at H
                have c6b0 : decide (x6_1 < (a0.size : Int)) = true := decide_eq_true c6
                clear c6
                obtain ⟨ji8, hji8⟩ : ∃ j_ : Int, (wrap64 (7 * x6_1)) = j_ := ⟨_, rfl⟩
                replace H : (if 0 ≤ (ji8) then (if (wrap64 (bt a0 x6_1)) < 128 then (if (Go.bits .or .i64 x5_1 (shl .i64 (Int.tmod (wrap64 (bt a0 x6_1)) 128) (ji8))) > 4611686018427387904 then (some (0, 0, false)) else (if x6_1 > 0 then (if (wrap64 (bt a0 x6_1)) = 0 then (some (0, 0, false)) else (some (Go.bits .or .i64 x5_1 (shl .i64 (Int.tmod (wrap64 (bt a0 x6_1)) 128) (ji8)), wrap64 (x6_1 + 1), true))) else (some (Go.bits .or .i64 x5_1 (shl .i64 (Int.tmod (wrap64 (bt a0 x6_1)) 128) (ji8)), wrap64 (x6_1 + 1), true)))) else (impl_GetVar.l0 kj1 a0 (Go.bits .or .i64 x5_1 (shl .i64 (Int.tmod (wrap64 (bt a0 x6_1)) 128) (ji8))) (wrap64 (x6_1 + 1)))) else (none)) = some (r1, r2, r3) := by first | (rw [hji8] at H; exact H) | (simp only [hji8] at H ⊢; exact H)
                have hji8w : (IntKind.i64.wrap (7 * x6_1)) = ji8 := (i64_w _).trans hji8
                by_cases c9 : 0 ≤ (ji8)
                · rw [if_pos c9] at H
                  have c9b0 := eq_true c9
                  have c9b1 : decide (0 ≤ (ji8)) = true := decide_eq_true c9
                  clear c9
                  obtain ⟨ji10, hji10⟩ : ∃ j_ : Int, (shl .i64 (Int.tmod (wrap64 (bt a0 x6_1)) 128) (ji8)) = j_ := ⟨_, rfl⟩
                  replace H : (if (wrap64 (bt a0 x6_1)) < 128 then (if (Go.bits .or .i64 x5_1 (ji10)) > 4611686018427387904 then (some (0, 0, false)) else (if x6_1 > 0 then (if (wrap64 (bt a0 x6_1)) = 0 then (some (0, 0, false)) else (some (Go.bits .or .i64 x5_1 (ji10), wrap64 (x6_1 + 1), true))) else (some (Go.bits .or .i64 x5_1 (ji10), wrap64 (x6_1 + 1), true)))) else (impl_GetVar.l0 kj1 a0 (Go.bits .or .i64 x5_1 (ji10)) (wrap64 (x6_1 + 1)))) = some (r1, r2, r3) := by first | (rw [hji10] at H; exact H) | (simp only [hji10] at H ⊢; exact H)
                  have hji10_ : (IntKind.i64.wrap ((Int.tmod (wrap64 (bt a0 x6_1)) 128) * 2 ^ min (ji8).toNat 64)) = ji10 := hji10
                  have hji10z : (ji8) ≤ 64 → (IntKind.i64.wrap ((Int.tmod (wrap64 (bt a0 x6_1)) 128) * 2 ^ (ji8).toNat)) = ji10 := shl_small hji10
                  have hji10y : (wrap64 ((Int.tmod (wrap64 (bt a0 x6_1)) 128) * 2 ^ min (ji8).toNat 64)) = ji10 := (i64_w _).symm.trans hji10_
                  have hji10x : (ji8) ≤ 64 → (wrap64 ((Int.tmod (wrap64 (bt a0 x6_1)) 128) * 2 ^ (ji8).toNat)) = ji10 := fun h_ => (i64_w _).symm.trans (hji10z h_)
                  by_cases c11 : (wrap64 (bt a0 x6_1)) < 128
                  · rw [if_pos c11] at H
                    have c11b0 : decide ((wrap64 (bt a0 x6_1)) < 128) = true := decide_eq_true c11
                    clear c11
                    by_cases c12 : (Go.bits .or .i64 x5_1 (ji10)) > 4611686018427387904
                    · rw [if_pos c12] at H
                      have c12b0 : decide (4611686018427387904 < (Go.bits .or .i64 x5_1 (ji10))) = true := decide_eq_true c12
                      clear c12
                      simp only [Option.some.injEq, Prod.mk.injEq] at H
                      obtain ⟨rfl, rfl, rfl⟩ := H
                      have p7 : 0 ≤ (x6_1 : Int) := of_decide_eq_true (by first | (with_reducible assumption) | assumption)
                      have q7 : x6_1 < (a0.size : Int) := of_decide_eq_true (by first | (with_reducible assumption) | assumption)
                      have hx7 := bt_at a0 x6_1
                      replace p7 := eq_true p7
                      replace q7 := eq_true q7
                      go_wp2
                      go_ret3
                      exact ⟨by first | rfl | (simp; done) | (simp only [← hji8, ← hji10] <;> (first | rfl | simp)) | (simp [*]; done), by repeat (first | exact Drawn0.refl _ | apply Drawn0.step)⟩
                    · rw [if_neg c12] at H
                      have c12b0 : decide (4611686018427387904 < (Go.bits .or .i64 x5_1 (ji10))) = false := decide_eq_false c12
                      clear c12
                      by_cases c13 : x6_1 > 0
                      · rw [if_pos c13] at H
                        have c13b0 : decide (0 < x6_1) = true := decide_eq_true c13
                        clear c13
                        by_cases c14 : (wrap64 (bt a0 x6_1)) = 0
                        · rw [if_pos c14] at H
                          have c14b0 : ((wrap64 (bt a0 x6_1)) == 0) = true := beq_iff_eq.mpr c14
                          have c14b1 : ((wrap64 (bt a0 x6_1)) != 0) = false := bne_eq_false_iff_eq.mpr c14
                          clear c14
                          simp only [Option.some.injEq, Prod.mk.injEq] at H
                          obtain ⟨rfl, rfl, rfl⟩ := H
                          have p7 : 0 ≤ (x6_1 : Int) := of_decide_eq_true (by first | (with_reducible assumption) | assumption)
                          have q7 : x6_1 < (a0.size : Int) := of_decide_eq_true (by first | (with_reducible assumption) | assumption)
                          have hx7 := bt_at a0 x6_1
                          replace p7 := eq_true p7
                          replace q7 := eq_true q7
                          go_wp2
                          go_ret3
                          exact ⟨by first | rfl | (simp; done) | (simp only [← hji8, ← hji10] <;> (first | rfl | simp)) | (simp [*]; done), by repeat (first | exact Drawn0.refl _ | apply Drawn0.step)⟩
                        · rw [if_neg c14] at H
                          have c14b0 : ((wrap64 (bt a0 x6_1)) == 0) = false := beq_eq_false_iff_ne.mpr c14
                          have c14b1 : ((wrap64 (bt a0 x6_1)) != 0) = true := bne_iff_ne.mpr c14
                          simp only [Option.some.injEq, Prod.mk.injEq] at H
                          obtain ⟨rfl, rfl, rfl⟩ := H
                          have p7 : 0 ≤ (x6_1 : Int) := of_decide_eq_true (by first | (with_reducible assumption) | assumption)
                          have q7 : x6_1 < (a0.size : Int) := of_decide_eq_true (by first | (with_reducible assumption) | assumption)
                          have hx7 := bt_at a0 x6_1
                          replace p7 := eq_true p7
                          replace q7 := eq_true q7
                          go_wp2
                          go_ret3
                          exact ⟨by first | rfl | (simp; done) | (simp only [← hji8, ← hji10] <;> (first | rfl | simp)) | (simp [*]; done), by repeat (first | exact Drawn0.refl _ | apply Drawn0.step)⟩
                      · rw [if_neg c13] at H
                        have c13b0 : decide (0 < x6_1) = false := decide_eq_false c13
                        clear c13
                        simp only [Option.some.injEq, Prod.mk.injEq] at H
                        obtain ⟨rfl, rfl, rfl⟩ := H
                        have p7 : 0 ≤ (x6_1 : Int) := of_decide_eq_true (by first | (with_reducible assumption) | assumption)
                        have q7 : x6_1 < (a0.size : Int) := of_decide_eq_true (by first | (with_reducible assumption) | assumption)
                        have hx7 := bt_at a0 x6_1
                        replace p7 := eq_true p7
                        replace q7 := eq_true q7
                        go_wp2
                        go_ret3
                        exact ⟨by first | rfl | (simp; done) | (simp only [← hji8, ← hji10] <;> (first | rfl | simp)) | (simp [*]; done), by repeat (first | exact Drawn0.refl _ | apply Drawn0.step)⟩
                  · rw [if_neg c11] at H
                    have c11b0 : decide ((wrap64 (bt a0 x6_1)) < 128) = false := decide_eq_false c11
                    clear c11
                    have H' := Aside0.mk H
                    clear H
                    have p7 : 0 ≤ (x6_1 : Int) := of_decide_eq_true (by first | (with_reducible assumption) | assumption)
                    have q7 : x6_1 < (a0.size : Int) := of_decide_eq_true (by first | (with_reducible assumption) | assumption)
                    have hx7 := bt_at a0 x6_1
                    replace p7 := eq_true p7
                    replace q7 := eq_true q7
                    go_wp2
                    go_roundg kj1
                    case measure => have := HK1.out; have := HJ1.out; omega
                    case rel => exact ⟨(Go.bits .or .i64 x5_1 (ji10)), (wrap64 (x6_1 + 1)), (by first | rfl | (simp; done) | (simp only [← hji10] <;> (first | rfl | simp)) | (simp [*]; done)), (by first | rfl | (simp; done) | (simp [*]; done)), H', ⟨by have := HK1.out; have := HJ1.out; omega⟩, by repeat (first | exact Drawn0.refl _ | apply Drawn0.step)⟩
                · rw [if_neg c9] at H
                  exact absurd H (by simp)
              · rw [if_neg c6] at H
                exact absurd H (by simp)
            · rw [if_neg c5] at H
              exact absurd H (by simp)
          · replace c4 := Bool.eq_false_iff.mpr c4
            subst c4
            have H1 : (some (0, 0, false)) = some (r1, r2, r3) := by rw [if_neg (show ¬ (false = true) by decide)] at H; exact H
            clear H
            have H := H1
            clear H1
            simp only [Option.some.injEq, Prod.mk.injEq] at H
            obtain ⟨rfl, rfl, rfl⟩ := H
            go_wp2
            go_ret3
            exact ⟨by first | rfl | (simp; done) | (simp [*]; done), by repeat (first | exact Drawn0.refl _ | apply Drawn0.step)⟩

end Go.Proofs.Ytlocignlkigojaa.Q
