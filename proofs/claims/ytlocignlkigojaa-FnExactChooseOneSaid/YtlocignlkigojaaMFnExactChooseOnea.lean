/- Walks and plain laws of one claim, several texts in one. -/
import Derived.Test.YtlocignlkigojaaQ0
import Derived.Test.YtlocignlkigojaaQf82
import Derived.Test.YtlocignlkigojaaQf139
import Derived.Test.YtlocignlkigojaaQf22
import Derived.Test.YtlocignlkigojaaQf24
import Derived.Test.YtlocignlkigojaaQf26
import Derived.Test.YtlocignlkigojaaQf63
import Derived.Test.YtlocignlkigojaaWMore
import Derived.Test.YtlocignlkigojaaQf92
import Derived.Test.YtlocignlkigojaaQf96
import Derived.Test.YtlocignlkigojaaQf30
import Derived.Laws.BitsLemmas
import Derived.Test.YtlocignlkigojaaQf133
import Derived.Test.YtlocignlkigojaaQf147
import Derived.Test.YtlocignlkigojaaQf69
import Derived.Test.YtlocignlkigojaaQf141
import Derived.Test.YtlocignlkigojaaQf25
import Derived.Test.YtlocignlkigojaaQf125
import Derived.Test.YtlocignlkigojaaOTypes
-- text Qf86
namespace Go.Proofs.Ytlocignlkigojaa.Q
open Go.RowKit Go.Proofs.YtlocignlkigojaaW.PrintWords Go.Proofs.YtlocignlkigojaaW.PrintLast Go.Proofs.YtlocignlkigojaaW.PrintMore
attribute [local go_sem] max2_int min2_int max_two min_two max_three min_three max_four min_four   -- for this text's walks alone
set_option linter.unusedVariables false
set_option linter.unusedSimpArgs false

/-! ### spec_l07OK: function 86 -/
mutual
def spec_l07OK.l0 : Nat → List (S26) → Int → Option (Bool)
  | 0, _, _ => none
  | k + 1, x0, x3 => if x3 < (x0.length : Int) then (if 0 ≤ x3 then ((spec_l07Item.f ((rd_T26 x0 x3).f0) ((rd_T26 x0 x3).f1)).bind fun t144 => (if t144 = true then (spec_l07OK.l1 k x0 x3 0) else (some false))) else (none)) else (some true)
def spec_l07OK.l1 : Nat → List (S26) → Int → Int → Option (Bool)
  | 0, _, _, _ => none
  | k + 1, x0, x3, x4 => if x4 < x3 then (if 0 ≤ x4 then (if x4 < (x0.length : Int) then (if 0 ≤ x3 then (if x3 < (x0.length : Int) then (if ((rd_T26 x0 x4).f0) = ((rd_T26 x0 x3).f0) then (some false) else (spec_l07OK.l1 k x0 x3 (wrap64 (x4 + 1)))) else (none)) else (none)) else (none)) else (none)) else (spec_l07OK.l0 k x0 (wrap64 (x3 + 1)))
end
def spec_l07OK.f (k : Nat) (l0 : List (S26)) : Option (Bool) := if (l0.length : Int) > 8 then (some false) else (spec_l07OK.l0 k l0 0)
theorem spec_l07OK.mono_l : ∀ k, (∀ y0 y1, LeO (spec_l07OK.l0 k y0 y1) (spec_l07OK.l0 (k + 1) y0 y1)) ∧ (∀ y0 y1 y2, LeO (spec_l07OK.l1 k y0 y1 y2) (spec_l07OK.l1 (k + 1) y0 y1 y2))
  | 0 => ⟨fun _ _ r h => by simp [spec_l07OK.l0] at h, fun _ _ _ r h => by simp [spec_l07OK.l1] at h⟩
  | k + 1 => by
    obtain ⟨ih0, ih1⟩ := spec_l07OK.mono_l k
    refine ⟨?_, ?_⟩
    · intro y0 y1
      unfold spec_l07OK.l0
      repeat' first
      | (with_reducible exact ih0 _ _)
      | (with_reducible exact ih1 _ _ _)
      | (with_reducible exact LeO.refl _)
      | (with_reducible exact LeO.none _)
      | (with_reducible refine LeO.ite ?_ ?_)
      | (with_reducible refine LeO.bind ?_ (fun _ => ?_))
      | exact ih0 _ _
      | exact ih1 _ _ _
      | exact LeO.none _
      | refine LeO.ite ?_ ?_
      | refine LeO.bind ?_ (fun _ => ?_)
    · intro y0 y1 y2
      unfold spec_l07OK.l1
      repeat' first
      | (with_reducible exact ih0 _ _)
      | (with_reducible exact ih1 _ _ _)
      | (with_reducible exact LeO.refl _)
      | (with_reducible exact LeO.none _)
      | (with_reducible refine LeO.ite ?_ ?_)
      | (with_reducible refine LeO.bind ?_ (fun _ => ?_))
      | exact ih0 _ _
      | exact ih1 _ _ _
      | exact LeO.none _
      | refine LeO.ite ?_ ?_
      | refine LeO.bind ?_ (fun _ => ?_)
theorem spec_l07OK.mono : ∀ a0 k, LeO (spec_l07OK.f k a0) (spec_l07OK.f (k + 1) a0) := by
  intro a0 k
  obtain ⟨ih0, ih1⟩ := spec_l07OK.mono_l k
  unfold spec_l07OK.f
  repeat' first
      | (with_reducible exact ih0 _ _)
      | (with_reducible exact ih1 _ _ _)
      | (with_reducible exact LeO.refl _)
      | (with_reducible exact LeO.none _)
      | (with_reducible refine LeO.ite ?_ ?_)
      | (with_reducible refine LeO.bind ?_ (fun _ => ?_))
      | exact ih0 _ _
      | exact ih1 _ _ _
      | exact LeO.none _
      | refine LeO.ite ?_ ?_
      | refine LeO.bind ?_ (fun _ => ?_)
set_option maxHeartbeats 8000000 in
set_option maxRecDepth 100000 in
theorem spec_l07OK.calls (k : Nat) (A0 : Option Addr) (c0 : Nat) (l0 : List (S26)) (r : Bool) (w : World) (hr0 : Kd.C k26 w A0 l0.length l0) (hc0 : l0.length ≤ c0) (h : spec_l07OK.f k l0 = some r) :
    Calls Try.prog 86 #[.slice A0 l0.length c0] w fun e w' => e = .returned (.bool r) ∧ Below w.heap.size w w' := by
  have hu26 := Try.underlying26
  have HR0 := Aside0.mk hr0
  have HC0 := Aside0.mk hc0
  clear hr0 hc0
  have HB := Aside0.mk (Below.refl w.heap.size w)
  have H : (if (l0.length : Int) > 8 then (some false) else (spec_l07OK.l0 k l0 0)) = some r := h
  clear h
  by_cases c2 : (l0.length : Int) > 8
  · rw [if_pos c2] at H
    have c2b0 : decide (8 < (l0.length : Int)) = true := decide_eq_true c2
    have c2b1 : decide (8 < l0.length) = true := decide_eq_true (by omega)
    clear c2
    obtain rfl := Option.some.inj H
    go_enter Try.func86, Try.ntmps86
    go_wp2
    repeat (go_quiet (fail); try go_wp2)
    go_ret
    exact ⟨by first | rfl | (simp [errW_none, errW_some] <;> rfl) | (simp [*, errW_none, errW_some] <;> rfl), by repeat (first | (with_reducible first | exact HB.out | apply below_alloc | apply pw_below_drewN | apply below_drew1) | exact HB.out)⟩
  · rw [if_neg c2] at H
    have c2b0 : decide (8 < (l0.length : Int)) = false := decide_eq_false c2
    have c2b1 : decide (8 < l0.length) = false := decide_eq_false (by omega)
    clear c2
    have H' := Aside0.mk H
    clear H
    go_enter Try.func86, Try.ntmps86
    go_wp2
    repeat (go_quiet (fail); try go_wp2)
    go_loopg [3] k (fun kq v3 w' => ∃ (x3_1 : Int), v3 = .int .i64 x3_1 ∧ Aside0 (spec_l07OK.l0 kq l0 x3_1 = some r) ∧ Aside0 (kq ≤ k) ∧ Aside0 (Below w.heap.size w w'))
    case atStart => exact ⟨(0), (by first | rfl | (simp; done) | (simp [*]; done)), H', ⟨Nat.le_refl _⟩, ⟨by repeat (first | (with_reducible first | exact HB.out | apply below_alloc | apply pw_below_drewN | apply below_drew1) | exact HB.out)⟩⟩
    case round =>
      clear H'
      try clear c2
      try clear c2b0
      try clear c2b1
      try clear p2
      obtain ⟨x3_1, rfl, HA, HK1, HB⟩ := hrel
      cases gk with
      | zero => exact absurd HA.out (by simp [spec_l07OK.l0])
      | succ k1 =>
        have H := HA.out
        clear HA
        simp only [spec_l07OK.l0] at H
        by_cases c3 : x3_1 < (l0.length : Int)
        · rw [if_pos c3] at H
          have c3b0 : decide (x3_1 < (l0.length : Int)) = true := decide_eq_true c3
          clear c3
          by_cases c4 : 0 ≤ x3_1
          · rw [if_pos c4] at H
            have c4b0 : decide (0 ≤ x3_1) = true := decide_eq_true c4
            clear c4
            replace H := Option.bind_eq_some_iff.mp H
            obtain ⟨t144, A50, H⟩ := H
            replace H : (if t144 = true then (spec_l07OK.l1 k1 l0 x3_1 0) else (some false)) = some r := H
            have A5 := Aside0.mk A50
            clear A50
            by_cases c6 : t144 = true
            · subst c6
              have H1 : (spec_l07OK.l1 k1 l0 x3_1 0) = some r := by rw [if_pos rfl] at H; exact H
              clear H
              have H := H1
              clear H1
              have H' := Aside0.mk H
              clear H
              have p143 : 0 ≤ (x3_1 : Int) := of_decide_eq_true (by first | (with_reducible assumption) | assumption)
              have q143 : x3_1 < (l0.length : Int) := of_decide_eq_true (by first | (with_reducible assumption) | assumption)
              obtain ⟨ad143, e143, hx143_0, hx143_1⟩ := at_T26 HR0.out x3_1 p143 q143
              cases e143
              replace hx143_0 := (HB.out.cell (World.block_lt_of_cell? w _ hx143_0)).trans hx143_0
              replace hx143_1 := (HB.out.cell (World.block_lt_of_cell? w _ hx143_1)).trans hx143_1
              replace p143 := eq_true p143
              replace q143 := eq_true q143
              go_wp2_with (first | (go_at_call 82; (with_reducible refine (spec_l07Item.calls ((rd_T26 l0 x3_1).f0) ((rd_T26 l0 x3_1).f1) true _ A5.out).mono ?_); rintro e w7 ⟨rfl, hb⟩; have n0_ := Aside0.mk (below_step (by repeat (first | (with_reducible first | exact HB.out | apply below_alloc | apply pw_below_drewN | apply below_drew1) | exact HB.out)) hb); clear HB; have HB := n0_; clear n0_; (try clear hb); (try clear hb2); (try clear hk); (try clear hi)))
              repeat (go_quiet (first | (go_at_call 82; (with_reducible refine (spec_l07Item.calls ((rd_T26 l0 x3_1).f0) ((rd_T26 l0 x3_1).f1) true _ A5.out).mono ?_); rintro e w7 ⟨rfl, hb⟩; have n0_ := Aside0.mk (below_step (by repeat (first | (with_reducible first | exact HB.out | apply below_alloc | apply pw_below_drewN | apply below_drew1) | exact HB.out)) hb); clear HB; have HB := n0_; clear n0_; (try clear hb); (try clear hb2); (try clear hk); (try clear hi))); try go_wp2_with (first | (go_at_call 82; (with_reducible refine (spec_l07Item.calls ((rd_T26 l0 x3_1).f0) ((rd_T26 l0 x3_1).f1) true _ A5.out).mono ?_); rintro e w7 ⟨rfl, hb⟩; have n0_ := Aside0.mk (below_step (by repeat (first | (with_reducible first | exact HB.out | apply below_alloc | apply pw_below_drewN | apply below_drew1) | exact HB.out)) hb); clear HB; have HB := n0_; clear n0_; (try clear hb); (try clear hb2); (try clear hk); (try clear hi))))
              go_loopg [4] k1 (fun kq v4 w' => ∃ (x4_2 : Int), v4 = .int .i64 x4_2 ∧ Aside0 (spec_l07OK.l1 kq l0 x3_1 x4_2 = some r) ∧ Aside0 (kq ≤ k1) ∧ Aside0 (Below w.heap.size w w'))
              case atStart => exact ⟨(0), (by first | rfl | (simp; done) | (simp [*]; done)), H', ⟨Nat.le_refl _⟩, ⟨by repeat (first | (with_reducible first | exact HB.out | apply below_alloc | apply pw_below_drewN | apply below_drew1) | exact HB.out)⟩⟩
              case round =>
                clear H'
                try clear p1
                try clear q1
                try clear hx1
                try clear c2
                try clear c2b0
                try clear c2b1
                try clear p2
                try clear c3
                try clear c3b0
                try clear c4
                try clear c4b0
                try clear c6
                try clear hx143_0
                try clear hx143_1
                try clear p143
                try clear p2
                try clear q143
                obtain ⟨x4_2, rfl, HA, HK2, HB⟩ := hrel
                cases gk with
                | zero => exact absurd HA.out (by simp [spec_l07OK.l1])
                | succ k2 =>
                  have H := HA.out
                  clear HA
                  simp only [spec_l07OK.l1] at H
                  by_cases c8 : x4_2 < x3_1
                  · rw [if_pos c8] at H
                    have c8b0 : decide (x4_2 < x3_1) = true := decide_eq_true c8
                    clear c8
                    by_cases c9 : 0 ≤ x4_2
                    · rw [if_pos c9] at H
                      have c9b0 : decide (0 ≤ x4_2) = true := decide_eq_true c9
                      clear c9
                      by_cases c10 : x4_2 < (l0.length : Int)
                      · rw [if_pos c10] at H
                        have c10b0 : decide (x4_2 < (l0.length : Int)) = true := decide_eq_true c10
                        clear c10
                        by_cases c11 : 0 ≤ x3_1
                        · rw [if_pos c11] at H
                          have c11b0 : decide (0 ≤ x3_1) = true := decide_eq_true c11
                          clear c11
                          by_cases c12 : x3_1 < (l0.length : Int)
                          · rw [if_pos c12] at H
                            have c12b0 : decide (x3_1 < (l0.length : Int)) = true := decide_eq_true c12
                            clear c12
                            by_cases c13 : ((rd_T26 l0 x4_2).f0) = ((rd_T26 l0 x3_1).f0)
                            · rw [if_pos c13] at H
                              have c13b0 : (((rd_T26 l0 x4_2).f0) == ((rd_T26 l0 x3_1).f0)) = true := beq_iff_eq.mpr c13
                              have c13b1 : (((rd_T26 l0 x4_2).f0) != ((rd_T26 l0 x3_1).f0)) = false := bne_eq_false_iff_eq.mpr c13
                              clear c13
                              obtain rfl := Option.some.inj H
                              have p145 : 0 ≤ (x4_2 : Int) := of_decide_eq_true (by first | (with_reducible assumption) | assumption)
                              have q145 : x4_2 < (l0.length : Int) := of_decide_eq_true (by first | (with_reducible assumption) | assumption)
                              obtain ⟨ad145, e145, hx145_0, hx145_1⟩ := at_T26 HR0.out x4_2 p145 q145
                              obtain rfl : ad143 = ad145 := (by injection e145)
                              replace hx145_0 := (HB.out.cell (World.block_lt_of_cell? w _ hx145_0)).trans hx145_0
                              replace hx145_1 := (HB.out.cell (World.block_lt_of_cell? w _ hx145_1)).trans hx145_1
                              replace p145 := eq_true p145
                              replace q145 := eq_true q145
                              have p146 : 0 ≤ (x3_1 : Int) := of_decide_eq_true (by first | (with_reducible assumption) | assumption)
                              have q146 : x3_1 < (l0.length : Int) := of_decide_eq_true (by first | (with_reducible assumption) | assumption)
                              obtain ⟨ad146, e146, hx146_0, hx146_1⟩ := at_T26 HR0.out x3_1 p146 q146
                              obtain rfl : ad143 = ad146 := (by injection e146)
                              replace hx146_0 := (HB.out.cell (World.block_lt_of_cell? w _ hx146_0)).trans hx146_0
                              replace hx146_1 := (HB.out.cell (World.block_lt_of_cell? w _ hx146_1)).trans hx146_1
                              replace p146 := eq_true p146
                              replace q146 := eq_true q146
                              go_wp2
                              repeat (go_quiet (fail); try go_wp2)
                              go_ret
                              exact ⟨by first | rfl | (simp [errW_none, errW_some] <;> rfl) | (simp [*, errW_none, errW_some] <;> rfl), by repeat (first | (with_reducible first | exact HB.out | apply below_alloc | apply pw_below_drewN | apply below_drew1) | exact HB.out)⟩
                            · rw [if_neg c13] at H
                              have c13b0 : (((rd_T26 l0 x4_2).f0) == ((rd_T26 l0 x3_1).f0)) = false := beq_eq_false_iff_ne.mpr c13
                              have c13b1 : (((rd_T26 l0 x4_2).f0) != ((rd_T26 l0 x3_1).f0)) = true := bne_iff_ne.mpr c13
                              have H' := Aside0.mk H
                              clear H
                              have p145 : 0 ≤ (x4_2 : Int) := of_decide_eq_true (by first | (with_reducible assumption) | assumption)
                              have q145 : x4_2 < (l0.length : Int) := of_decide_eq_true (by first | (with_reducible assumption) | assumption)
                              obtain ⟨ad145, e145, hx145_0, hx145_1⟩ := at_T26 HR0.out x4_2 p145 q145
                              obtain rfl : ad143 = ad145 := (by injection e145)
                              replace hx145_0 := (HB.out.cell (World.block_lt_of_cell? w _ hx145_0)).trans hx145_0
                              replace hx145_1 := (HB.out.cell (World.block_lt_of_cell? w _ hx145_1)).trans hx145_1
                              replace p145 := eq_true p145
                              replace q145 := eq_true q145
                              have p146 : 0 ≤ (x3_1 : Int) := of_decide_eq_true (by first | (with_reducible assumption) | assumption)
                              have q146 : x3_1 < (l0.length : Int) := of_decide_eq_true (by first | (with_reducible assumption) | assumption)
                              obtain ⟨ad146, e146, hx146_0, hx146_1⟩ := at_T26 HR0.out x3_1 p146 q146
                              obtain rfl : ad143 = ad146 := (by injection e146)
                              replace hx146_0 := (HB.out.cell (World.block_lt_of_cell? w _ hx146_0)).trans hx146_0
                              replace hx146_1 := (HB.out.cell (World.block_lt_of_cell? w _ hx146_1)).trans hx146_1
                              replace p146 := eq_true p146
                              replace q146 := eq_true q146
                              go_wp2
                              repeat (go_quiet (fail); try go_wp2)
                              go_roundg k2
                              case measure => have := HK1.out; have := HK2.out; omega
                              case rel => exact ⟨(wrap64 (x4_2 + 1)), (by first | rfl | (simp; done) | (simp [*]; done)), H', ⟨by have := HK1.out; have := HK2.out; omega⟩, ⟨by repeat (first | (with_reducible first | exact HB.out | apply below_alloc | apply pw_below_drewN | apply below_drew1) | exact HB.out)⟩⟩
                          · rw [if_neg c12] at H
                            exact absurd H (by simp)
                        · rw [if_neg c11] at H
                          exact absurd H (by simp)
                      · rw [if_neg c10] at H
                        exact absurd H (by simp)
                    · rw [if_neg c9] at H
                      exact absurd H (by simp)
                  · rw [if_neg c8] at H
                    have c8b0 : decide (x4_2 < x3_1) = false := decide_eq_false c8
                    clear c8
                    have H' := Aside0.mk H
                    clear H
                    go_wp2
                    repeat (go_quiet (fail); try go_wp2)
                    go_roundg k2
                    case measure => have := HK1.out; have := HK2.out; omega
                    case rel => exact ⟨(wrap64 (x3_1 + 1)), (by first | rfl | (simp; done) | (simp [*]; done)), H', ⟨by have := HK1.out; have := HK2.out; omega⟩, ⟨by repeat (first | (with_reducible first | exact HB.out | apply below_alloc | apply pw_below_drewN | apply below_drew1) | exact HB.out)⟩⟩
            · replace c6 := Bool.eq_false_iff.mpr c6
              subst c6
              have H1 : (some false) = some r := by rw [if_neg (show ¬ (false = true) by decide)] at H; exact H
              clear H
              have H := H1
              clear H1
              obtain rfl := Option.some.inj H
              have p143 : 0 ≤ (x3_1 : Int) := of_decide_eq_true (by first | (with_reducible assumption) | assumption)
              have q143 : x3_1 < (l0.length : Int) := of_decide_eq_true (by first | (with_reducible assumption) | assumption)
              obtain ⟨ad143, e143, hx143_0, hx143_1⟩ := at_T26 HR0.out x3_1 p143 q143
              cases e143
              replace hx143_0 := (HB.out.cell (World.block_lt_of_cell? w _ hx143_0)).trans hx143_0
              replace hx143_1 := (HB.out.cell (World.block_lt_of_cell? w _ hx143_1)).trans hx143_1
              replace p143 := eq_true p143
              replace q143 := eq_true q143
              go_wp2_with (first | (go_at_call 82; (with_reducible refine (spec_l07Item.calls ((rd_T26 l0 x3_1).f0) ((rd_T26 l0 x3_1).f1) false _ A5.out).mono ?_); rintro e w14 ⟨rfl, hb⟩; have n0_ := Aside0.mk (below_step (by repeat (first | (with_reducible first | exact HB.out | apply below_alloc | apply pw_below_drewN | apply below_drew1) | exact HB.out)) hb); clear HB; have HB := n0_; clear n0_; (try clear hb); (try clear hb2); (try clear hk); (try clear hi)))
              repeat (go_quiet (first | (go_at_call 82; (with_reducible refine (spec_l07Item.calls ((rd_T26 l0 x3_1).f0) ((rd_T26 l0 x3_1).f1) false _ A5.out).mono ?_); rintro e w14 ⟨rfl, hb⟩; have n0_ := Aside0.mk (below_step (by repeat (first | (with_reducible first | exact HB.out | apply below_alloc | apply pw_below_drewN | apply below_drew1) | exact HB.out)) hb); clear HB; have HB := n0_; clear n0_; (try clear hb); (try clear hb2); (try clear hk); (try clear hi))); try go_wp2_with (first | (go_at_call 82; (with_reducible refine (spec_l07Item.calls ((rd_T26 l0 x3_1).f0) ((rd_T26 l0 x3_1).f1) false _ A5.out).mono ?_); rintro e w14 ⟨rfl, hb⟩; have n0_ := Aside0.mk (below_step (by repeat (first | (with_reducible first | exact HB.out | apply below_alloc | apply pw_below_drewN | apply below_drew1) | exact HB.out)) hb); clear HB; have HB := n0_; clear n0_; (try clear hb); (try clear hb2); (try clear hk); (try clear hi))))
              go_ret
              exact ⟨by first | rfl | (simp [errW_none, errW_some] <;> rfl) | (simp [*, errW_none, errW_some] <;> rfl), by repeat (first | (with_reducible first | exact HB.out | apply below_alloc | apply pw_below_drewN | apply below_drew1) | exact HB.out)⟩
          · rw [if_neg c4] at H
            exact absurd H (by simp)
        · rw [if_neg c3] at H
          have c3b0 : decide (x3_1 < (l0.length : Int)) = false := decide_eq_false c3
          clear c3
          obtain rfl := Option.some.inj H
          go_wp2
          repeat (go_quiet (fail); try go_wp2)
          go_ret
          exact ⟨by first | rfl | (simp [errW_none, errW_some] <;> rfl) | (simp [*, errW_none, errW_some] <;> rfl), by repeat (first | (with_reducible first | exact HB.out | apply below_alloc | apply pw_below_drewN | apply below_drew1) | exact HB.out)⟩

end Go.Proofs.Ytlocignlkigojaa.Q

-- text Qf78
namespace Go.Proofs.Ytlocignlkigojaa.Q
open Go.RowKit Go.Proofs.YtlocignlkigojaaW.PrintWords Go.Proofs.YtlocignlkigojaaW.PrintLast Go.Proofs.YtlocignlkigojaaW.PrintMore
attribute [local go_sem] max2_int min2_int max_two min_two max_three min_three max_four min_four   -- for this text's walks alone
set_option linter.unusedVariables false
set_option linter.unusedSimpArgs false

/-! ### spec_ChooseOne: function 78 -/
def spec_ChooseOne.f (k : Nat) (l0 : List (S26)) (a1 : Int) (a2 : Int) : Option (Int × Int) := (spec_l07OK.f k l0).bind fun t861 => (if t861 = true then ((spec_l07Choose.f k l0 a1 a2).bind fun bt862 => (if bt862.2 = true then (some (bt862.1, 0)) else (some (0, 3)))) else (some (0, 1)))
theorem spec_ChooseOne.mono : ∀ a0 a1 a2 k, LeO (spec_ChooseOne.f k a0 a1 a2) (spec_ChooseOne.f (k + 1) a0 a1 a2) := by
  intro a0 a1 a2 k
  unfold spec_ChooseOne.f
  repeat' first
      | (with_reducible exact spec_l07Choose.mono _ _ _ _)
      | (with_reducible exact spec_l07OK.mono _ _)
      | (with_reducible exact LeO.refl _)
      | (with_reducible exact LeO.none _)
      | (with_reducible refine LeO.ite ?_ ?_)
      | (with_reducible refine LeO.bind ?_ (fun _ => ?_))
      | exact spec_l07Choose.mono _ _ _ _
      | exact spec_l07OK.mono _ _
      | exact LeO.none _
      | refine LeO.ite ?_ ?_
      | refine LeO.bind ?_ (fun _ => ?_)
set_option maxHeartbeats 8000000 in
set_option maxRecDepth 100000 in
theorem spec_ChooseOne.calls (k : Nat) (A0 : Option Addr) (c0 : Nat) (l0 : List (S26)) (a1 : Int) (a2 : Int) (r1 : Int) (r2 : Int) (w : World) (hr0 : Kd.C k26 w A0 l0.length l0) (hc0 : l0.length ≤ c0) (h : spec_ChooseOne.f k l0 a1 a2 = some (r1, r2)) :
    Calls Try.prog 78 #[.slice A0 l0.length c0, .int .i64 a1, .int .i64 a2] w fun e w' => e = .returned (.tuple #[.int .i64 r1, .int .i64 r2]) ∧ Below w.heap.size w w' := by
  have HR0 := Aside0.mk hr0
  have HC0 := Aside0.mk hc0
  clear hr0 hc0
  have HB := Aside0.mk (Below.refl w.heap.size w)
  have H : ((spec_l07OK.f k l0).bind fun t861 => (if t861 = true then ((spec_l07Choose.f k l0 a1 a2).bind fun bt862 => (if bt862.2 = true then (some (bt862.1, 0)) else (some (0, 3)))) else (some (0, 1)))) = some (r1, r2) := h
  clear h
  replace H := Option.bind_eq_some_iff.mp H
  obtain ⟨t861, A40, H⟩ := H
  replace H : (if t861 = true then ((spec_l07Choose.f k l0 a1 a2).bind fun bt862 => (if bt862.2 = true then (some (bt862.1, 0)) else (some (0, 3)))) else (some (0, 1))) = some (r1, r2) := H
  have A4 := Aside0.mk A40
  clear A40
  by_cases c5 : t861 = true
  · subst c5
    have H1 : ((spec_l07Choose.f k l0 a1 a2).bind fun bt862 => (if bt862.2 = true then (some (bt862.1, 0)) else (some (0, 3)))) = some (r1, r2) := by rw [if_pos rfl] at H; exact H
    clear H
    have H := H1
    clear H1
    replace H := Option.bind_eq_some_iff.mp H
    obtain ⟨⟨t862, t863⟩, A60, H⟩ := H
    replace H : (if t863 = true then (some (t862, 0)) else (some (0, 3))) = some (r1, r2) := H
    have A6 := Aside0.mk A60
    clear A60
    by_cases c7 : t863 = true
    · subst c7
      have H1 : (some (t862, 0)) = some (r1, r2) := by rw [if_pos rfl] at H; exact H
      clear H
      have H := H1
      clear H1
      simp only [Option.some.injEq, Prod.mk.injEq] at H
      obtain ⟨rfl, rfl⟩ := H
      go_enter Try.func78, Try.ntmps78
      go_wp2_with (first | ((with_reducible refine gate_callee (f := 86) rfl ?_); refine goesL_ (some 11) rfl rfl Try.func86 (by kernel_rfl) rfl #[.slice A0 l0.length c0] rfl (by (try simp only [List.map_toArray, List.map_cons, List.map_nil]); first | done | rfl | (simp only [List.length_drop, List.length_take]; rfl)) ?_; (with_reducible refine (spec_l07OK.calls k _ _ l0 true _ ?side1 ?side2 A4.out).mono ?_); (case side1 => repeat (first | exact HR0.out | (with_reducible refine Kd.C_alloc ?_ _) | (with_reducible refine Kd.C_drewN ?_ _) | (with_reducible refine Kd.C_drew ?_))); (case side2 => exact HC0.out); rintro e w8 ⟨rfl, hb⟩; refine ⟨_, rfl, ?_⟩; have n0_ := Aside0.mk (below_step (by repeat (first | (with_reducible first | exact HB.out | apply below_alloc | apply pw_below_drewN | apply below_drew1) | exact HB.out)) hb); clear HB; have HB := n0_; clear n0_; (try clear hb); (try clear hb2); (try clear hk); (try clear hi)) | ((with_reducible refine gate_callee (f := 139) rfl ?_); refine goesL_ (some 17) rfl rfl Try.func139 (by kernel_rfl) rfl #[.slice A0 l0.length c0, .int .i64 a1, .int .i64 a2] rfl (by (try simp only [List.map_toArray, List.map_cons, List.map_nil]); first | done | rfl | (simp only [List.length_drop, List.length_take]; rfl)) ?_; (with_reducible refine (spec_l07Choose.calls k _ _ l0 a1 a2 t862 true _ ?side1 ?side2 A6.out).mono ?_); (case side1 => repeat (first | exact (Kd.C_below HR0.out HB.out) | (with_reducible refine Kd.C_alloc ?_ _) | (with_reducible refine Kd.C_drewN ?_ _) | (with_reducible refine Kd.C_drew ?_))); (case side2 => exact HC0.out); rintro e w9 ⟨rfl, hb⟩; refine ⟨_, rfl, ?_⟩; have n0_ := Aside0.mk (below_step (by repeat (first | (with_reducible first | exact HB.out | apply below_alloc | apply pw_below_drewN | apply below_drew1) | exact HB.out)) hb); clear HB; have HB := n0_; clear n0_; (try clear hb); (try clear hb2); (try clear hk); (try clear hi)))
      go_ret2
      exact ⟨by first | rfl | (simp [errW_none, errW_some] <;> rfl) | (simp [*, errW_none, errW_some] <;> rfl), by repeat (first | (with_reducible first | exact HB.out | apply below_alloc | apply pw_below_drewN | apply below_drew1) | exact HB.out)⟩
    · replace c7 := Bool.eq_false_iff.mpr c7
      subst c7
      have H1 : (some (0, 3)) = some (r1, r2) := by rw [if_neg (show ¬ (false = true) by decide)] at H; exact H
      clear H
      have H := H1
      clear H1
      simp only [Option.some.injEq, Prod.mk.injEq] at H
      obtain ⟨rfl, rfl⟩ := H
      go_enter Try.func78, Try.ntmps78
      go_wp2_with (first | ((with_reducible refine gate_callee (f := 86) rfl ?_); refine goesL_ (some 11) rfl rfl Try.func86 (by kernel_rfl) rfl #[.slice A0 l0.length c0] rfl (by (try simp only [List.map_toArray, List.map_cons, List.map_nil]); first | done | rfl | (simp only [List.length_drop, List.length_take]; rfl)) ?_; (with_reducible refine (spec_l07OK.calls k _ _ l0 true _ ?side1 ?side2 A4.out).mono ?_); (case side1 => repeat (first | exact HR0.out | (with_reducible refine Kd.C_alloc ?_ _) | (with_reducible refine Kd.C_drewN ?_ _) | (with_reducible refine Kd.C_drew ?_))); (case side2 => exact HC0.out); rintro e w10 ⟨rfl, hb⟩; refine ⟨_, rfl, ?_⟩; have n0_ := Aside0.mk (below_step (by repeat (first | (with_reducible first | exact HB.out | apply below_alloc | apply pw_below_drewN | apply below_drew1) | exact HB.out)) hb); clear HB; have HB := n0_; clear n0_; (try clear hb); (try clear hb2); (try clear hk); (try clear hi)) | ((with_reducible refine gate_callee (f := 139) rfl ?_); refine goesL_ (some 17) rfl rfl Try.func139 (by kernel_rfl) rfl #[.slice A0 l0.length c0, .int .i64 a1, .int .i64 a2] rfl (by (try simp only [List.map_toArray, List.map_cons, List.map_nil]); first | done | rfl | (simp only [List.length_drop, List.length_take]; rfl)) ?_; (with_reducible refine (spec_l07Choose.calls k _ _ l0 a1 a2 t862 false _ ?side1 ?side2 A6.out).mono ?_); (case side1 => repeat (first | exact (Kd.C_below HR0.out HB.out) | (with_reducible refine Kd.C_alloc ?_ _) | (with_reducible refine Kd.C_drewN ?_ _) | (with_reducible refine Kd.C_drew ?_))); (case side2 => exact HC0.out); rintro e w11 ⟨rfl, hb⟩; refine ⟨_, rfl, ?_⟩; have n0_ := Aside0.mk (below_step (by repeat (first | (with_reducible first | exact HB.out | apply below_alloc | apply pw_below_drewN | apply below_drew1) | exact HB.out)) hb); clear HB; have HB := n0_; clear n0_; (try clear hb); (try clear hb2); (try clear hk); (try clear hi)))
      go_ret2
      exact ⟨by first | rfl | (simp [errW_none, errW_some] <;> rfl) | (simp [*, errW_none, errW_some] <;> rfl), by repeat (first | (with_reducible first | exact HB.out | apply below_alloc | apply pw_below_drewN | apply below_drew1) | exact HB.out)⟩
  · replace c5 := Bool.eq_false_iff.mpr c5
    subst c5
    have H1 : (some (0, 1)) = some (r1, r2) := by rw [if_neg (show ¬ (false = true) by decide)] at H; exact H
    clear H
    have H := H1
    clear H1
    simp only [Option.some.injEq, Prod.mk.injEq] at H
    obtain ⟨rfl, rfl⟩ := H
    go_enter Try.func78, Try.ntmps78
    go_wp2_with (first | ((with_reducible refine gate_callee (f := 86) rfl ?_); refine goesL_ (some 11) rfl rfl Try.func86 (by kernel_rfl) rfl #[.slice A0 l0.length c0] rfl (by (try simp only [List.map_toArray, List.map_cons, List.map_nil]); first | done | rfl | (simp only [List.length_drop, List.length_take]; rfl)) ?_; (with_reducible refine (spec_l07OK.calls k _ _ l0 false _ ?side1 ?side2 A4.out).mono ?_); (case side1 => repeat (first | exact HR0.out | (with_reducible refine Kd.C_alloc ?_ _) | (with_reducible refine Kd.C_drewN ?_ _) | (with_reducible refine Kd.C_drew ?_))); (case side2 => exact HC0.out); rintro e w12 ⟨rfl, hb⟩; refine ⟨_, rfl, ?_⟩; have n0_ := Aside0.mk (below_step (by repeat (first | (with_reducible first | exact HB.out | apply below_alloc | apply pw_below_drewN | apply below_drew1) | exact HB.out)) hb); clear HB; have HB := n0_; clear n0_; (try clear hb); (try clear hb2); (try clear hk); (try clear hi)))
    go_ret2
    exact ⟨by first | rfl | (simp [errW_none, errW_some] <;> rfl) | (simp [*, errW_none, errW_some] <;> rfl), by repeat (first | (with_reducible first | exact HB.out | apply below_alloc | apply pw_below_drewN | apply below_drew1) | exact HB.out)⟩

end Go.Proofs.Ytlocignlkigojaa.Q

-- text Qf17
namespace Go.Proofs.Ytlocignlkigojaa.Q
open Go.RowKit Go.Proofs.YtlocignlkigojaaW.PrintWords Go.Proofs.YtlocignlkigojaaW.PrintLast Go.Proofs.YtlocignlkigojaaW.PrintMore
attribute [local go_sem] max2_int min2_int max_two min_two max_three min_three max_four min_four   -- for this text's walks alone
set_option linter.unusedVariables false
set_option linter.unusedSimpArgs false

/-! ### laws_FnExactChooseOne: function 17 -/
def laws_FnExactChooseOne.j0 : Nat → List (S23) → List (S26) → Bool → Option (Bool)
  | 0, _, _, _ => none
  | k + 1, x0, x10, x42 => if x42 = true then (some false) else ((laws_toItemS.f k x0).bind fun t875 => ((laws_eqItemS.f k x10 t875).bind fun t878 => (if t878 = true then (some true) else (some false))))
def laws_FnExactChooseOne.f (k : Nat) (l0 : List (S23)) (a1 : Int) (a2 : Int) : Option (Bool) := (laws_szItemS.f l0 1048576).bind fun t864 => (if t864 < 0 then (some true) else ((laws_toItemS.f k l0).bind fun t865 => ((spec_ChooseOne.f k t865 a1 a2).bind fun bt868 => ((laws_toItemS.f k l0).bind fun t870 => ((impl_ChooseOne.f k t870 a1 a2).bind fun bt873 => (if bt873.1 = bt868.1 then (laws_FnExactChooseOne.j0 k l0 t870 (bt873.2 != bt868.2)) else (laws_FnExactChooseOne.j0 k l0 t870 true)))))))
theorem laws_FnExactChooseOne.mono_l : ∀ k, (∀ y0 y1 y2, LeO (laws_FnExactChooseOne.j0 k y0 y1 y2) (laws_FnExactChooseOne.j0 (k + 1) y0 y1 y2))
  | 0 => fun _ _ _ r h => by simp [laws_FnExactChooseOne.j0] at h
  | k + 1 => by
    have ih0 := laws_FnExactChooseOne.mono_l k
    · intro y0 y1 y2
      unfold laws_FnExactChooseOne.j0
      repeat' first
      | (with_reducible exact ih0 _ _ _)
      | (with_reducible exact impl_ChooseOne.mono _ _ _ _)
      | (with_reducible exact laws_eqItemS.mono _ _ _)
      | (with_reducible exact laws_toItemS.mono _ _)
      | (with_reducible exact spec_ChooseOne.mono _ _ _ _)
      | (with_reducible exact LeO.refl _)
      | (with_reducible exact LeO.none _)
      | (with_reducible refine LeO.ite ?_ ?_)
      | (with_reducible refine LeO.bind ?_ (fun _ => ?_))
      | exact ih0 _ _ _
      | exact impl_ChooseOne.mono _ _ _ _
      | exact laws_eqItemS.mono _ _ _
      | exact laws_toItemS.mono _ _
      | exact spec_ChooseOne.mono _ _ _ _
      | exact LeO.none _
      | refine LeO.ite ?_ ?_
      | refine LeO.bind ?_ (fun _ => ?_)
theorem laws_FnExactChooseOne.mono : ∀ a0 a1 a2 k, LeO (laws_FnExactChooseOne.f k a0 a1 a2) (laws_FnExactChooseOne.f (k + 1) a0 a1 a2) := by
  intro a0 a1 a2 k
  have ih0 := laws_FnExactChooseOne.mono_l k
  unfold laws_FnExactChooseOne.f
  repeat' first
      | (with_reducible exact ih0 _ _ _)
      | (with_reducible exact impl_ChooseOne.mono _ _ _ _)
      | (with_reducible exact laws_eqItemS.mono _ _ _)
      | (with_reducible exact laws_toItemS.mono _ _)
      | (with_reducible exact spec_ChooseOne.mono _ _ _ _)
      | (with_reducible exact LeO.refl _)
      | (with_reducible exact LeO.none _)
      | (with_reducible refine LeO.ite ?_ ?_)
      | (with_reducible refine LeO.bind ?_ (fun _ => ?_))
      | exact ih0 _ _ _
      | exact impl_ChooseOne.mono _ _ _ _
      | exact laws_eqItemS.mono _ _ _
      | exact laws_toItemS.mono _ _
      | exact spec_ChooseOne.mono _ _ _ _
      | exact LeO.none _
      | refine LeO.ite ?_ ?_
      | refine LeO.bind ?_ (fun _ => ?_)
set_option maxHeartbeats 8000000 in
set_option maxRecDepth 100000 in
theorem laws_FnExactChooseOne.calls (k : Nat) (A0 : Option Addr) (c0 : Nat) (l0 : List (S23)) (a1 : Int) (a2 : Int) (r : Bool) (w : World) (hr0 : Kd.C k23 w A0 l0.length l0) (hc0 : l0.length ≤ c0) (h : laws_FnExactChooseOne.f k l0 a1 a2 = some r) :
    Calls Try.prog 17 #[.slice A0 l0.length c0, .int .i64 a1, .int .i64 a2] w fun e w' => e = .returned (.bool r) ∧ Below w.heap.size w w' := by
  have HR0 := Aside0.mk hr0
  have HC0 := Aside0.mk hc0
  clear hr0 hc0
  have HB := Aside0.mk (Below.refl w.heap.size w)
  have H : ((laws_szItemS.f l0 1048576).bind fun t864 => (if t864 < 0 then (some true) else ((laws_toItemS.f k l0).bind fun t865 => ((spec_ChooseOne.f k t865 a1 a2).bind fun bt868 => ((laws_toItemS.f k l0).bind fun t870 => ((impl_ChooseOne.f k t870 a1 a2).bind fun bt873 => (if bt873.1 = bt868.1 then (laws_FnExactChooseOne.j0 k l0 t870 (bt873.2 != bt868.2)) else (laws_FnExactChooseOne.j0 k l0 t870 true)))))))) = some r := h
  clear h
  replace H := Option.bind_eq_some_iff.mp H
  obtain ⟨t864, A40, H⟩ := H
  replace H : (if t864 < 0 then (some true) else ((laws_toItemS.f k l0).bind fun t865 => ((spec_ChooseOne.f k t865 a1 a2).bind fun bt868 => ((laws_toItemS.f k l0).bind fun t870 => ((impl_ChooseOne.f k t870 a1 a2).bind fun bt873 => (if bt873.1 = bt868.1 then (laws_FnExactChooseOne.j0 k l0 t870 (bt873.2 != bt868.2)) else (laws_FnExactChooseOne.j0 k l0 t870 true))))))) = some r := H
  have A4 := Aside0.mk A40
  clear A40
  by_cases c5 : t864 < 0
  · rw [if_pos c5] at H
    have c5b0 : decide (t864 < 0) = true := decide_eq_true c5
    clear c5
    obtain rfl := Option.some.inj H
    go_enter Try.func17, Try.ntmps17
    go_wp2_with (first | ((with_reducible refine gate_callee (f := 22) rfl ?_); refine goesL_ (some 15) rfl rfl Try.func22 (by kernel_rfl) rfl #[.slice A0 l0.length c0, .int .i64 1048576] rfl (by (try simp only [List.map_toArray, List.map_cons, List.map_nil]); first | done | rfl | (simp only [List.length_drop, List.length_take]; rfl)) ?_; (with_reducible refine (laws_szItemS.calls _ _ l0 1048576 t864 _ ?side1 ?side2 A4.out).mono ?_); (case side1 => repeat (first | exact HR0.out | (with_reducible refine Kd.C_alloc ?_ _) | (with_reducible refine Kd.C_drewN ?_ _) | (with_reducible refine Kd.C_drew ?_))); (case side2 => exact HC0.out); rintro e w' ⟨rfl, ⟨nd, rfl⟩⟩; refine ⟨_, rfl, ?_⟩))
    go_ret
    exact ⟨by first | rfl | (simp [errW_none, errW_some] <;> rfl) | (simp [*, errW_none, errW_some] <;> rfl), by repeat (first | (with_reducible first | exact HB.out | apply below_alloc | apply pw_below_drewN | apply below_drew1) | exact HB.out)⟩
  · rw [if_neg c5] at H
    have c5b0 : decide (t864 < 0) = false := decide_eq_false c5
    clear c5
    replace H := Option.bind_eq_some_iff.mp H
    obtain ⟨t865, A60, H⟩ := H
    replace H : ((spec_ChooseOne.f k t865 a1 a2).bind fun bt868 => ((laws_toItemS.f k l0).bind fun t870 => ((impl_ChooseOne.f k t870 a1 a2).bind fun bt873 => (if bt873.1 = bt868.1 then (laws_FnExactChooseOne.j0 k l0 t870 (bt873.2 != bt868.2)) else (laws_FnExactChooseOne.j0 k l0 t870 true))))) = some r := H
    have A6 := Aside0.mk A60
    clear A60
    replace H := Option.bind_eq_some_iff.mp H
    obtain ⟨⟨t868, t869⟩, A70, H⟩ := H
    replace H : ((laws_toItemS.f k l0).bind fun t870 => ((impl_ChooseOne.f k t870 a1 a2).bind fun bt873 => (if bt873.1 = t868 then (laws_FnExactChooseOne.j0 k l0 t870 (bt873.2 != t869)) else (laws_FnExactChooseOne.j0 k l0 t870 true)))) = some r := H
    have A7 := Aside0.mk A70
    clear A70
    replace H := Option.bind_eq_some_iff.mp H
    obtain ⟨t870, A80, H⟩ := H
    replace H : ((impl_ChooseOne.f k t870 a1 a2).bind fun bt873 => (if bt873.1 = t868 then (laws_FnExactChooseOne.j0 k l0 t870 (bt873.2 != t869)) else (laws_FnExactChooseOne.j0 k l0 t870 true))) = some r := H
    have A8 := Aside0.mk A80
    clear A80
    replace H := Option.bind_eq_some_iff.mp H
    obtain ⟨⟨t873, t874⟩, A90, H⟩ := H
    replace H : (if t873 = t868 then (laws_FnExactChooseOne.j0 k l0 t870 (t874 != t869)) else (laws_FnExactChooseOne.j0 k l0 t870 true)) = some r := H
    have A9 := Aside0.mk A90
    clear A90
    have HC10 := Aside0.mk H
    clear H
    go_enter Try.func17, Try.ntmps17
    go_upto_region 8 with (first | ((with_reducible refine gate_callee (f := 22) rfl ?_); refine goesL_ (some 15) rfl rfl Try.func22 (by kernel_rfl) rfl #[.slice A0 l0.length c0, .int .i64 1048576] rfl (by (try simp only [List.map_toArray, List.map_cons, List.map_nil]); first | done | rfl | (simp only [List.length_drop, List.length_take]; rfl)) ?_; (with_reducible refine (laws_szItemS.calls _ _ l0 1048576 t864 _ ?side1 ?side2 A4.out).mono ?_); (case side1 => repeat (first | exact HR0.out | (with_reducible refine Kd.C_alloc ?_ _) | (with_reducible refine Kd.C_drewN ?_ _) | (with_reducible refine Kd.C_drew ?_))); (case side2 => exact HC0.out); rintro e w' ⟨rfl, ⟨nd, rfl⟩⟩; refine ⟨_, rfl, ?_⟩) | ((with_reducible refine gate_callee (f := 24) rfl ?_); refine goesL_ (some 20) rfl rfl Try.func24 (by kernel_rfl) rfl #[.slice A0 l0.length c0] rfl (by (try simp only [List.map_toArray, List.map_cons, List.map_nil]); first | done | rfl | (simp only [List.length_drop, List.length_take]; rfl)) ?_; (with_reducible refine (laws_toItemS.calls k _ _ l0 t865 _ ?side1 ?side2 A6.out).mono ?_); (case side1 => repeat (first | exact HR0.out | (with_reducible refine Kd.C_alloc ?_ _) | (with_reducible refine Kd.C_drewN ?_ _) | (with_reducible refine Kd.C_drew ?_))); (case side2 => exact HC0.out); rintro e w11 ⟨v866, rfl, ho0, hb⟩; refine ⟨_, rfl, ?_⟩; have n0_ := Aside0.mk (Kd.R_lower ho0 (below_size (by repeat (first | (with_reducible first | exact HB.out | apply below_alloc | apply pw_below_drewN | apply below_drew1) | exact HB.out)))); have n1_ := Aside0.mk (below_step (by repeat (first | (with_reducible first | exact HB.out | apply below_alloc | apply pw_below_drewN | apply below_drew1) | exact HB.out)) hb); clear HB; have HO867 := n0_; have HB := n1_; clear n0_ n1_; (try clear hb); (try clear hb2); (try clear hk); (try clear hi); (try clear ho0); obtain ⟨Ao12, co12, eo12⟩ := Kd.R_slice HO867.out; subst eo12) | ((with_reducible refine gate_callee (f := 78) rfl ?_); refine goesL_ (some 23) rfl rfl Try.func78 (by kernel_rfl) rfl #[.slice Ao12 t865.length co12, .int .i64 a1, .int .i64 a2] rfl (by (try simp only [List.map_toArray, List.map_cons, List.map_nil]); first | done | rfl | (simp only [List.length_drop, List.length_take]; rfl)) ?_; (with_reducible refine (spec_ChooseOne.calls k _ _ t865 a1 a2 t868 t869 _ ?side1 ?side2 A7.out).mono ?_); (case side1 => repeat (first | exact (Kd.R_reads' HO867.out).2.2 | (with_reducible refine Kd.C_alloc ?_ _) | (with_reducible refine Kd.C_drewN ?_ _) | (with_reducible refine Kd.C_drew ?_))); (case side2 => exact (Kd.R_reads' HO867.out).2.1); rintro e w13 ⟨rfl, hb⟩; refine ⟨_, rfl, ?_⟩; have n0_ := Aside0.mk (Kd.R_below (by (with_reducible repeat (first | apply Kd.R_alloc | apply Kd.R_drewN | apply Kd.R_drew)); exact HO867.out) hb); have n1_ := Aside0.mk (below_step (by repeat (first | (with_reducible first | exact HB.out | apply below_alloc | apply pw_below_drewN | apply below_drew1) | exact HB.out)) hb); clear HO867; clear HB; have HO867 := n0_; have HB := n1_; clear n0_ n1_; (try clear hb); (try clear hb2); (try clear hk); (try clear hi)) | ((with_reducible refine gate_callee (f := 24) rfl ?_); refine goesL_ (some 27) rfl rfl Try.func24 (by kernel_rfl) rfl #[.slice A0 l0.length c0] rfl (by (try simp only [List.map_toArray, List.map_cons, List.map_nil]); first | done | rfl | (simp only [List.length_drop, List.length_take]; rfl)) ?_; (with_reducible refine (laws_toItemS.calls k _ _ l0 t870 _ ?side1 ?side2 A8.out).mono ?_); (case side1 => repeat (first | exact (Kd.C_below HR0.out HB.out) | (with_reducible refine Kd.C_alloc ?_ _) | (with_reducible refine Kd.C_drewN ?_ _) | (with_reducible refine Kd.C_drew ?_))); (case side2 => exact HC0.out); rintro e w14 ⟨v871, rfl, ho0, hb⟩; refine ⟨_, rfl, ?_⟩; have n0_ := Aside0.mk (Kd.R_elder' (by (with_reducible repeat (first | apply Kd.R_alloc | apply Kd.R_drewN | apply Kd.R_drew)); exact HO867.out) (Kd.R_base ho0) hb); have n1_ := Aside0.mk (Kd.R_lower (Kd.R_new' ho0 (Kd.R_lt (by (with_reducible repeat (first | apply Kd.R_alloc | apply Kd.R_drewN | apply Kd.R_drew)); exact HO867.out))) (below_size (by repeat (first | (with_reducible first | exact HB.out | apply below_alloc | apply pw_below_drewN | apply below_drew1) | exact HB.out)))); have n2_ := Aside0.mk (below_step (by repeat (first | (with_reducible first | exact HB.out | apply below_alloc | apply pw_below_drewN | apply below_drew1) | exact HB.out)) hb); clear HO867; clear HB; have HO867 := n0_; have HO872 := n1_; have HB := n2_; clear n0_ n1_ n2_; (try clear hb); (try clear hb2); (try clear hk); (try clear hi); (try clear ho0); obtain ⟨Ao15, co15, eo15⟩ := Kd.R_slice HO872.out; subst eo15) | ((with_reducible refine gate_callee (f := 63) rfl ?_); refine goesL_ (some 32) rfl rfl Try.func63 (by kernel_rfl) rfl #[.slice Ao15 t870.length co15, .int .i64 a1, .int .i64 a2] rfl (by (try simp only [List.map_toArray, List.map_cons, List.map_nil]); first | done | rfl | (simp only [List.length_drop, List.length_take]; rfl)) ?_; (with_reducible refine (impl_ChooseOne.calls k _ _ t870 a1 a2 t873 t874 _ ?side1 ?side2 A9.out).mono ?_); (case side1 => repeat (first | exact (Kd.R_reads' HO872.out).2.2 | (with_reducible refine Kd.C_alloc ?_ _) | (with_reducible refine Kd.C_drewN ?_ _) | (with_reducible refine Kd.C_drew ?_))); (case side2 => exact (Kd.R_reads' HO872.out).2.1); rintro e w16 ⟨rfl, hb⟩; refine ⟨_, rfl, ?_⟩; have n0_ := Aside0.mk (Kd.R_below (by (with_reducible repeat (first | apply Kd.R_alloc | apply Kd.R_drewN | apply Kd.R_drew)); exact HO867.out) hb); have n1_ := Aside0.mk (Kd.R_below (by (with_reducible repeat (first | apply Kd.R_alloc | apply Kd.R_drewN | apply Kd.R_drew)); exact HO872.out) hb); have n2_ := Aside0.mk (below_step (by repeat (first | (with_reducible first | exact HB.out | apply below_alloc | apply pw_below_drewN | apply below_drew1) | exact HB.out)) hb); clear HO867; clear HO872; clear HB; have HO867 := n0_; have HO872 := n1_; have HB := n2_; clear n0_ n1_ n2_; (try clear hb); (try clear hb2); (try clear hk); (try clear hi)))
    (try simp only [Act.put, List.setIfInBounds_toArray, List.set_cons_zero, List.set_cons_succ])
    go_cut [42] (fun v42 wc => ∃ (kq : Nat) (x42_9 : Bool), v42 = .bool x42_9 ∧ Aside0 (laws_FnExactChooseOne.j0 kq l0 t870 x42_9 = some r) ∧ Aside0 (kq ≤ k) ∧ Aside0 (Kd.R k26 26 wc w.heap.size (fun _ => True) (.slice Ao15 t870.length co15) t870) ∧ Aside0 (Below w.heap.size w wc))
    case first =>
      have H := HC10.out
      clear HC10
      by_cases c17 : t873 = t868
      · rw [if_pos c17] at H
        have c17b0 : (t873 == t868) = true := beq_iff_eq.mpr c17
        have c17b1 : (t873 != t868) = false := bne_eq_false_iff_eq.mpr c17
        clear c17
        (first | rw [c17b0] | (simp only [i64_w, i32_w]; rw [c17b0]) | skip)
        have H' := Aside0.mk H
        clear H
        go_wp2
        go_meet
        case rel => exact ⟨_, ((t874 != t869)), (by first | rfl | (simp; done) | (simp [*]; done)), H', ⟨by first | omega | exact Nat.le_refl _⟩, ⟨by (with_reducible repeat (first | apply Kd.R_alloc | apply Kd.R_drewN | apply Kd.R_drew)); exact Kd.R_mono HO872.out (fun _ hk => trivial)⟩, ⟨by repeat (first | (with_reducible first | exact HB.out | apply below_alloc | apply pw_below_drewN | apply below_drew1) | exact HB.out)⟩⟩
      · rw [if_neg c17] at H
        have c17b0 : (t873 == t868) = false := beq_eq_false_iff_ne.mpr c17
        have c17b1 : (t873 != t868) = true := bne_iff_ne.mpr c17
        (first | rw [c17b0] | (simp only [i64_w, i32_w]; rw [c17b0]) | skip)
        have H' := Aside0.mk H
        clear H
        go_wp2
        go_meet
        case rel => exact ⟨_, (true), (by first | rfl | (simp; done) | (simp [*]; done)), H', ⟨by first | omega | exact Nat.le_refl _⟩, ⟨by (with_reducible repeat (first | apply Kd.R_alloc | apply Kd.R_drewN | apply Kd.R_drew)); exact Kd.R_mono HO872.out (fun _ hk => trivial)⟩, ⟨by repeat (first | (with_reducible first | exact HB.out | apply below_alloc | apply pw_below_drewN | apply below_drew1) | exact HB.out)⟩⟩
    case rest =>
      clear HC10
      try clear c1
      try clear c2
      try clear p2
      try clear c5
      try clear c5b0
      try clear c6
      try clear c7
      try clear c17
      try clear c17b0
      try clear c17b1
      obtain ⟨kq, x42_9, rfl, HA, HJ9, HO_10, HB⟩ := hcut
      cases kq with
      | zero => exact absurd HA.out (by simp [laws_FnExactChooseOne.j0])
      | succ kj9 =>
        have H := HA.out
        clear HA
        simp only [laws_FnExactChooseOne.j0] at H
        by_cases c18 : x42_9 = true
        · subst c18
          have H1 : (some false) = some r := by rw [if_pos rfl] at H; exact H
          clear H
          have H := H1
          clear H1
          obtain rfl := Option.some.inj H
          go_wp2
          go_ret
          exact ⟨by first | rfl | (simp [errW_none, errW_some] <;> rfl) | (simp [*, errW_none, errW_some] <;> rfl), by repeat (first | (with_reducible first | exact HB.out | apply below_alloc | apply pw_below_drewN | apply below_drew1) | exact HB.out)⟩
        · replace c18 := Bool.eq_false_iff.mpr c18
          subst c18
          have H1 : ((laws_toItemS.f kj9 l0).bind fun t875 => ((laws_eqItemS.f kj9 t870 t875).bind fun t878 => (if t878 = true then (some true) else (some false)))) = some r := by rw [if_neg (show ¬ (false = true) by decide)] at H; exact H
          clear H
          have H := H1
          clear H1
          replace H := Option.bind_eq_some_iff.mp H
          obtain ⟨t875, A190, H⟩ := H
          replace H : ((laws_eqItemS.f kj9 t870 t875).bind fun t878 => (if t878 = true then (some true) else (some false))) = some r := H
          have A19 := Aside0.mk A190
          clear A190
          replace H := Option.bind_eq_some_iff.mp H
          obtain ⟨t878, A200, H⟩ := H
          replace H : (if t878 = true then (some true) else (some false)) = some r := H
          have A20 := Aside0.mk A200
          clear A200
          by_cases c21 : t878 = true
          · subst c21
            have H1 : (some true) = some r := by rw [if_pos rfl] at H; exact H
            clear H
            have H := H1
            clear H1
            obtain rfl := Option.some.inj H
            go_wp2_with (first | ((with_reducible refine gate_callee (f := 24) rfl ?_); refine goesL_ (some 45) rfl rfl Try.func24 (by kernel_rfl) rfl #[.slice A0 l0.length c0] rfl (by (try simp only [List.map_toArray, List.map_cons, List.map_nil]); first | done | rfl | (simp only [List.length_drop, List.length_take]; rfl)) ?_; (with_reducible refine (laws_toItemS.calls kj9 _ _ l0 t875 _ ?side1 ?side2 A19.out).mono ?_); (case side1 => repeat (first | exact (Kd.C_below HR0.out HB.out) | (with_reducible refine Kd.C_alloc ?_ _) | (with_reducible refine Kd.C_drewN ?_ _) | (with_reducible refine Kd.C_drew ?_))); (case side2 => exact HC0.out); rintro e w22 ⟨v876, rfl, ho0, hb⟩; refine ⟨_, rfl, ?_⟩; have n0_ := Aside0.mk (Kd.R_elder' (by (with_reducible repeat (first | apply Kd.R_alloc | apply Kd.R_drewN | apply Kd.R_drew)); exact HO_10.out) (Kd.R_base ho0) hb); have n1_ := Aside0.mk (Kd.R_lower (Kd.R_new' ho0 (Kd.R_lt (by (with_reducible repeat (first | apply Kd.R_alloc | apply Kd.R_drewN | apply Kd.R_drew)); exact HO_10.out))) (below_size (by repeat (first | (with_reducible first | exact HB.out | apply below_alloc | apply pw_below_drewN | apply below_drew1) | exact HB.out)))); have n2_ := Aside0.mk (below_step (by repeat (first | (with_reducible first | exact HB.out | apply below_alloc | apply pw_below_drewN | apply below_drew1) | exact HB.out)) hb); clear HO_10; clear HB; have HO_10 := n0_; have HO877 := n1_; have HB := n2_; clear n0_ n1_ n2_; (try clear hb); (try clear hb2); (try clear hk); (try clear hi); (try clear ho0); obtain ⟨Ao23, co23, eo23⟩ := Kd.R_slice HO877.out; subst eo23) | ((with_reducible refine gate_callee (f := 26) rfl ?_); refine goesL_ (some 46) rfl rfl Try.func26 (by kernel_rfl) rfl #[.slice Ao15 t870.length co15, .slice Ao23 t875.length co23] rfl (by (try simp only [List.map_toArray, List.map_cons, List.map_nil]); first | done | rfl | (simp only [List.length_drop, List.length_take]; rfl)) ?_; (with_reducible refine (laws_eqItemS.calls kj9 _ _ t870 _ _ t875 true _ ?side1 ?side2 ?side3 ?side4 A20.out).mono ?_); (case side1 => repeat (first | exact (Kd.R_reads' HO_10.out).2.2 | (with_reducible refine Kd.C_alloc ?_ _) | (with_reducible refine Kd.C_drewN ?_ _) | (with_reducible refine Kd.C_drew ?_))); (case side2 => exact (Kd.R_reads' HO_10.out).2.1); (case side3 => repeat (first | exact (Kd.R_reads' HO877.out).2.2 | (with_reducible refine Kd.C_alloc ?_ _) | (with_reducible refine Kd.C_drewN ?_ _) | (with_reducible refine Kd.C_drew ?_))); (case side4 => exact (Kd.R_reads' HO877.out).2.1); rintro e w24 ⟨rfl, hb⟩; refine ⟨_, rfl, ?_⟩; have n0_ := Aside0.mk (Kd.R_below (by (with_reducible repeat (first | apply Kd.R_alloc | apply Kd.R_drewN | apply Kd.R_drew)); exact HO_10.out) hb); have n1_ := Aside0.mk (Kd.R_below (by (with_reducible repeat (first | apply Kd.R_alloc | apply Kd.R_drewN | apply Kd.R_drew)); exact HO877.out) hb); have n2_ := Aside0.mk (below_step (by repeat (first | (with_reducible first | exact HB.out | apply below_alloc | apply pw_below_drewN | apply below_drew1) | exact HB.out)) hb); clear HO_10; clear HO877; clear HB; have HO_10 := n0_; have HO877 := n1_; have HB := n2_; clear n0_ n1_ n2_; (try clear hb); (try clear hb2); (try clear hk); (try clear hi)))
            go_ret
            exact ⟨by first | rfl | (simp [errW_none, errW_some] <;> rfl) | (simp [*, errW_none, errW_some] <;> rfl), by repeat (first | (with_reducible first | exact HB.out | apply below_alloc | apply pw_below_drewN | apply below_drew1) | exact HB.out)⟩
          · replace c21 := Bool.eq_false_iff.mpr c21
            subst c21
            have H1 : (some false) = some r := by rw [if_neg (show ¬ (false = true) by decide)] at H; exact H
            clear H
            have H := H1
            clear H1
            obtain rfl := Option.some.inj H
            go_wp2_with (first | ((with_reducible refine gate_callee (f := 24) rfl ?_); refine goesL_ (some 45) rfl rfl Try.func24 (by kernel_rfl) rfl #[.slice A0 l0.length c0] rfl (by (try simp only [List.map_toArray, List.map_cons, List.map_nil]); first | done | rfl | (simp only [List.length_drop, List.length_take]; rfl)) ?_; (with_reducible refine (laws_toItemS.calls kj9 _ _ l0 t875 _ ?side1 ?side2 A19.out).mono ?_); (case side1 => repeat (first | exact (Kd.C_below HR0.out HB.out) | (with_reducible refine Kd.C_alloc ?_ _) | (with_reducible refine Kd.C_drewN ?_ _) | (with_reducible refine Kd.C_drew ?_))); (case side2 => exact HC0.out); rintro e w25 ⟨v876, rfl, ho0, hb⟩; refine ⟨_, rfl, ?_⟩; have n0_ := Aside0.mk (Kd.R_elder' (by (with_reducible repeat (first | apply Kd.R_alloc | apply Kd.R_drewN | apply Kd.R_drew)); exact HO_10.out) (Kd.R_base ho0) hb); have n1_ := Aside0.mk (Kd.R_lower (Kd.R_new' ho0 (Kd.R_lt (by (with_reducible repeat (first | apply Kd.R_alloc | apply Kd.R_drewN | apply Kd.R_drew)); exact HO_10.out))) (below_size (by repeat (first | (with_reducible first | exact HB.out | apply below_alloc | apply pw_below_drewN | apply below_drew1) | exact HB.out)))); have n2_ := Aside0.mk (below_step (by repeat (first | (with_reducible first | exact HB.out | apply below_alloc | apply pw_below_drewN | apply below_drew1) | exact HB.out)) hb); clear HO_10; clear HB; have HO_10 := n0_; have HO877 := n1_; have HB := n2_; clear n0_ n1_ n2_; (try clear hb); (try clear hb2); (try clear hk); (try clear hi); (try clear ho0); obtain ⟨Ao26, co26, eo26⟩ := Kd.R_slice HO877.out; subst eo26) | ((with_reducible refine gate_callee (f := 26) rfl ?_); refine goesL_ (some 46) rfl rfl Try.func26 (by kernel_rfl) rfl #[.slice Ao15 t870.length co15, .slice Ao26 t875.length co26] rfl (by (try simp only [List.map_toArray, List.map_cons, List.map_nil]); first | done | rfl | (simp only [List.length_drop, List.length_take]; rfl)) ?_; (with_reducible refine (laws_eqItemS.calls kj9 _ _ t870 _ _ t875 false _ ?side1 ?side2 ?side3 ?side4 A20.out).mono ?_); (case side1 => repeat (first | exact (Kd.R_reads' HO_10.out).2.2 | (with_reducible refine Kd.C_alloc ?_ _) | (with_reducible refine Kd.C_drewN ?_ _) | (with_reducible refine Kd.C_drew ?_))); (case side2 => exact (Kd.R_reads' HO_10.out).2.1); (case side3 => repeat (first | exact (Kd.R_reads' HO877.out).2.2 | (with_reducible refine Kd.C_alloc ?_ _) | (with_reducible refine Kd.C_drewN ?_ _) | (with_reducible refine Kd.C_drew ?_))); (case side4 => exact (Kd.R_reads' HO877.out).2.1); rintro e w27 ⟨rfl, hb⟩; refine ⟨_, rfl, ?_⟩; have n0_ := Aside0.mk (Kd.R_below (by (with_reducible repeat (first | apply Kd.R_alloc | apply Kd.R_drewN | apply Kd.R_drew)); exact HO_10.out) hb); have n1_ := Aside0.mk (Kd.R_below (by (with_reducible repeat (first | apply Kd.R_alloc | apply Kd.R_drewN | apply Kd.R_drew)); exact HO877.out) hb); have n2_ := Aside0.mk (below_step (by repeat (first | (with_reducible first | exact HB.out | apply below_alloc | apply pw_below_drewN | apply below_drew1) | exact HB.out)) hb); clear HO_10; clear HO877; clear HB; have HO_10 := n0_; have HO877 := n1_; have HB := n2_; clear n0_ n1_ n2_; (try clear hb); (try clear hb2); (try clear hk); (try clear hi)))
            go_ret
            exact ⟨by first | rfl | (simp [errW_none, errW_some] <;> rfl) | (simp [*, errW_none, errW_some] <;> rfl), by repeat (first | (with_reducible first | exact HB.out | apply below_alloc | apply pw_below_drewN | apply below_drew1) | exact HB.out)⟩

end Go.Proofs.Ytlocignlkigojaa.Q

-- text OLoop
namespace Go.Proofs.Ytlocignlkigojaa.Pure
open Go.RowKit Go.Proofs.YtlocignlkigojaaW.PrintWords Go.Proofs.YtlocignlkigojaaW.PrintLast Go.Proofs.YtlocignlkigojaaW.PrintMore
set_option linter.unusedVariables false
set_option linter.unusedSimpArgs false

theorem up64 (i n : Nat) (h : i < n) (hn : n ≤ 9223372036854775807) : wrap64 ((i : Int) + 1) = ((i + 1 : Nat) : Int) := by unfold wrap64; omega
/-- A loop over i from 0 to n: an invariant, and what is known of the answer. -/
theorem loop_from {σ ρ : Type} (n : Nat) (L : Nat → σ → Int → Option ρ) (I : Nat → σ → Prop) (Post : ρ → Prop)
    (hs : ∀ (i : Nat) s, i < n → I i s → (∃ r, Post r ∧ Ev (fun k => L k s (i : Int)) r) ∨ ∃ s', I (i + 1) s' ∧ ∀ r, Ev (fun k => L k s' ((i + 1 : Nat) : Int)) r → Ev (fun k => L k s (i : Int)) r)
    (he : ∀ s, I n s → ∃ r, Post r ∧ Ev (fun k => L k s (n : Int)) r) : ∀ (d i : Nat) s, i + d = n → I i s → ∃ r, Post r ∧ Ev (fun k => L k s (i : Int)) r
  | 0, i, s, hd, hI => by
    obtain rfl : i = n := by omega
    exact he s hI
  | d + 1, i, s, hd, hI => by
    rcases hs i s (by omega) hI with h | ⟨s', hI', h⟩
    · exact h
    · obtain ⟨r, hr, hE⟩ := loop_from n L I Post hs he d (i + 1) s' (by omega) hI'
      exact ⟨r, hr, h r hE⟩
theorem loop_up {σ ρ : Type} (n : Nat) (L : Nat → σ → Int → Option ρ) (I : Nat → σ → Prop) (Post : ρ → Prop)
    (hs : ∀ (i : Nat) s, i < n → I i s → (∃ r, Post r ∧ Ev (fun k => L k s (i : Int)) r) ∨ ∃ s', I (i + 1) s' ∧ ∀ r, Ev (fun k => L k s' ((i + 1 : Nat) : Int)) r → Ev (fun k => L k s (i : Int)) r)
    (he : ∀ s, I n s → ∃ r, Post r ∧ Ev (fun k => L k s (n : Int)) r) (s : σ) (h0 : I 0 s) : ∃ r, Post r ∧ Ev (fun k => L k s 0) r :=
  loop_from n L I Post hs he n 0 s (by omega) h0
/-- The same where one answer is told. -/
theorem loop_is {σ ρ : Type} (n : Nat) (L : Nat → σ → Int → Option ρ) (I : Nat → σ → Prop) (a : ρ)
    (hs : ∀ (i : Nat) s, i < n → I i s → Ev (fun k => L k s (i : Int)) a ∨ ∃ s', I (i + 1) s' ∧ ∀ r, Ev (fun k => L k s' ((i + 1 : Nat) : Int)) r → Ev (fun k => L k s (i : Int)) r)
    (he : ∀ s, I n s → Ev (fun k => L k s (n : Int)) a) (s : σ) (h0 : I 0 s) : Ev (fun k => L k s 0) a := by
  obtain ⟨r, hr, hE⟩ := loop_up n L I (· = a) (fun i s hi hI => (hs i s hi hI).imp (fun h => ⟨a, rfl, h⟩) id) (fun s hI => ⟨a, rfl, he s hI⟩) s h0
  exact hr ▸ hE
theorem ev_some {α : Type} {g : Nat → Option α} {r : α} (h : ∀ k, g k = some r) : Ev g r := ⟨0, fun k _ => h k⟩
theorem ev_next {α : Type} {g f : Nat → Option α} (h : ∀ k, g (k + 1) = f k) : ∀ r, Ev f r → Ev g r := fun _ k => Ev.step h k
theorem ev_end {α : Type} {g : Nat → Option α} {r : α} (h : ∀ k, g (k + 1) = some r) : Ev g r := Ev.step h (Ev.now r)
theorem ev_of {α : Type} {g : Nat → Option α} {r : α} {K : Nat} (h : ∀ k, K ≤ k → g k = some r) : Ev g r := ⟨K, h⟩
theorem ev_then1 {α : Type} {g : Nat → Option α} {r : α} (h : Ev g r) : Ev (fun k => (g k).bind fun t => some t) r := Ev.bind h (Ev.now r)
/-- what is bound comes to the same -/
theorem ev_bind_some {α β : Type} {a : α} {f : Nat → α → Option β} {r : β} (k : Ev (fun n => f n a) r) : Ev (fun n => (some a).bind (f n)) r := k

theorem take_set {α : Type} (l y : List α) (i : Nat) (v : α) (hl : y.length = l.length) (hi : i < l.length) (hv : v = l[i]) (h : y.take i = l.take i) : (y.set i v).take (i + 1) = l.take (i + 1) := by
  rw [List.take_succ_eq_append_getElem (by rw [List.length_set]; omega), List.take_succ_eq_append_getElem hi]
  congr 1
  · rw [List.take_set_of_le (by omega)]; exact h
  · simp [hv]
theorem take_all {α : Type} (l y : List α) (n : Nat) (hl : y.length = n) (hn : l.length = n) (h : y.take n = l.take n) : y = l := by
  rw [List.take_of_length_le (by omega), List.take_of_length_le (by omega)] at h
  exact h
theorem getD_get {α : Type} (l : List α) (i : Nat) (z : α) (h : i < l.length) : l.getD i z = l[i] := by
  rw [List.getD_eq_getElem?_getD, List.getElem?_eq_getElem h]; rfl
theorem map_loop {α β : Type} (L : Nat → List β → Int → Option (List β)) (l : List α) (c : α → β)
    (hs : ∀ (i : Nat) (h : i < l.length) y, y.length = l.length → ∀ r, Ev (fun k => L k (y.set i (c l[i])) ((i + 1 : Nat) : Int)) r → Ev (fun k => L k y (i : Int)) r)
    (he : ∀ k y, L (k + 1) y (l.length : Int) = some y) (y : List β) (hy : y.length = l.length) : Ev (fun k => L k y 0) (l.map c) := by
  refine loop_is l.length L (fun i y => y.length = l.length ∧ y.take i = (l.map c).take i) _ ?_ ?_ y ⟨hy, by simp⟩
  · intro i s hi ⟨h1, h2⟩
    exact .inr ⟨s.set i (c l[i]), ⟨by rw [List.length_set]; exact h1, take_set (l.map c) s i _ (by simpa using h1) (by simpa using hi) (by simp) h2⟩, hs i hi s h1⟩
  · intro s ⟨h1, h2⟩
    have e := take_all (l.map c) s l.length h1 (by simp) h2
    exact e ▸ ev_end (fun k => he k s)
theorem eq_loop (n : Nat) (L : Nat → Int → Option Bool) (hs : ∀ i : Nat, i < n → ∀ r, Ev (fun k => L k ((i + 1 : Nat) : Int)) r → Ev (fun k => L k (i : Int)) r) (he : ∀ k, L (k + 1) (n : Int) = some true) : Ev (fun k => L k 0) true :=
  loop_is n (fun k (_ : Unit) i => L k i) (fun _ _ => True) true (fun i _ hi _ => .inr ⟨(), trivial, hs i hi⟩) (fun _ _ => ev_end he) () trivial
theorem same_loop {α : Type} [DecidableEq α] (a b : List α) (hl : a.length = b.length) (L : Nat → Int → Option Bool)
    (hs : ∀ k (i : Nat) (h : i < a.length) (h' : i < b.length), L (k + 1) (i : Int) = if a[i] = b[i] then L k ((i + 1 : Nat) : Int) else some false) (he : ∀ k, L (k + 1) (a.length : Int) = some true) : Ev (fun k => L k 0) (decide (a = b)) := by
  refine loop_is a.length (fun k (_ : Unit) i => L k i) (fun i _ => a.take i = b.take i) _ ?_ ?_ () (by simp)
  · intro i _ hi hI
    have hi' : i < b.length := by omega
    by_cases c : a[i] = b[i]
    · refine .inr ⟨(), ?_, ev_next (fun k => ?_)⟩
      · rw [List.take_succ_eq_append_getElem hi, List.take_succ_eq_append_getElem hi', hI, c]
      · rw [hs k i hi hi', if_pos c]
    · left
      rw [decide_eq_false (fun e => c (by subst e; rfl))]
      exact ev_end (fun k => by rw [hs k i hi hi', if_neg c])
  · intro _ hI
    rw [List.take_length, hl, List.take_length] at hI
    rw [decide_eq_true hI]
    exact ev_end he
/-- numbers from c on -/
def cnt (c n : Nat) : List Int := (List.range n).map fun j => ((c + j : Nat) : Int)
theorem cnt_length (c n : Nat) : (cnt c n).length = n := by simp [cnt]
theorem cnt_get (c n i : Nat) (h : i < (cnt c n).length) : (cnt c n)[i] = ((c + i : Nat) : Int) := by simp [cnt]
theorem mark_loop (n c : Nat) (hc : c + n ≤ 4611686018427387904) (L : Nat → List Int × Int → Int → Option (Int × List Int))
    (hs : ∀ k (i : Nat) x (m : Nat), i < n → x.length = n → m ≤ 4611686018427387904 → L (k + 1) (x, (m : Int)) (i : Int) = L k (x.set i (m : Int), ((m + 1 : Nat) : Int)) ((i + 1 : Nat) : Int))
    (he : ∀ k x m, x.length = n → L (k + 1) (x, m) (n : Int) = some (m, x)) (x : List Int) (hx : x.length = n) : Ev (fun k => L k (x, (c : Int)) 0) (((c + n : Nat) : Int), cnt c n) := by
  refine loop_is n L (fun i s => s.1.length = n ∧ s.2 = ((c + i : Nat) : Int) ∧ s.1.take i = (cnt c n).take i) _ ?_ ?_ (x, (c : Int)) ⟨hx, by simp, by simp⟩
  · rintro i ⟨x, m⟩ hi ⟨h1, h2, h3⟩
    simp only at h1 h2 h3
    subst h2
    exact .inr ⟨(x.set i ((c + i : Nat) : Int), ((c + i + 1 : Nat) : Int)), ⟨by simpa using h1, rfl, take_set (cnt c n) x i _ (by rw [cnt_length]; exact h1) (by rw [cnt_length]; exact hi) (by rw [cnt_get]) h3⟩, ev_next (fun k => hs k i x (c + i) hi h1 (by omega))⟩
  · rintro ⟨x, m⟩ ⟨h1, h2, h3⟩
    simp only at h1 h2 h3
    have e := take_all (cnt c n) x n h1 (cnt_length c n) h3
    subst h2 e
    exact ev_end (fun k => he k _ _ h1)
theorem held_loop (n c : Nat) (hc : c + n ≤ 4611686018427387904) (L : Nat → Int → Int → Option Int)
    (hs : ∀ k (i : Nat), i < n → L (k + 1) ((c + i : Nat) : Int) (i : Int) = L k ((c + i + 1 : Nat) : Int) ((i + 1 : Nat) : Int))
    (he : ∀ k m, L (k + 1) m (n : Int) = some m) : Ev (fun k => L k (c : Int) 0) ((c + n : Nat) : Int) := by
  refine loop_is n L (fun i s => s = ((c + i : Nat) : Int)) _ ?_ ?_ (c : Int) (by simp)
  · rintro i _ hi rfl
    exact .inr ⟨((c + i + 1 : Nat) : Int), rfl, ev_next (fun k => hs k i hi)⟩
  · rintro _ rfl
    exact ev_end (fun k => he k _)
/-- marking rows of several numbers: how far it counts -/
theorem count_loop {α : Type} (n c w : Nat) (L : Nat → List α × Int → Int → Option (Int × List α))
    (hs : ∀ (i : Nat) x (m : Nat), i < n → x.length = n → m ≤ c + w * n → ∃ x' : List α, x'.length = n ∧ ∀ k, L (k + 1) (x, (m : Int)) (i : Int) = L k (x', ((m + w : Nat) : Int)) ((i + 1 : Nat) : Int))
    (he : ∀ k x m, x.length = n → L (k + 1) (x, m) (n : Int) = some (m, x)) (x : List α) (hx : x.length = n) : ∃ x', Ev (fun k => L k (x, (c : Int)) 0) (((c + w * n : Nat) : Int), x') := by
  obtain ⟨r, hr, hE⟩ := loop_up n L (fun i s => s.1.length = n ∧ s.2 = ((c + w * i : Nat) : Int)) (fun r : Int × List α => r.1 = ((c + w * n : Nat) : Int)) (by
    rintro i ⟨x, m⟩ hi ⟨h1, h2⟩
    simp only at h1 h2
    subst h2
    have hle : w * i ≤ w * n := Nat.mul_le_mul_left _ (by omega)
    obtain ⟨x', g1, g2⟩ := hs i x (c + w * i) hi h1 (by omega)
    exact .inr ⟨(x', ((c + w * i + w : Nat) : Int)), ⟨g1, by simp only [Nat.mul_add, Nat.mul_one, Nat.add_assoc]⟩, ev_next g2⟩) (by
    rintro ⟨x, m⟩ ⟨h1, h2⟩
    simp only at h1 h2
    subst h2
    exact ⟨_, rfl, ev_end (fun k => he k _ _ h1)⟩) (x, (c : Int)) ⟨hx, by simp⟩
  obtain ⟨a, b⟩ := r
  simp only at hr
  subst hr
  exact ⟨b, hE⟩

end Go.Proofs.Ytlocignlkigojaa.Pure

-- text OIn
namespace Go.Proofs.Ytlocignlkigojaa.Pure
open Go.RowKit Go.Proofs.Ytlocignlkigojaa.Q Go.Proofs.YtlocignlkigojaaW.PrintWords Go.Proofs.YtlocignlkigojaaW.PrintLast Go.Proofs.YtlocignlkigojaaW.PrintMore
set_option linter.unusedVariables false
set_option linter.unusedSimpArgs false
theorem in_inB (a b c : Int) : spec_l00In.f a b c = some (inB a b c) := between_inB a b c
end Go.Proofs.Ytlocignlkigojaa.Pure

-- text OLItem
namespace Go.Proofs.Ytlocignlkigojaa.Pure
open Go.RowKit Go.Proofs.Ytlocignlkigojaa.Q Go.Proofs.YtlocignlkigojaaW.PrintWords Go.Proofs.YtlocignlkigojaaW.PrintLast Go.Proofs.YtlocignlkigojaaW.PrintMore
set_option linter.unusedVariables false
set_option linter.unusedSimpArgs false

/-- a law's item as the program's -/
def itemOf (x : S23) : S26 := ⟨x.f0, x.f1⟩
theorem rd_itemL (l : List S23) (i : Nat) (h : i < l.length) : rd_T23 l (i : Int) = l[i] := by
  unfold rd_T23
  rw [Int.toNat_natCast, getD_get l i _ h]
theorem rd_item (l : List S26) (i : Nat) (h : i < l.length) : rd_T26 l (i : Int) = l[i] := by
  unfold rd_T26
  rw [Int.toNat_natCast, getD_get l i _ h]
theorem szItemS_is (l : List S23) (hl : l.length ≤ 9223372036854775807) : laws_szItemS.f l 1048576 = some (if l.length ≤ 1048576 then (1048576 - (l.length : Int)) else -1) := by
  have e : wrap64 (1048576 - (l.length : Int)) = 1048576 - (l.length : Int) := by unfold wrap64; omega
  unfold laws_szItemS.f
  rw [e]
  by_cases h : l.length ≤ 1048576
  · rw [if_neg (by omega), if_pos h]
  · rw [if_pos (by omega), if_neg h]
theorem toItemS_ev (l : List S23) (hl : l.length ≤ 1048576) : Ev (fun k => laws_toItemS.f k l) (l.map itemOf) := by
  have h := map_loop (fun k y i => laws_toItemS.l0 k l y i) l itemOf (fun i hi y hy => ev_next (fun k => by
    simp only [laws_toItemS.l0, laws_toItem.f, Option.bind_some]
    rw [if_pos (by omega), if_pos (by omega), if_pos (by omega), up64 i l.length hi (by omega), Int.toNat_natCast, rd_itemL l i hi]
    rfl)) (fun k y => by simp only [laws_toItemS.l0]; rw [if_neg (by omega)]) (List.replicate ((l.length : Int) : Int).toNat z26) (by simp)
  refine Ev.congr (fun k => ?_) h
  unfold laws_toItemS.f
  rw [if_pos (by omega), if_pos (by omega)]
theorem eqItemS_ev (l : List S26) (hl : l.length ≤ 9223372036854775807) : Ev (fun k => laws_eqItemS.f k l l) true := by
  refine Ev.congr (fun k => ?_) (eq_loop l.length (fun k i => laws_eqItemS.l0 k l l i) (fun i hi => ev_next (fun k => by
    simp only [laws_eqItemS.l0, laws_eqItem.f, Option.bind_some, if_true]
    rw [if_pos (by omega), if_pos (by omega), if_pos (by omega), up64 i l.length hi hl])) (fun k => by simp only [laws_eqItemS.l0]; rw [if_neg (by omega)]))
  unfold laws_eqItemS.f
  rw [if_pos rfl]

end Go.Proofs.Ytlocignlkigojaa.Pure

-- text OBits
namespace Go.Proofs.Ytlocignlkigojaa.Pure
open Go.RowKit Go.Proofs.YtlocignlkigojaaW.PrintWords Go.Proofs.YtlocignlkigojaaW.PrintLast Go.Proofs.YtlocignlkigojaaW.PrintMore
set_option linter.unusedVariables false
set_option linter.unusedSimpArgs false

theorem and32 (x : Int) : Go.bits .and .i64 x 4294967295 = x % 4294967296 := by
  have h : (BitVec.ofInt 64 x &&& BitVec.ofInt 64 4294967295).toNat = (x % 4294967296).toNat := by
    rw [BitVec.toNat_and]
    have e1 : (BitVec.ofInt 64 4294967295).toNat = 2 ^ 32 - 1 := by decide
    have e2 : (BitVec.ofInt 64 x).toNat = (x % 18446744073709551616).toNat := by simp [BitVec.toNat_ofInt]
    rw [e1, e2, Nat.and_two_pow_sub_one_eq_mod]
    omega
  show IntKind.i64.wrap ((BitVec.ofInt 64 x &&& BitVec.ofInt 64 4294967295).toNat : Int) = _
  rw [h, IntKind.wrap_i64]
  omega
theorem xor64 (a b : Nat) (ha : a < 2 ^ 63) (hb : b < 2 ^ 63) : Go.bits .xor .i64 (a : Int) (b : Int) = ((a ^^^ b : Nat) : Int) := by
  have hx : a ^^^ b < 2 ^ 63 := Nat.xor_lt_two_pow ha hb
  have h : (BitVec.ofInt 64 (a : Int) ^^^ BitVec.ofInt 64 (b : Int)).toNat = a ^^^ b := by
    rw [BitVec.toNat_xor, BitVec.ofInt_natCast, BitVec.ofInt_natCast, BitVec.toNat_ofNat, BitVec.toNat_ofNat, Nat.mod_eq_of_lt (by omega), Nat.mod_eq_of_lt (by omega)]
  show IntKind.i64.wrap ((BitVec.ofInt 64 (a : Int) ^^^ BitVec.ofInt 64 (b : Int)).toNat : Int) = _
  rw [h, IntKind.wrap_i64]
  omega
theorem xor32 (a b : Nat) (ha : a < 2 ^ 32) (hb : b < 2 ^ 32) : Go.bits .xor .u32 (a : Int) (b : Int) = ((a ^^^ b : Nat) : Int) := by
  have hx : a ^^^ b < 2 ^ 32 := Nat.xor_lt_two_pow ha hb
  have h : (BitVec.ofInt 32 (a : Int) ^^^ BitVec.ofInt 32 (b : Int)).toNat = a ^^^ b := by
    rw [BitVec.toNat_xor, BitVec.ofInt_natCast, BitVec.ofInt_natCast, BitVec.toNat_ofNat, BitVec.toNat_ofNat, Nat.mod_eq_of_lt (by omega), Nat.mod_eq_of_lt (by omega)]
  show IntKind.u32.wrap ((BitVec.ofInt 32 (a : Int) ^^^ BitVec.ofInt 32 (b : Int)).toNat : Int) = _
  rw [h, IntKind.wrap_u32]
  omega
theorem xor_same (a b : Int) (ha : 0 ≤ a) (ha' : a < 4294967296) (hb : 0 ≤ b) (hb' : b < 4294967296) : Go.bits .xor .i64 a b = Go.bits .xor .u32 a b ∧ 0 ≤ Go.bits .xor .u32 a b ∧ Go.bits .xor .u32 a b < 4294967296 := by
  obtain ⟨n, rfl⟩ := Int.eq_ofNat_of_zero_le ha
  obtain ⟨m, rfl⟩ := Int.eq_ofNat_of_zero_le hb
  have h1 : n < 2 ^ 32 := by omega
  have h2 : m < 2 ^ 32 := by omega
  have hx : n ^^^ m < 2 ^ 32 := Nat.xor_lt_two_pow h1 h2
  rw [xor64 n m (by omega) (by omega), xor32 n m h1 h2]
  exact ⟨rfl, by omega, by omega⟩

/-- two calls that return the same number: comparing them says true -/
theorem eq_then (x y : Option Int) (h : Int) (hx : x = some h) (hy : y = some h) : (x.bind fun t115 => (y.bind fun t116 => (if t116 = t115 then (some true) else (some false)))) = some true := by
  subst hx hy
  simp
theorem eq_then2 (x y : Option (Int × Int)) (h : Int × Int) (hx : x = some h) (hy : y = some h) : (x.bind fun b1 => (y.bind fun b2 => (if b2.1 = b1.1 then (if b2.2 = b1.2 then (some true) else (some false)) else (some false)))) = some true := by
  subst hx hy
  simp
theorem eq_thenB (x y : Option Bool) (h : Bool) (hx : x = some h) (hy : y = some h) : (x.bind fun t1 => (y.bind fun t2 => (if (t2 != t1) = true then (some false) else (some true)))) = some true := by
  subst hx hy
  simp
end Go.Proofs.Ytlocignlkigojaa.Pure

-- text OMix
namespace Go.Proofs.Ytlocignlkigojaa.Pure
open Go.RowKit Go.Proofs.Ytlocignlkigojaa.Q Go.Proofs.YtlocignlkigojaaW.PrintWords Go.Proofs.YtlocignlkigojaaW.PrintLast Go.Proofs.YtlocignlkigojaaW.PrintMore
set_option linter.unusedVariables false
set_option linter.unusedSimpArgs false

def mixA (h x : Int) : Int := (Go.bits .xor .u32 h (x % 4294967296) * 16777619) % 4294967296
def mixB (a : Int) : Int := (Go.bits .xor .u32 a (a / 32768) * 1540483477) % 4294967296
def mixC (b : Int) : Int := Go.bits .xor .u32 b (b / 8192)
def mixStep (h x : Int) : Int := mixC (mixB (mixA h x))
def mixL (l : List Int) (h : Int) : Int := l.foldl mixStep h
theorem mixA_range (h x : Int) : 0 ≤ mixA h x ∧ mixA h x < 4294967296 := by unfold mixA; omega
theorem mixB_range (a : Int) : 0 ≤ mixB a ∧ mixB a < 4294967296 := by unfold mixB; omega
theorem mixC_range (b : Int) (h0 : 0 ≤ b) (h1 : b < 4294967296) : 0 ≤ mixC b ∧ mixC b < 4294967296 := (xor_same b (b / 8192) h0 h1 (by omega) (by omega)).2
theorem mixStep_range (h x : Int) : 0 ≤ mixStep h x ∧ mixStep h x < 4294967296 := mixC_range _ (mixB_range _).1 (mixB_range _).2
theorem mixL_range : ∀ (l : List Int) (h : Int), 0 ≤ h → h < 4294967296 → 0 ≤ mixL l h ∧ mixL l h < 4294967296
  | [], _, h0, h1 => ⟨h0, h1⟩
  | x :: l, h, _, _ => mixL_range l (mixStep h x) (mixStep_range h x).1 (mixStep_range h x).2
theorem mixL_drop (l : List Int) (i : Int) (h0 : 0 ≤ i) (h1 : i < l.length) (h : Int) : mixL (l.drop i.toNat) h = mixL (l.drop (i + 1).toNat) (mixStep h (rd l i)) := by
  obtain ⟨n, rfl⟩ := Int.eq_ofNat_of_zero_le h0
  have hl : n < l.length := by omega
  have e : ((n : Int) + 1).toNat = n + 1 := by omega
  have er : rd l n = l[n] := by
    unfold rd
    rw [Int.toNat_natCast, List.getD_eq_getElem?_getD, List.getElem?_eq_getElem hl]; rfl
  rw [e, er, Int.toNat_natCast, List.drop_eq_getElem_cons hl]
  rfl
theorem wrap_small (x : Int) (h0 : 0 ≤ x) (h1 : x < 4294967296) : wrap64 x = x := by unfold wrap64; omega
theorem wrap_next (i : Int) (h0 : 0 ≤ i) (h1 : i < 9223372036854775807) : wrap64 (i + 1) = i + 1 := by unfold wrap64; omega
theorem wrap_mod (x : Int) : wrap64 x % 4294967296 = x % 4294967296 := by unfold wrap64; omega

theorem impl_mix (l : List Int) (hm : (l.length : Int) ≤ 9223372036854775807) (d : Nat) : ∀ (k : Nat) (h i : Int), 0 ≤ h → h < 4294967296 → 0 ≤ i → i ≤ l.length → (l.length : Int) - i = d → d < k →
    impl_Mix.l0 k h l (l.length : Int) i = some (mixL (l.drop i.toNat) h) := by
  induction d with
  | zero =>
    intro k h i a0 a1 h0 h1 hd hk
    obtain ⟨k, rfl⟩ : ∃ m, k = m + 1 := ⟨k - 1, by omega⟩
    simp only [impl_Mix.l0]
    rw [if_neg (by omega), wrap_small h a0 a1, List.drop_of_length_le (by omega)]
    rfl
  | succ d ih =>
    intro k h i a0 a1 h0 h1 hd hk
    obtain ⟨k, rfl⟩ : ∃ m, k = m + 1 := ⟨k - 1, by omega⟩
    have hlt : i < (l.length : Int) := by omega
    rw [mixL_drop l i h0 hlt h, ← ih k _ (i + 1) (mixStep_range h (rd l i)).1 (mixStep_range h (rd l i)).2 (by omega) (by omega) (by omega) (by omega)]
    simp only [impl_Mix.l0]
    rw [if_pos hlt, if_pos h0, if_pos hlt, wrap_next i h0 (by omega)]
    rfl
theorem spec_mix (l : List Int) (hm : (l.length : Int) ≤ 9223372036854775807) (d : Nat) : ∀ (k : Nat) (h i : Int), 0 ≤ h → h < 4294967296 → 0 ≤ i → i ≤ l.length → (l.length : Int) - i = d → d < k →
    spec_l01Mix.l0 k l h i = some (mixL (l.drop i.toNat) h) := by
  induction d with
  | zero =>
    intro k h i a0 a1 h0 h1 hd hk
    obtain ⟨k, rfl⟩ : ∃ m, k = m + 1 := ⟨k - 1, by omega⟩
    simp only [spec_l01Mix.l0]
    rw [if_neg (by omega), List.drop_of_length_le (by omega)]
    rfl
  | succ d ih =>
    intro k h i a0 a1 h0 h1 hd hk
    obtain ⟨k, rfl⟩ : ∃ m, k = m + 1 := ⟨k - 1, by omega⟩
    have hlt : i < (l.length : Int) := by omega
    rw [mixL_drop l i h0 hlt h, ← ih k _ (i + 1) (mixStep_range h (rd l i)).1 (mixStep_range h (rd l i)).2 (by omega) (by omega) (by omega) (by omega)]
    simp only [spec_l01Mix.l0, spec_l01Low.f, Option.bind_some]
    rw [if_pos hlt, if_pos h0, wrap_next i h0 (by omega), and32, and32, and32, wrap_mod, wrap_mod]
    have x1 := (xor_same h (rd l i % 4294967296) a0 a1 (by omega) (by omega)).1
    rw [x1]
    have x2 := mixA_range h (rd l i)
    have x3 := (xor_same (mixA h (rd l i)) (mixA h (rd l i) / 32768) x2.1 x2.2 (by omega) (by omega)).1
    have x4 := mixB_range (mixA h (rd l i))
    have x5 := (xor_same (mixB (mixA h (rd l i))) (mixB (mixA h (rd l i)) / 8192) x4.1 x4.2 (by omega) (by omega)).1
    show spec_l01Mix.l0 k l (Go.bits .xor .i64 ((Go.bits .xor .i64 (mixA h (rd l i)) (mixA h (rd l i) / 32768) * 1540483477) % 4294967296) (((Go.bits .xor .i64 (mixA h (rd l i)) (mixA h (rd l i) / 32768) * 1540483477) % 4294967296) / 8192)) (i + 1) = _
    rw [x3]
    show spec_l01Mix.l0 k l (Go.bits .xor .i64 (mixB (mixA h (rd l i))) (mixB (mixA h (rd l i)) / 8192)) (i + 1) = _
    rw [x5]
    rfl
/-- the hash of a list of words -/
def hash (l : List Int) : Int := mixL l 2166136261
theorem hash_range (l : List Int) : 0 ≤ hash l ∧ hash l < 4294967296 := mixL_range l _ (by decide) (by decide)
theorem impl_Mix_hash (l : List Int) (hm : (l.length : Int) ≤ 9223372036854775807) (k : Nat) (hk : l.length < k) : impl_Mix.f k l = some (hash l) :=
  impl_mix l hm l.length k _ 0 (by decide) (by decide) (by omega) (by omega) (by omega) hk
theorem spec_Mix_hash (l : List Int) (hm : (l.length : Int) ≤ 9223372036854775807) (k : Nat) (hk : l.length < k) : spec_l01Mix.f k l = some (hash l) :=
  spec_mix l hm l.length k _ 0 (by decide) (by decide) (by omega) (by omega) (by omega) hk

end Go.Proofs.Ytlocignlkigojaa.Pure

-- text OTicket
namespace Go.Proofs.Ytlocignlkigojaa.Pure
open Go.RowKit Go.Proofs.Ytlocignlkigojaa.Q Go.Proofs.YtlocignlkigojaaW.PrintWords Go.Proofs.YtlocignlkigojaaW.PrintLast
set_option linter.unusedVariables false
set_option linter.unusedSimpArgs false

theorem four_short (a b c d : Int) : (([a, b, c, d] : List Int).length : Int) ≤ 9223372036854775807 := by
  simp only [List.length_cons, List.length_nil]; omega
theorem spec_ticket7 (a0 a1 a2 a3 : Int) (k : Nat) (hk : 4 < k) : spec_l07Ticket.f k a0 a1 a2 a3 = some (hash [a2, a3, a0, a1]) := by
  unfold spec_l07Ticket.f
  rw [spec_Mix_hash _ (four_short a2 a3 a0 a1) k hk]
  simp only [Option.bind_some]
theorem impl_ticket (a0 a1 a2 a3 : Int) (k : Nat) (hk : 4 < k) : impl_TicketOf.f k a0 a1 a2 a3 = some (hash [a2, a3, a0, a1]) := by
  unfold impl_TicketOf.f
  rw [impl_Mix_hash _ (four_short a2 a3 a0 a1) k hk]
  simp only [Option.bind_some]

end Go.Proofs.Ytlocignlkigojaa.Pure

-- text OItem
namespace Go.Proofs.Ytlocignlkigojaa.Pure
open Go.RowKit Go.Proofs.Ytlocignlkigojaa.Q Go.Proofs.YtlocignlkigojaaW.PrintWords Go.Proofs.YtlocignlkigojaaW.PrintLast Go.Proofs.YtlocignlkigojaaW.PrintMore
set_option linter.unusedVariables false
set_option linter.unusedSimpArgs false

theorem spec_item (x : S26) : spec_l07Item.f x.f0 x.f1 = some (itemB x) := itemOk_itemB x
/-- the ticket of a unit of an item -/
def ticket (id u seed try_ : Int) : Int := hash [seed, try_, id, u]
/-- the highest of the first tickets; -1 of none -/
def bestN (id seed try_ : Int) : Nat → Int
  | 0 => -1
  | n + 1 => max (bestN id seed try_ n) (ticket id n seed try_)
def bestOf (x : S26) (seed try_ : Int) : Int := bestN x.f0 seed try_ x.f1.toNat
theorem ticket_range (id u seed try_ : Int) : 0 ≤ ticket id u seed try_ ∧ ticket id u seed try_ < 4294967296 := hash_range _
theorem bestN_range (id seed try_ : Int) : ∀ n, -1 ≤ bestN id seed try_ n ∧ bestN id seed try_ n < 4294967296 ∧ (0 < n → 0 ≤ bestN id seed try_ n)
  | 0 => by simp [bestN]
  | n + 1 => by
    have h := bestN_range id seed try_ n
    have h2 := ticket_range id n seed try_
    simp only [bestN]
    omega
theorem mx_max (a b : Int) : mx a b = max a b := by unfold mx; omega
theorem l00Max_is (a b : Int) : spec_l00Max.f a b = some (max a b) := by
  unfold spec_l00Max.f
  by_cases h : a > b
  · rw [if_pos h]; congr 1; omega
  · rw [if_neg h]; congr 1; omega
theorem impl_best_ev (id wt seed try_ : Int) (hw : wt ≤ 4611686018427387904) : Ev (fun k => impl_Item_best.f k id wt seed try_) (bestN id seed try_ wt.toNat) := by
  by_cases h0 : 0 ≤ wt
  · obtain ⟨n, rfl⟩ := Int.eq_ofNat_of_zero_le h0
    rw [Int.toNat_natCast]
    refine loop_is n (fun k s i => impl_Item_best.l0 k seed try_ s n i id n) (fun i s => s = bestN id seed try_ i) _ ?_ ?_ (-1) rfl
    · rintro i s hi rfl
      refine .inr ⟨bestN id seed try_ (i + 1), rfl, fun r hr => Ev.step (f := ?f) (fun k => ?_) ?_⟩
      rotate_left
      · simp only [impl_Item_best.l0, mx_max]
        rw [if_pos (by omega), up64 i n hi (by omega)]
        all_goals exact rfl
      · exact Ev.bind (ev_of (K := 5) fun k hk => impl_ticket id i seed try_ k (by omega)) hr
    · rintro s rfl
      exact ev_end (fun k => by simp only [impl_Item_best.l0]; rw [if_neg (by omega)])
  · have e : wt.toNat = 0 := by omega
    rw [e]
    exact ev_end (fun k => by simp only [impl_Item_best.f, impl_Item_best.l0]; rw [if_neg (by omega)]; rfl)
theorem spec_best_ev (id wt seed try_ : Int) (hw : wt ≤ 4611686018427387904) : Ev (fun k => spec_l07Best.f k id wt seed try_) (bestN id seed try_ wt.toNat) := by
  by_cases h0 : 0 ≤ wt
  · obtain ⟨n, rfl⟩ := Int.eq_ofNat_of_zero_le h0
    rw [Int.toNat_natCast]
    refine loop_is n (fun k s i => spec_l07Best.l0 k seed try_ s i id n) (fun i s => s = bestN id seed try_ i) _ ?_ ?_ (-1) rfl
    · rintro i s hi rfl
      refine .inr ⟨bestN id seed try_ (i + 1), rfl, fun r hr => Ev.step (f := ?f) (fun k => ?_) ?_⟩
      rotate_left
      · simp only [spec_l07Best.l0, l00Max_is, Option.bind_some]
        rw [if_pos (by omega), up64 i n hi (by omega)]
        all_goals exact rfl
      · exact Ev.bind (ev_of (K := 5) fun k hk => spec_ticket7 id i seed try_ k (by omega)) hr
    · rintro s rfl
      exact ev_end (fun k => by simp only [spec_l07Best.l0]; rw [if_neg (by omega)])
  · have e : wt.toNat = 0 := by omega
    rw [e]
    exact ev_end (fun k => by simp only [spec_l07Best.f, spec_l07Best.l0]; rw [if_neg (by omega)]; rfl)
/-- who has the highest ticket, the first of several: the ticket and the Id -/
def pickStep (seed try_ : Int) (s : Int × Int) (x : S26) : Int × Int := if bestOf x seed try_ > s.1 then (bestOf x seed try_, x.f0) else s
def pickL (l : List S26) (seed try_ : Int) : Int × Int := l.foldl (pickStep seed try_) (-1, 0)
def chooseL (l : List S26) (seed try_ : Int) : Int × Bool := ((pickL l seed try_).2, decide ((pickL l seed try_).1 ≥ 0))
/-- no weight is out of all bounds -/
def WtOk (l : List S26) : Prop := ∀ x ∈ l, x.f1 ≤ 4611686018427387904
theorem pick_take (l : List S26) (i : Nat) (h : i < l.length) (seed try_ : Int) : (l.take (i + 1)).foldl (pickStep seed try_) (-1, 0) = pickStep seed try_ ((l.take i).foldl (pickStep seed try_) (-1, 0)) l[i] := by
  rw [List.take_succ_eq_append_getElem h, List.foldl_append]
  rfl
theorem impl_choose_ev (l : List S26) (hl : l.length ≤ 1048576) (hw : WtOk l) (seed try_ : Int) : Ev (fun k => impl_choose.f k l seed try_) (chooseL l seed try_) := by
  refine loop_is l.length (fun k (s : Int × Int) i => impl_choose.l0 k seed try_ s.1 s.2 l l.length i) (fun i s => s = (l.take i).foldl (pickStep seed try_) (-1, 0)) _ ?_ ?_ (-1, 0) rfl
  · rintro i s hi rfl
    refine .inr ⟨_, rfl, fun r hr => Ev.step (f := ?f) (fun k => ?_) ?_⟩
    rotate_left
    · simp only [impl_choose.l0]
      rw [if_pos (by omega), if_pos (by omega), if_pos (by omega), up64 i l.length hi (by omega), rd_item l i hi]
      all_goals exact rfl
    · rw [pick_take l i hi] at hr
      generalize List.foldl (pickStep seed try_) (-1, 0) (l.take i) = s at hr ⊢
      refine Ev.bind (impl_best_ev _ _ seed try_ (hw _ (List.getElem_mem hi))) ?_
      unfold pickStep bestOf at hr
      by_cases c : bestN l[i].f0 seed try_ l[i].f1.toNat > s.1
      · rw [if_pos c] at hr
        refine Ev.congr (fun k => ?_) hr
        exact if_pos c
      · rw [if_neg c] at hr
        refine Ev.congr (fun k => ?_) hr
        exact if_neg c
  · rintro s rfl
    refine ev_end (fun k => ?_)
    simp only [impl_choose.l0]
    rw [if_neg (by omega), List.take_length]
    rfl
theorem spec_choose_ev (l : List S26) (hl : l.length ≤ 1048576) (hw : WtOk l) (seed try_ : Int) : Ev (fun k => spec_l07Choose.f k l seed try_) (chooseL l seed try_) := by
  refine loop_is l.length (fun k (s : Int × Int) i => spec_l07Choose.l0 k l seed try_ s.1 s.2 i) (fun i s => s = (l.take i).foldl (pickStep seed try_) (-1, 0)) _ ?_ ?_ (-1, 0) rfl
  · rintro i s hi rfl
    refine .inr ⟨_, rfl, fun r hr => Ev.step (f := ?f) (fun k => ?_) ?_⟩
    rotate_left
    · simp only [spec_l07Choose.l0]
      rw [if_pos (by omega), if_pos (by omega), up64 i l.length hi (by omega), rd_item l i hi]
      all_goals exact rfl
    · rw [pick_take l i hi] at hr
      generalize List.foldl (pickStep seed try_) (-1, 0) (l.take i) = s at hr ⊢
      refine Ev.bind (spec_best_ev _ _ seed try_ (hw _ (List.getElem_mem hi))) ?_
      unfold pickStep bestOf at hr
      by_cases c : bestN l[i].f0 seed try_ l[i].f1.toNat > s.1
      · rw [if_pos c] at hr
        refine Ev.congr (fun k => ?_) hr
        exact if_pos c
      · rw [if_neg c] at hr
        refine Ev.congr (fun k => ?_) hr
        exact if_neg c
  · rintro s rfl
    refine ev_end (fun k => ?_)
    simp only [spec_l07Choose.l0]
    rw [if_neg (by omega), List.take_length]
    rfl
/-- are items valid, from a place on? -/
theorem itemsGo_all : ∀ (xs seen : List S26), itemsGo seen xs = true → ∀ x ∈ xs, itemB x = true
  | [], _, _, x, hx => by simp at hx
  | y :: ys, seen, h, x, hx => by
    unfold itemsGo at h
    rw [Bool.and_eq_true, Bool.and_eq_true] at h
    rcases List.mem_cons.1 hx with rfl | hx
    · exact h.1.1
    · exact itemsGo_all ys _ h.2 x hx
theorem wtOk_of (l : List S26) (h : itemsOkB l = true) : WtOk l ∧ l.length ≤ 8 := by
  unfold itemsOkB at h
  rw [Bool.and_eq_true] at h
  refine ⟨fun x hx => ?_, of_decide_eq_true h.2⟩
  have := itemsGo_all l [] h.1 x hx
  unfold itemB inB at this
  simp only [Bool.and_eq_true, decide_eq_true_eq] at this
  omega
theorem any_take (l : List S26) (id : Int) : ∀ (m : Nat), m < l.length → ((l.take (m + 1)).any fun y => y.f0 == id) = (((l.take m).any fun y => y.f0 == id) || (l.getD m z26).f0 == id) := by
  intro m hm
  rw [List.take_succ_eq_append_getElem hm, List.any_append, getD_get l m _ hm]
  simp
theorem spec_items_ev (l : List S26) : Ev (fun k => spec_l07OK.f k l) (itemsOkB l) := by
  by_cases h8 : (l.length : Int) > 8
  · refine ev_some (fun k => ?_)
    unfold spec_l07OK.f itemsOkB
    rw [if_pos h8, decide_eq_false (by omega), Bool.and_false]
  · have hmain : Ev (fun k => spec_l07OK.l0 k l 0) (itemsGo (l.take 0) (l.drop 0)) := by
      refine loop_is l.length (fun k (_ : Unit) i => spec_l07OK.l0 k l i) (fun i _ => itemsGo (l.take 0) (l.drop 0) = itemsGo (l.take i) (l.drop i)) _ ?_ ?_ () rfl
      · intro i _ hi hI
        have hs := itemsGo_step l (i : Int) (by omega) (by omega)
        rw [Int.toNat_natCast, show ((i : Int) + 1).toNat = i + 1 from by omega, rd_item l i hi] at hs
        rw [hI]
        by_cases c1 : itemB l[i] = true
        · -- the earlier ones
          have hin : ∀ r, Ev (fun k => spec_l07OK.l0 k l ((i + 1 : Nat) : Int)) r → ((l.take i).any (fun y => y.f0 == l[i].f0) = false) → Ev (fun k => spec_l07OK.l1 k l i 0) r := by
            intro r hr hn
            refine loop_is i (fun k (_ : Unit) j => spec_l07OK.l1 k l i j) (fun _ _ => True) r ?_ ?_ () trivial
            · intro j _ hj _
              have hne : ¬ (l[j].f0 = l[i].f0) := fun e => by
                rw [List.any_eq_false] at hn
                have := hn l[j] (by rw [List.mem_take_iff_getElem]; exact ⟨j, by omega, rfl⟩)
                simp [e] at this
              refine .inr ⟨(), trivial, ev_next (fun k => ?_)⟩
              simp only [spec_l07OK.l1]
              rw [if_pos (by omega), if_pos (by omega), if_pos (by omega), if_pos (by omega), if_pos (by omega), rd_item l j (by omega), rd_item l i hi, if_neg hne, up64 j i hj (by omega)]
            · intro _ _
              refine Ev.step (fun k => ?_) hr
              simp only [spec_l07OK.l1]
              rw [if_neg (by omega), up64 i l.length hi (by omega)]
          cases c2 : (l.take i).any (fun y => y.f0 == l[i].f0) with
          | false =>
            refine .inr ⟨(), ?_, fun r hr => Ev.step (fun k => ?_) (hin r hr c2)⟩
            · rw [← hI, hI, hs, c1, c2]; rfl
            · simp only [spec_l07OK.l0]
              rw [if_pos (by omega), if_pos (by omega), rd_item l i hi, spec_item, c1, Option.bind_some, if_pos rfl]
          | true =>
            left
            rw [hs, c1, c2]
            refine Ev.step (f := fun k => spec_l07OK.l1 k l i 0) (fun k => ?_) ?_
            · simp only [spec_l07OK.l0]
              rw [if_pos (by omega), if_pos (by omega), rd_item l i hi, spec_item, c1, Option.bind_some, if_pos rfl]
            · refine loop_is i (fun k (_ : Unit) j => spec_l07OK.l1 k l i j) (fun j _ => (l.take j).any (fun y => y.f0 == l[i].f0) = false) _ ?_ ?_ () (by simp)
              · intro j _ hj hJ
                by_cases ce : l[j].f0 = l[i].f0
                · left
                  refine ev_end (fun k => ?_)
                  simp only [spec_l07OK.l1]
                  rw [if_pos (by omega), if_pos (by omega), if_pos (by omega), if_pos (by omega), if_pos (by omega), rd_item l j (by omega), rd_item l i hi, if_pos ce]
                  rfl
                · refine .inr ⟨(), ?_, ev_next (fun k => ?_)⟩
                  · rw [any_take l _ j (by omega), hJ, getD_get l j _ (by omega)]
                    simpa using ce
                  · simp only [spec_l07OK.l1]
                    rw [if_pos (by omega), if_pos (by omega), if_pos (by omega), if_pos (by omega), if_pos (by omega), rd_item l j (by omega), rd_item l i hi, if_neg ce, up64 j i hj (by omega)]
              · intro _ hJ
                rw [c2] at hJ
                cases hJ
        · left
          have c1' : itemB l[i] = false := by simpa using c1
          rw [hs, c1']
          refine ev_end (fun k => ?_)
          simp only [spec_l07OK.l0]
          rw [if_pos (by omega), if_pos (by omega), rd_item l i hi, spec_item, c1', Option.bind_some, if_neg (by decide)]
          rfl
      · intro _ hI
        rw [hI, List.drop_length]
        refine ev_end (fun k => ?_)
        simp only [spec_l07OK.l0]
        rw [if_neg (by omega)]
        rfl
    have e : itemsOkB l = itemsGo (l.take 0) (l.drop 0) := by
      unfold itemsOkB
      rw [decide_eq_true (show l.length ≤ 8 by omega), Bool.and_true]
      rfl
    rw [e]
    refine Ev.congr (fun k => ?_) hmain
    unfold spec_l07OK.f
    rw [if_neg h8]
theorem ev_then {α : Type} {g : Nat → Option α} {r : α} (h : Ev g r) : Ev (fun k => (g k).bind fun t => some t) r := Ev.bind h (Ev.now r)

end Go.Proofs.Ytlocignlkigojaa.Pure

-- text OChoose
namespace Go.Proofs.Ytlocignlkigojaa.Pure
open Go.RowKit Go.Proofs.Ytlocignlkigojaa.Q Go.Proofs.YtlocignlkigojaaW.PrintWords Go.Proofs.YtlocignlkigojaaW.PrintLast Go.Proofs.YtlocignlkigojaaW.PrintMore
set_option linter.unusedVariables false
set_option linter.unusedSimpArgs false
/-- the one that is chosen, and the error -/
def oneOf (l : List S26) (seed try_ : Int) : Int × Int := if itemsOkB l = true then (if (chooseL l seed try_).2 = true then ((chooseL l seed try_).1, 0) else (0, 3)) else (0, 1)
theorem impl_one_ev (l : List S26) (seed try_ : Int) : Ev (fun k => impl_ChooseOne.f k l seed try_) (oneOf l seed try_) := by
  unfold impl_ChooseOne.f impl_ItemsOk.f oneOf
  simp only [Option.bind_some]
  by_cases h : itemsOkB l = true
  · have hw := wtOk_of l h
    simp only [if_pos h]
    refine Ev.bind (impl_choose_ev l (by omega) hw.1 seed try_) (ev_some fun k => ?_)
    by_cases c : (chooseL l seed try_).2 = true
    · rw [if_pos c, if_pos c]
    · rw [if_neg c, if_neg c]
  · simp only [if_neg h]
    exact Ev.now _
end Go.Proofs.Ytlocignlkigojaa.Pure

-- text PureFnExactChooseOne
namespace Go.Proofs.Ytlocignlkigojaa.Pure
open Go.RowKit Go.Proofs.Ytlocignlkigojaa.Q Go.Proofs.Ytlocignlkigojaa.Opens Go.Proofs.YtlocignlkigojaaW.PrintWords Go.Proofs.YtlocignlkigojaaW.PrintLast Go.Proofs.YtlocignlkigojaaW.PrintMore
set_option linter.unusedVariables false
set_option linter.unusedSimpArgs false

theorem spec_one_ev (l : List S26) (seed try_ : Int) : Ev (fun k => spec_ChooseOne.f k l seed try_) (oneOf l seed try_) := by
  unfold spec_ChooseOne.f oneOf
  refine Ev.bind (spec_items_ev l) ?_
  by_cases h : itemsOkB l = true
  · have hw := wtOk_of l h
    simp only [if_pos h]
    refine Ev.bind (spec_choose_ev l (by omega) hw.1 seed try_) (ev_some fun k => ?_)
    by_cases c : (chooseL l seed try_).2 = true
    · rw [if_pos c, if_pos c]
    · rw [if_neg c, if_neg c]
  · simp only [if_neg h]
    exact Ev.now _
theorem FnExactChooseOne (l0 : List S23) (a1 : Int) (a2 : Int) (hg : good_t29 l0) (_ : (Lit.int .i64 a1).wf = true) (_ : (Lit.int .i64 a2).wf = true) : ∃ k, laws_FnExactChooseOne.f k l0 a1 a2 = some true := by
  by_cases h : l0.length ≤ 1048576
  · have hto := toItemS_ev l0 h
    have heq := eqItemS_ev (l0.map itemOf) (by rw [List.length_map]; omega)
    have h1 := spec_one_ev (l0.map itemOf) a1 a2
    have h2 := impl_one_ev (l0.map itemOf) a1 a2
    generalize oneOf (l0.map itemOf) a1 a2 = r at h1 h2
    refine Ev.rounds (r := true) ?_
    unfold laws_FnExactChooseOne.f
    simp only [szItemS_is l0 hg.1, if_pos h, Option.bind_some]
    simp only [show ¬ ((1048576 : Int) - (l0.length : Int) < 0) by omega, if_false]
    refine Ev.bind hto (Ev.bind h1 (Ev.bind hto (Ev.bind h2 ?_)))
    simp only [if_true, bne_self_eq_false]
    refine Ev.step (f := ?f) (fun k => ?_) ?_
    rotate_left
    · simp only [laws_FnExactChooseOne.j0, Bool.false_eq_true, if_false]
      all_goals exact rfl
    · refine Ev.bind hto (Ev.bind heq ?_)
      exact ev_some fun k => if_pos rfl
  · refine ⟨0, ?_⟩
    unfold laws_FnExactChooseOne.f
    rw [szItemS_is l0 hg.1, if_neg h, Option.bind_some, if_pos (by decide)]

end Go.Proofs.Ytlocignlkigojaa.Pure
