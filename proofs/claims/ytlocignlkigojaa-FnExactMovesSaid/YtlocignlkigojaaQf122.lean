/- Walks of the Go functions that the laws call: each returns what a plain Lean function says. Written by a program for these claims. -/
import Derived.Test.YtlocignlkigojaaQ0
import Derived.Test.YtlocignlkigojaaQf96
namespace Go.Proofs.Ytlocignlkigojaa.Q
open Go.RowKit Go.Proofs.YtlocignlkigojaaW.PrintWords Go.Proofs.YtlocignlkigojaaW.PrintLast Go.Proofs.YtlocignlkigojaaW.PrintMore
attribute [local go_sem] max2_int min2_int max_two min_two max_three min_three max_four min_four   -- for this text's walks alone
set_option linter.unusedVariables false
set_option linter.unusedSimpArgs false

/-! ### spec_l10Rows: function 122 -/
mutual
def spec_l10Rows.l0 : Nat → List (List Int) → Int → Option (Bool)
  | 0, _, _ => none
  | k + 1, x0, x3 => if x3 < (x0.length : Int) then (if 0 ≤ x3 then (if ((rd_L5 x0 x3).length : Int) > 7 then (spec_l10Rows.j1 k x0 x3 true) else (if 0 < (x0.length : Int) then (spec_l10Rows.j1 k x0 x3 (((rd_L5 x0 x3).length : Int) != ((rd_L5 x0 0).length : Int))) else (none))) else (none)) else (some true)
def spec_l10Rows.j1 : Nat → List (List Int) → Int → Bool → Option (Bool)
  | 0, _, _, _ => none
  | k + 1, x0, x3, x31 => if x31 = true then (some false) else (spec_l10Rows.l1 k x0 x3 0)
def spec_l10Rows.l1 : Nat → List (List Int) → Int → Int → Option (Bool)
  | 0, _, _, _ => none
  | k + 1, x0, x3, x4 => if 0 ≤ x3 then (if x3 < (x0.length : Int) then (if x4 < ((rd_L5 x0 x3).length : Int) then (if 0 ≤ x4 then ((spec_l00In.f (rd (rd_L5 x0 x3) x4) (-1) 15).bind fun t588 => (if t588 = true then (spec_l10Rows.l1 k x0 x3 (wrap64 (x4 + 1))) else (some false))) else (none)) else (spec_l10Rows.l0 k x0 (wrap64 (x3 + 1)))) else (none)) else (none)
end
def spec_l10Rows.f (k : Nat) (l0 : List (List Int)) : Option (Bool) := if (l0.length : Int) > 16 then (some false) else (spec_l10Rows.l0 k l0 0)
theorem spec_l10Rows.mono_l : ∀ k, (∀ y0 y1, LeO (spec_l10Rows.l0 k y0 y1) (spec_l10Rows.l0 (k + 1) y0 y1)) ∧ (∀ y0 y1 y2, LeO (spec_l10Rows.j1 k y0 y1 y2) (spec_l10Rows.j1 (k + 1) y0 y1 y2)) ∧ (∀ y0 y1 y2, LeO (spec_l10Rows.l1 k y0 y1 y2) (spec_l10Rows.l1 (k + 1) y0 y1 y2))
  | 0 => ⟨fun _ _ r h => by simp [spec_l10Rows.l0] at h, fun _ _ _ r h => by simp [spec_l10Rows.j1] at h, fun _ _ _ r h => by simp [spec_l10Rows.l1] at h⟩
  | k + 1 => by
    obtain ⟨ih0, ih1, ih2⟩ := spec_l10Rows.mono_l k
    refine ⟨?_, ?_, ?_⟩
    · intro y0 y1
      unfold spec_l10Rows.l0
      repeat' first
      | (with_reducible exact ih0 _ _)
      | (with_reducible exact ih1 _ _ _)
      | (with_reducible exact ih2 _ _ _)
      | (with_reducible exact LeO.refl _)
      | (with_reducible exact LeO.none _)
      | (with_reducible refine LeO.ite ?_ ?_)
      | (with_reducible refine LeO.bind ?_ (fun _ => ?_))
      | exact ih0 _ _
      | exact ih1 _ _ _
      | exact ih2 _ _ _
      | exact LeO.none _
      | refine LeO.ite ?_ ?_
      | refine LeO.bind ?_ (fun _ => ?_)
    · intro y0 y1 y2
      unfold spec_l10Rows.j1
      repeat' first
      | (with_reducible exact ih0 _ _)
      | (with_reducible exact ih1 _ _ _)
      | (with_reducible exact ih2 _ _ _)
      | (with_reducible exact LeO.refl _)
      | (with_reducible exact LeO.none _)
      | (with_reducible refine LeO.ite ?_ ?_)
      | (with_reducible refine LeO.bind ?_ (fun _ => ?_))
      | exact ih0 _ _
      | exact ih1 _ _ _
      | exact ih2 _ _ _
      | exact LeO.none _
      | refine LeO.ite ?_ ?_
      | refine LeO.bind ?_ (fun _ => ?_)
    · intro y0 y1 y2
      unfold spec_l10Rows.l1
      repeat' first
      | (with_reducible exact ih0 _ _)
      | (with_reducible exact ih1 _ _ _)
      | (with_reducible exact ih2 _ _ _)
      | (with_reducible exact LeO.refl _)
      | (with_reducible exact LeO.none _)
      | (with_reducible refine LeO.ite ?_ ?_)
      | (with_reducible refine LeO.bind ?_ (fun _ => ?_))
      | exact ih0 _ _
      | exact ih1 _ _ _
      | exact ih2 _ _ _
      | exact LeO.none _
      | refine LeO.ite ?_ ?_
      | refine LeO.bind ?_ (fun _ => ?_)
theorem spec_l10Rows.mono : ∀ a0 k, LeO (spec_l10Rows.f k a0) (spec_l10Rows.f (k + 1) a0) := by
  intro a0 k
  obtain ⟨ih0, ih1, ih2⟩ := spec_l10Rows.mono_l k
  unfold spec_l10Rows.f
  repeat' first
      | (with_reducible exact ih0 _ _)
      | (with_reducible exact ih1 _ _ _)
      | (with_reducible exact ih2 _ _ _)
      | (with_reducible exact LeO.refl _)
      | (with_reducible exact LeO.none _)
      | (with_reducible refine LeO.ite ?_ ?_)
      | (with_reducible refine LeO.bind ?_ (fun _ => ?_))
      | exact ih0 _ _
      | exact ih1 _ _ _
      | exact ih2 _ _ _
      | exact LeO.none _
      | refine LeO.ite ?_ ?_
      | refine LeO.bind ?_ (fun _ => ?_)
set_option maxHeartbeats 8000000 in
set_option maxRecDepth 100000 in
theorem spec_l10Rows.calls (k : Nat) (A0 : Option Addr) (c0 : Nat) (l0 : List (List Int)) (r : Bool) (w : World) (hr0 : Kd.C (Kd.slice 2 (Kd.int .i64)) w A0 l0.length l0) (hc0 : l0.length ≤ c0) (h : spec_l10Rows.f k l0 = some r) :
    Calls Try.prog 122 #[.slice A0 l0.length c0] w fun e w' => e = .returned (.bool r) ∧ Drawn0 w w' := by
  have HR0 := Aside0.mk hr0
  have HC0 := Aside0.mk hc0
  clear hr0 hc0
  have H : (if (l0.length : Int) > 16 then (some false) else (spec_l10Rows.l0 k l0 0)) = some r := h
  clear h
  by_cases c2 : (l0.length : Int) > 16
  · rw [if_pos c2] at H
    have c2b0 : decide (16 < (l0.length : Int)) = true := decide_eq_true c2
    have c2b1 : decide (16 < l0.length) = true := decide_eq_true (by omega)
    clear c2
    obtain rfl := Option.some.inj H
    go_enter Try.func122, Try.ntmps122
    go_wp2
    repeat (go_quiet (fail); try go_wp2)
    go_ret
    exact ⟨by first | rfl | (simp; done) | (simp [*]; done), by repeat (first | exact Drawn0.refl _ | apply Drawn0.step)⟩
  · rw [if_neg c2] at H
    have c2b0 : decide (16 < (l0.length : Int)) = false := decide_eq_false c2
    have c2b1 : decide (16 < l0.length) = false := decide_eq_false (by omega)
    clear c2
    have H' := Aside0.mk H
    clear H
    go_enter Try.func122, Try.ntmps122
    go_wp2
    repeat (go_quiet (fail); try go_wp2)
    go_loopg [3] k (fun kq v3 w' => ∃ (x3_1 : Int), v3 = .int .i64 x3_1 ∧ Aside0 (spec_l10Rows.l0 kq l0 x3_1 = some r) ∧ Aside0 (kq ≤ k) ∧ Drawn0 w w')
    case atStart => exact ⟨(0), (by first | rfl | (simp; done) | (simp [*]; done)), H', ⟨Nat.le_refl _⟩, by repeat (first | exact Drawn0.refl _ | apply Drawn0.step)⟩
    case round =>
      clear H'
      try clear c1
      try clear c2
      try clear c2b0
      try clear c2b1
      try clear p2
      obtain ⟨x3_1, rfl, HA, HK1, ⟨m1, rfl⟩⟩ := hrel
      cases gk with
      | zero => exact absurd HA.out (by simp [spec_l10Rows.l0])
      | succ k1 =>
        have H := HA.out
        clear HA
        simp only [spec_l10Rows.l0] at H
        by_cases c3 : x3_1 < (l0.length : Int)
        · rw [if_pos c3] at H
          have c3b0 : decide (x3_1 < (l0.length : Int)) = true := decide_eq_true c3
          clear c3
          have HC4 := Aside0.mk H
          clear H
          go_upto_region 6 with (fail)
          repeat (go_quiet (fail); go_upto_region 6 with (fail))
          go_cut [31] (fun v31 wc => ∃ (kq : Nat) (x31_3 : Bool), v31 = .bool x31_3 ∧ Aside0 (spec_l10Rows.j1 kq l0 x3_1 x31_3 = some r) ∧ Aside0 (kq ≤ k1) ∧ Drawn0 w wc)
          case first =>
            have H := HC4.out
            clear HC4
            by_cases c5 : 0 ≤ x3_1
            · rw [if_pos c5] at H
              have c5b0 : decide (0 ≤ x3_1) = true := decide_eq_true c5
              clear c5
              (first | rw [c5b0] | (simp only [i64_w, i32_w]; rw [c5b0]) | skip)
              by_cases c6 : ((rd_L5 l0 x3_1).length : Int) > 7
              · rw [if_pos c6] at H
                have c6b0 : decide (7 < ((rd_L5 l0 x3_1).length : Int)) = true := decide_eq_true c6
                have c6b1 : decide (7 < (rd_L5 l0 x3_1).length) = true := decide_eq_true (by omega)
                clear c6
                have H' := Aside0.mk H
                clear H
                have p582 : 0 ≤ (x3_1 : Int) := of_decide_eq_true (by first | (with_reducible assumption) | assumption)
                have q582 : x3_1 < (l0.length : Int) := of_decide_eq_true (by first | (with_reducible assumption) | assumption)
                obtain ⟨ad582, A582_0, c582_0, e582, hx582_0, hl582_0, hi582_0⟩ := at_L5 HR0.out x3_1 p582 q582
                cases e582
                have HR582_0 := Aside0.mk hi582_0
                have HC582_0 := Aside0.mk hl582_0
                clear hi582_0 hl582_0
                replace p582 := eq_true p582
                replace q582 := eq_true q582
                go_wp2
                repeat (go_quiet (fail); try go_wp2)
                go_meet
                case rel => exact ⟨_, (true), (by first | rfl | (simp; done) | (simp [*]; done)), H', ⟨by have := HK1.out; first | omega | exact Nat.le_refl _⟩, by repeat (first | exact Drawn0.refl _ | apply Drawn0.step)⟩
              · rw [if_neg c6] at H
                have c6b0 : decide (7 < ((rd_L5 l0 x3_1).length : Int)) = false := decide_eq_false c6
                have c6b1 : decide (7 < (rd_L5 l0 x3_1).length) = false := decide_eq_false (by omega)
                clear c6
                by_cases c7 : 0 < (l0.length : Int)
                · rw [if_pos c7] at H
                  have c7b0 : decide (0 < (l0.length : Int)) = true := decide_eq_true c7
                  have c7b1 : decide (0 < l0.length) = true := decide_eq_true (by omega)
                  clear c7
                  have H' := Aside0.mk H
                  clear H
                  have p582 : 0 ≤ (x3_1 : Int) := of_decide_eq_true (by first | (with_reducible assumption) | assumption)
                  have q582 : x3_1 < (l0.length : Int) := of_decide_eq_true (by first | (with_reducible assumption) | assumption)
                  obtain ⟨ad582, A582_0, c582_0, e582, hx582_0, hl582_0, hi582_0⟩ := at_L5 HR0.out x3_1 p582 q582
                  cases e582
                  have HR582_0 := Aside0.mk hi582_0
                  have HC582_0 := Aside0.mk hl582_0
                  clear hi582_0 hl582_0
                  replace p582 := eq_true p582
                  replace q582 := eq_true q582
                  have p583 : 0 ≤ (x3_1 : Int) := of_decide_eq_true (by first | (with_reducible assumption) | assumption)
                  have q583 : x3_1 < (l0.length : Int) := of_decide_eq_true (by first | (with_reducible assumption) | assumption)
                  obtain ⟨ad583, A583_0, c583_0, e583, hx583_0, hl583_0, hi583_0⟩ := at_L5 HR0.out x3_1 p583 q583
                  obtain rfl : ad582 = ad583 := (by injection e583)
                  have HR583_0 := Aside0.mk hi583_0
                  have HC583_0 := Aside0.mk hl583_0
                  clear hi583_0 hl583_0
                  replace p583 := eq_true p583
                  replace q583 := eq_true q583
                  have ea_ := Option.some.inj (hx582_0.symm.trans hx583_0)
                  injection ea_ with ea_ en_ ec_
                  subst ea_
                  subst ec_
                  clear en_
                  have p584 : 0 ≤ (0 : Int) := (by omega)
                  have q584 : 0 < (l0.length : Int) := of_decide_eq_true (by first | (with_reducible assumption) | assumption)
                  obtain ⟨ad584, A584_0, c584_0, e584, hx584_0, hl584_0, hi584_0⟩ := at_L5 HR0.out 0 p584 q584
                  obtain rfl : ad582 = ad584 := (by injection e584)
                  have qi584 : (0 < l0.length) = True := eq_true (by omega)
                  (try rw [show ((0 : Int)).toNat = 0 from rfl] at hx584_0)
                  (try rw [Addr.add_zero'] at hx584_0)
                  have HR584_0 := Aside0.mk hi584_0
                  have HC584_0 := Aside0.mk hl584_0
                  clear hi584_0 hl584_0
                  replace p584 := eq_true p584
                  replace q584 := eq_true q584
                  go_wp2
                  repeat (go_quiet (fail); try go_wp2)
                  go_meet
                  case rel => exact ⟨_, ((((rd_L5 l0 x3_1).length : Int) != ((rd_L5 l0 0).length : Int))), (by first | rfl | (simp; done) | (simp [*]; done)), H', ⟨by have := HK1.out; first | omega | exact Nat.le_refl _⟩, by repeat (first | exact Drawn0.refl _ | apply Drawn0.step)⟩
                · rw [if_neg c7] at H
                  exact absurd H (by simp)
            · rw [if_neg c5] at H
              exact absurd H (by simp)
          case rest =>
            clear HC4
            try clear c1
            try clear c2
            try clear c2b0
            try clear c2b1
            try clear p2
            try clear c3
            try clear c3b0
            try clear c5
            try clear c5b0
            try clear p5
            try clear q5
            try clear hx5
            try clear qi5
            try clear c6
            try clear c6b0
            try clear c6b1
            try clear c7
            try clear c7b0
            try clear c7b1
            try clear hx582_0
            try clear hx583_0
            try clear hx584_0
            try clear p2
            try clear p582
            try clear p583
            try clear p584
            try clear q582
            try clear q583
            try clear q584
            obtain ⟨kq, x31_3, rfl, HA, HJ3, ⟨mc3, rfl⟩⟩ := hcut
            cases kq with
            | zero => exact absurd HA.out (by simp [spec_l10Rows.j1])
            | succ kj3 =>
              have H := HA.out
              clear HA
              simp only [spec_l10Rows.j1] at H
              by_cases c8 : x31_3 = true
              · subst c8
                have H1 : (some false) = some r := by rw [if_pos rfl] at H; exact H
                clear H
                have H := H1
                clear H1
                obtain rfl := Option.some.inj H
                go_wp2
                repeat (go_quiet (fail); try go_wp2)
                go_ret
                exact ⟨by first | rfl | (simp; done) | (simp [*]; done), by repeat (first | exact Drawn0.refl _ | apply Drawn0.step)⟩
              · replace c8 := Bool.eq_false_iff.mpr c8
                subst c8
                have H1 : (spec_l10Rows.l1 kj3 l0 x3_1 0) = some r := by rw [if_neg (show ¬ (false = true) by decide)] at H; exact H
                clear H
                have H := H1
                clear H1
                have H' := Aside0.mk H
                clear H
                go_wp2
                repeat (go_quiet (fail); try go_wp2)
                go_loopg [4] kj3 (fun kq v4 w' => ∃ (x4_3 : Int), v4 = .int .i64 x4_3 ∧ Aside0 (spec_l10Rows.l1 kq l0 x3_1 x4_3 = some r) ∧ Aside0 (kq ≤ kj3) ∧ Drawn0 w w')
                case atStart => exact ⟨(0), (by first | rfl | (simp; done) | (simp [*]; done)), H', ⟨Nat.le_refl _⟩, by repeat (first | exact Drawn0.refl _ | apply Drawn0.step)⟩
                case round =>
                  clear H'
                  try clear c1
                  try clear c2
                  try clear c2b0
                  try clear c2b1
                  try clear p2
                  try clear c3
                  try clear c3b0
                  try clear c5
                  try clear c5b0
                  try clear p5
                  try clear q5
                  try clear hx5
                  try clear qi5
                  try clear c6
                  try clear c6b0
                  try clear c6b1
                  try clear c7
                  try clear c7b0
                  try clear c7b1
                  try clear c8
                  try clear hx582_0
                  try clear hx583_0
                  try clear hx584_0
                  try clear p2
                  try clear p5
                  try clear p582
                  try clear p583
                  try clear p584
                  try clear q5
                  try clear q582
                  try clear q583
                  try clear q584
                  obtain ⟨x4_3, rfl, HA, HK3, ⟨m3, rfl⟩⟩ := hrel
                  cases gk with
                  | zero => exact absurd HA.out (by simp [spec_l10Rows.l1])
                  | succ k3 =>
                    have H := HA.out
                    clear HA
                    simp only [spec_l10Rows.l1] at H
                    by_cases c9 : 0 ≤ x3_1
                    · rw [if_pos c9] at H
                      have c9b0 : decide (0 ≤ x3_1) = true := decide_eq_true c9
                      clear c9
                      by_cases c10 : x3_1 < (l0.length : Int)
                      · rw [if_pos c10] at H
                        have c10b0 : decide (x3_1 < (l0.length : Int)) = true := decide_eq_true c10
                        clear c10
                        by_cases c11 : x4_3 < ((rd_L5 l0 x3_1).length : Int)
                        · rw [if_pos c11] at H
                          have c11b0 : decide (x4_3 < ((rd_L5 l0 x3_1).length : Int)) = true := decide_eq_true c11
                          clear c11
                          by_cases c12 : 0 ≤ x4_3
                          · rw [if_pos c12] at H
                            have c12b0 : decide (0 ≤ x4_3) = true := decide_eq_true c12
                            clear c12
                            replace H := Option.bind_eq_some_iff.mp H
                            obtain ⟨t588, A130, H⟩ := H
                            replace H : (if t588 = true then (spec_l10Rows.l1 k3 l0 x3_1 (wrap64 (x4_3 + 1))) else (some false)) = some r := H
                            have A13 := Aside0.mk A130
                            clear A130
                            by_cases c14 : t588 = true
                            · subst c14
                              have H1 : (spec_l10Rows.l1 k3 l0 x3_1 (wrap64 (x4_3 + 1))) = some r := by rw [if_pos rfl] at H; exact H
                              clear H
                              have H := H1
                              clear H1
                              have H' := Aside0.mk H
                              clear H
                              have p585 : 0 ≤ (x3_1 : Int) := of_decide_eq_true (by first | (with_reducible assumption) | assumption)
                              have q585 : x3_1 < (l0.length : Int) := of_decide_eq_true (by first | (with_reducible assumption) | assumption)
                              obtain ⟨ad585, A585_0, c585_0, e585, hx585_0, hl585_0, hi585_0⟩ := at_L5 HR0.out x3_1 p585 q585
                              cases e585
                              have HR585_0 := Aside0.mk hi585_0
                              have HC585_0 := Aside0.mk hl585_0
                              clear hi585_0 hl585_0
                              replace p585 := eq_true p585
                              replace q585 := eq_true q585
                              have p586 : 0 ≤ (x3_1 : Int) := of_decide_eq_true (by first | (with_reducible assumption) | assumption)
                              have q586 : x3_1 < (l0.length : Int) := of_decide_eq_true (by first | (with_reducible assumption) | assumption)
                              obtain ⟨ad586, A586_0, c586_0, e586, hx586_0, hl586_0, hi586_0⟩ := at_L5 HR0.out x3_1 p586 q586
                              obtain rfl : ad585 = ad586 := (by injection e586)
                              have HR586_0 := Aside0.mk hi586_0
                              have HC586_0 := Aside0.mk hl586_0
                              clear hi586_0 hl586_0
                              replace p586 := eq_true p586
                              replace q586 := eq_true q586
                              have ea_ := Option.some.inj (hx585_0.symm.trans hx586_0)
                              injection ea_ with ea_ en_ ec_
                              subst ea_
                              subst ec_
                              clear en_
                              have p587 : 0 ≤ (x4_3 : Int) := of_decide_eq_true (by first | (with_reducible assumption) | assumption)
                              have q587 : x4_3 < ((rd_L5 l0 x3_1).length : Int) := of_decide_eq_true (by first | (with_reducible assumption) | assumption)
                              obtain ⟨ad587, e587, hx587_0⟩ := Kd.at_int HR586_0.out x4_3 p587 q587
                              cases e587
                              replace p587 := eq_true p587
                              replace q587 := eq_true q587
                              go_wp2_with (first | (go_at_call 96; (with_reducible refine (spec_l00In.calls (rd (rd_L5 l0 x3_1) x4_3) (-1) 15 true _ A13.out).mono ?_); rintro e w' ⟨rfl, ⟨nd, rfl⟩⟩; (try first | exact ⟨rfl, _, World.drewN_drewN _ _ _⟩ | exact ⟨rfl, _, Eq.trans (World.drewN_drewN _ _ _) (congrArg (World.drewN _) (Nat.add_assoc _ _ _))⟩)))
                              repeat (go_quiet (first | (go_at_call 96; (with_reducible refine (spec_l00In.calls (rd (rd_L5 l0 x3_1) x4_3) (-1) 15 true _ A13.out).mono ?_); rintro e w' ⟨rfl, ⟨nd, rfl⟩⟩; (try first | exact ⟨rfl, _, World.drewN_drewN _ _ _⟩ | exact ⟨rfl, _, Eq.trans (World.drewN_drewN _ _ _) (congrArg (World.drewN _) (Nat.add_assoc _ _ _))⟩))); try go_wp2_with (first | (go_at_call 96; (with_reducible refine (spec_l00In.calls (rd (rd_L5 l0 x3_1) x4_3) (-1) 15 true _ A13.out).mono ?_); rintro e w' ⟨rfl, ⟨nd, rfl⟩⟩; (try first | exact ⟨rfl, _, World.drewN_drewN _ _ _⟩ | exact ⟨rfl, _, Eq.trans (World.drewN_drewN _ _ _) (congrArg (World.drewN _) (Nat.add_assoc _ _ _))⟩))))
                              go_roundg k3
                              case measure => have := HK1.out; have := HJ3.out; have := HK3.out; omega
                              case rel => exact ⟨(wrap64 (x4_3 + 1)), (by first | rfl | (simp; done) | (simp [*]; done)), H', ⟨by have := HK1.out; have := HJ3.out; have := HK3.out; omega⟩, by repeat (first | exact Drawn0.refl _ | apply Drawn0.step)⟩
                            · replace c14 := Bool.eq_false_iff.mpr c14
                              subst c14
                              have H1 : (some false) = some r := by rw [if_neg (show ¬ (false = true) by decide)] at H; exact H
                              clear H
                              have H := H1
                              clear H1
                              obtain rfl := Option.some.inj H
                              have p585 : 0 ≤ (x3_1 : Int) := of_decide_eq_true (by first | (with_reducible assumption) | assumption)
                              have q585 : x3_1 < (l0.length : Int) := of_decide_eq_true (by first | (with_reducible assumption) | assumption)
                              obtain ⟨ad585, A585_0, c585_0, e585, hx585_0, hl585_0, hi585_0⟩ := at_L5 HR0.out x3_1 p585 q585
                              cases e585
                              have HR585_0 := Aside0.mk hi585_0
                              have HC585_0 := Aside0.mk hl585_0
                              clear hi585_0 hl585_0
                              replace p585 := eq_true p585
                              replace q585 := eq_true q585
                              have p586 : 0 ≤ (x3_1 : Int) := of_decide_eq_true (by first | (with_reducible assumption) | assumption)
                              have q586 : x3_1 < (l0.length : Int) := of_decide_eq_true (by first | (with_reducible assumption) | assumption)
                              obtain ⟨ad586, A586_0, c586_0, e586, hx586_0, hl586_0, hi586_0⟩ := at_L5 HR0.out x3_1 p586 q586
                              obtain rfl : ad585 = ad586 := (by injection e586)
                              have HR586_0 := Aside0.mk hi586_0
                              have HC586_0 := Aside0.mk hl586_0
                              clear hi586_0 hl586_0
                              replace p586 := eq_true p586
                              replace q586 := eq_true q586
                              have ea_ := Option.some.inj (hx585_0.symm.trans hx586_0)
                              injection ea_ with ea_ en_ ec_
                              subst ea_
                              subst ec_
                              clear en_
                              have p587 : 0 ≤ (x4_3 : Int) := of_decide_eq_true (by first | (with_reducible assumption) | assumption)
                              have q587 : x4_3 < ((rd_L5 l0 x3_1).length : Int) := of_decide_eq_true (by first | (with_reducible assumption) | assumption)
                              obtain ⟨ad587, e587, hx587_0⟩ := Kd.at_int HR586_0.out x4_3 p587 q587
                              cases e587
                              replace p587 := eq_true p587
                              replace q587 := eq_true q587
                              go_wp2_with (first | (go_at_call 96; (with_reducible refine (spec_l00In.calls (rd (rd_L5 l0 x3_1) x4_3) (-1) 15 false _ A13.out).mono ?_); rintro e w' ⟨rfl, ⟨nd, rfl⟩⟩; (try first | exact ⟨rfl, _, World.drewN_drewN _ _ _⟩ | exact ⟨rfl, _, Eq.trans (World.drewN_drewN _ _ _) (congrArg (World.drewN _) (Nat.add_assoc _ _ _))⟩)))
                              repeat (go_quiet (first | (go_at_call 96; (with_reducible refine (spec_l00In.calls (rd (rd_L5 l0 x3_1) x4_3) (-1) 15 false _ A13.out).mono ?_); rintro e w' ⟨rfl, ⟨nd, rfl⟩⟩; (try first | exact ⟨rfl, _, World.drewN_drewN _ _ _⟩ | exact ⟨rfl, _, Eq.trans (World.drewN_drewN _ _ _) (congrArg (World.drewN _) (Nat.add_assoc _ _ _))⟩))); try go_wp2_with (first | (go_at_call 96; (with_reducible refine (spec_l00In.calls (rd (rd_L5 l0 x3_1) x4_3) (-1) 15 false _ A13.out).mono ?_); rintro e w' ⟨rfl, ⟨nd, rfl⟩⟩; (try first | exact ⟨rfl, _, World.drewN_drewN _ _ _⟩ | exact ⟨rfl, _, Eq.trans (World.drewN_drewN _ _ _) (congrArg (World.drewN _) (Nat.add_assoc _ _ _))⟩))))
                              go_ret
                              exact ⟨by first | rfl | (simp; done) | (simp [*]; done), by repeat (first | exact Drawn0.refl _ | apply Drawn0.step)⟩
                          · rw [if_neg c12] at H
                            exact absurd H (by simp)
                        · rw [if_neg c11] at H
                          have c11b0 : decide (x4_3 < ((rd_L5 l0 x3_1).length : Int)) = false := decide_eq_false c11
                          clear c11
                          have H' := Aside0.mk H
                          clear H
                          have p585 : 0 ≤ (x3_1 : Int) := of_decide_eq_true (by first | (with_reducible assumption) | assumption)
                          have q585 : x3_1 < (l0.length : Int) := of_decide_eq_true (by first | (with_reducible assumption) | assumption)
                          obtain ⟨ad585, A585_0, c585_0, e585, hx585_0, hl585_0, hi585_0⟩ := at_L5 HR0.out x3_1 p585 q585
                          cases e585
                          have HR585_0 := Aside0.mk hi585_0
                          have HC585_0 := Aside0.mk hl585_0
                          clear hi585_0 hl585_0
                          replace p585 := eq_true p585
                          replace q585 := eq_true q585
                          go_wp2
                          repeat (go_quiet (fail); try go_wp2)
                          go_roundg k3
                          case measure => have := HK1.out; have := HJ3.out; have := HK3.out; omega
                          case rel => exact ⟨(wrap64 (x3_1 + 1)), (by first | rfl | (simp; done) | (simp [*]; done)), H', ⟨by have := HK1.out; have := HJ3.out; have := HK3.out; omega⟩, by repeat (first | exact Drawn0.refl _ | apply Drawn0.step)⟩
                      · rw [if_neg c10] at H
                        exact absurd H (by simp)
                    · rw [if_neg c9] at H
                      exact absurd H (by simp)
        · rw [if_neg c3] at H
          have c3b0 : decide (x3_1 < (l0.length : Int)) = false := decide_eq_false c3
          clear c3
          obtain rfl := Option.some.inj H
          go_wp2
          repeat (go_quiet (fail); try go_wp2)
          go_ret
          exact ⟨by first | rfl | (simp; done) | (simp [*]; done), by repeat (first | exact Drawn0.refl _ | apply Drawn0.step)⟩

end Go.Proofs.Ytlocignlkigojaa.Q
