/- Walks of the Go functions that the laws call: each returns what a plain Lean function says. Written by a program for these claims. -/
import Derived.Test.YtohjpgcmhihdhaaGreatDoorQ0
namespace Go.Proofs.YtohjpgcmhihdhaaGreatDoor.Q
open Go.RowKit Go.Proofs.YtohjpgcmhihdhaaGreatDoorW.PrintWords Go.Proofs.YtohjpgcmhihdhaaGreatDoorW.PrintLast Go.Proofs.YtohjpgcmhihdhaaGreatDoorW.PrintMore
attribute [local go_sem] max2_int min2_int max_two min_two max_three min_three max_four min_four   -- for this text's walks alone
set_option linter.unusedVariables false
set_option linter.unusedSimpArgs false

/-! ### spec_l06Bucket: function 69 -/
def spec_l06Bucket.l0 : Nat → Int → Int → List (S57) → List (S49) → Option (Int)
  | 0, _, _, _, _ => none
  | k + 1, x1, x5, x176000, x176001 => if x5 < (x176001.length : Int) then (if 0 ≤ x5 then (if ((rd_T49 x176001 x5).f0) = x1 then (some x5) else (spec_l06Bucket.l0 k x1 (wrap64 (x5 + 1)) x176000 x176001)) else (none)) else (some (-1))
def spec_l06Bucket.f (k : Nat) (l0_0 : List (S57)) (l0_1 : List (S49)) (a1 : Int) : Option (Int) := spec_l06Bucket.l0 k a1 0 l0_0 l0_1
set_option maxHeartbeats 8000000 in
set_option maxRecDepth 100000 in
theorem spec_l06Bucket.calls (k : Nat) (A0_0 : Option Addr) (c0_0 : Nat) (l0_0 : List (S57)) (A0_1 : Option Addr) (c0_1 : Nat) (l0_1 : List (S49)) (a1 : Int) (r : Int) (w : World) (hr0_0 : Kd.C k57 w A0_0 l0_0.length l0_0) (hc0_0 : l0_0.length ≤ c0_0) (hr0_1 : Kd.C k49 w A0_1 l0_1.length l0_1) (hc0_1 : l0_1.length ≤ c0_1) (h : spec_l06Bucket.f k l0_0 l0_1 a1 = some r) :
    Calls Tryz.prog 69 #[.agg #[.slice A0_0 l0_0.length c0_0, .slice A0_1 l0_1.length c0_1], .int .i64 a1] w fun e w' => e = .returned (.int .i64 r) ∧ Below w.heap.size w w' := by
  have hu25 := Tryz.underlying25
  have HR0_0 := Aside0.mk hr0_0
  have HC0_0 := Aside0.mk hc0_0
  clear hr0_0 hc0_0
  have HR0_1 := Aside0.mk hr0_1
  have HC0_1 := Aside0.mk hc0_1
  clear hr0_1 hc0_1
  have HB := Aside0.mk (Below.refl w.heap.size w)
  have H : (spec_l06Bucket.l0 k a1 0 l0_0 l0_1) = some r := h
  clear h
  have H' := Aside0.mk H
  clear H
  go_enter Tryz.func69, Tryz.ntmps69
  go_wp2_with (first | ((with_reducible refine gate_dst (N := 2) rfl ?_); refine box_event ?hg (N := 2) ?hd (cs := #[.slice A0_0 l0_0.length c0_0, .slice A0_1 l0_1.length c0_1]) (t := 25) ?hr ?_; (case hd => rfl); (case hg => rfl); (case hr => first | (go_simp; done) | (go_simp; rfl)); intro gb175 hg w3 hbox hb; have n0_ := Aside0.mk (below_step (by repeat first | exact HB.out | apply pw_below_drewN) hb); have n1_ := Aside0.mk (hbox); clear HB; have HB := n0_; have BK175 := n1_; clear n0_ n1_; clear hb hbox hg))
  go_loopg [5] k (fun kq v5 w' => ∃ (x5_1 : Int), v5 = .int .i64 x5_1 ∧ Aside0 (spec_l06Bucket.l0 kq a1 x5_1 l0_0 l0_1 = some r) ∧ Aside0 (kq ≤ k) ∧ Aside0 (w'.heap[gb175]? = some (.cells #[(.slice A0_0 l0_0.length c0_0), (.slice A0_1 l0_1.length c0_1)] 25 (0, 0))) ∧ Aside0 (Below w.heap.size w w'))
  case atStart => exact ⟨(0), (by first | rfl | (simp; done) | (simp [*]; done)), H', ⟨Nat.le_refl _⟩, ⟨by exact BK175.out⟩, ⟨by repeat first | exact HB.out | apply pw_below_drewN⟩⟩
  case round =>
    clear H'
    try clear p2
    obtain ⟨x5_1, rfl, HA, HK1, BK175, HB⟩ := hrel
    cases gk with
    | zero => exact absurd HA.out (by simp [spec_l06Bucket.l0])
    | succ k1 =>
      have H := HA.out
      clear HA
      simp only [spec_l06Bucket.l0] at H
      by_cases c4 : x5_1 < (l0_1.length : Int)
      · rw [if_pos c4] at H
        have c4b0 : decide (x5_1 < (l0_1.length : Int)) = true := decide_eq_true c4
        clear c4
        by_cases c5 : 0 ≤ x5_1
        · rw [if_pos c5] at H
          have c5b0 : decide (0 ≤ x5_1) = true := decide_eq_true c5
          clear c5
          by_cases c6 : ((rd_T49 l0_1 x5_1).f0) = a1
          · rw [if_pos c6] at H
            have c6b0 : (((rd_T49 l0_1 x5_1).f0) == a1) = true := beq_iff_eq.mpr c6
            have c6b1 : (((rd_T49 l0_1 x5_1).f0) != a1) = false := bne_eq_false_iff_eq.mpr c6
            clear c6
            obtain rfl := Option.some.inj H
            have hcz7_0 := (blk_cell BK175.out 0).trans rfl
            have hcz7_1 := (blk_cell BK175.out 1).trans rfl
            have p176 : 0 ≤ (x5_1 : Int) := of_decide_eq_true (by assumption)
            have q176 : x5_1 < (l0_1.length : Int) := of_decide_eq_true (by assumption)
            obtain ⟨ad176, A176_2, c176_2, e176, hx176_0, hx176_1, hx176_2, hl176_2, hi176_2⟩ := at_T49 HR0_1.out x5_1 p176 q176
            cases e176
            replace hx176_0 := (HB.out.cell (World.block_lt_of_cell? w _ hx176_0)).trans hx176_0
            replace hx176_1 := (HB.out.cell (World.block_lt_of_cell? w _ hx176_1)).trans hx176_1
            replace hx176_2 := (HB.out.cell (World.block_lt_of_cell? w _ hx176_2)).trans hx176_2
            have HR176_2 := Aside0.mk hi176_2
            have HC176_2 := Aside0.mk hl176_2
            clear hi176_2 hl176_2
            replace p176 := eq_true p176
            replace q176 := eq_true q176
            go_wp2
            go_ret
            exact ⟨by first | rfl | (simp [*, errW_none, errW_some] <;> rfl), by repeat first | exact HB.out | apply pw_below_drewN⟩
          · rw [if_neg c6] at H
            have c6b0 : (((rd_T49 l0_1 x5_1).f0) == a1) = false := beq_eq_false_iff_ne.mpr c6
            have c6b1 : (((rd_T49 l0_1 x5_1).f0) != a1) = true := bne_iff_ne.mpr c6
            have H' := Aside0.mk H
            clear H
            have hcz8_0 := (blk_cell BK175.out 0).trans rfl
            have hcz8_1 := (blk_cell BK175.out 1).trans rfl
            have p176 : 0 ≤ (x5_1 : Int) := of_decide_eq_true (by assumption)
            have q176 : x5_1 < (l0_1.length : Int) := of_decide_eq_true (by assumption)
            obtain ⟨ad176, A176_2, c176_2, e176, hx176_0, hx176_1, hx176_2, hl176_2, hi176_2⟩ := at_T49 HR0_1.out x5_1 p176 q176
            cases e176
            replace hx176_0 := (HB.out.cell (World.block_lt_of_cell? w _ hx176_0)).trans hx176_0
            replace hx176_1 := (HB.out.cell (World.block_lt_of_cell? w _ hx176_1)).trans hx176_1
            replace hx176_2 := (HB.out.cell (World.block_lt_of_cell? w _ hx176_2)).trans hx176_2
            have HR176_2 := Aside0.mk hi176_2
            have HC176_2 := Aside0.mk hl176_2
            clear hi176_2 hl176_2
            replace p176 := eq_true p176
            replace q176 := eq_true q176
            go_wp2
            go_roundg k1
            case measure => have := HK1.out; omega
            case rel => exact ⟨(wrap64 (x5_1 + 1)), (by first | rfl | (simp; done) | (simp [*]; done)), H', ⟨by have := HK1.out; omega⟩, ⟨by exact BK175.out⟩, ⟨by repeat first | exact HB.out | apply pw_below_drewN⟩⟩
        · rw [if_neg c5] at H
          exact absurd H (by simp)
      · rw [if_neg c4] at H
        have c4b0 : decide (x5_1 < (l0_1.length : Int)) = false := decide_eq_false c4
        clear c4
        obtain rfl := Option.some.inj H
        have hcz9_0 := (blk_cell BK175.out 0).trans rfl
        have hcz9_1 := (blk_cell BK175.out 1).trans rfl
        go_wp2
        go_ret
        exact ⟨by first | rfl | (simp [*, errW_none, errW_some] <;> rfl), by repeat first | exact HB.out | apply pw_below_drewN⟩

end Go.Proofs.YtohjpgcmhihdhaaGreatDoor.Q
