/- Walks and plain laws of one claim, several texts in one. -/
import Derived.Test.YtkadeelplnkpgaaGreatQ0
import Derived.Test.YtkadeelplnkpgaaGreatMFnExactPlacea
namespace Go.Proofs.YtkadeelplnkpgaaGreat.Q
open Go.RowKit Go.Proofs.YtkadeelplnkpgaaGreatW.PrintWords Go.Proofs.YtkadeelplnkpgaaGreatW.PrintLast Go.Proofs.YtkadeelplnkpgaaGreatW.PrintMore
attribute [local go_sem] max2_int min2_int max_two min_two max_three min_three max_four min_four   -- for this text's walks alone
set_option linter.unusedVariables false
set_option linter.unusedSimpArgs false
/-! ### spec_l06Device: function 61 -/
def spec_l06Device.l0 : Nat → Int → Int → List (S72) → List (S68) → Option (Int)
 | 0, _, _, _, _ => none
 | k + 1, x1, x5, x133000, x133001 => if x5 < (x133000.length : Int) then (if 0 ≤ x5 then (if ((rd_T72 x133000 x5).f0) = x1 then (some x5) else (spec_l06Device.l0 k x1 (wrap64 (x5 + 1)) x133000 x133001)) else (none)) else (some (-1))
def spec_l06Device.f (k : Nat) (l0_0 : List (S72)) (l0_1 : List (S68)) (a1 : Int) : Option (Int) := spec_l06Device.l0 k a1 0 l0_0 l0_1
set_option maxHeartbeats 8000000 in
set_option maxRecDepth 100000 in
theorem spec_l06Device.calls (k : Nat) (A0_0 : Option Addr) (c0_0 : Nat) (l0_0 : List (S72)) (A0_1 : Option Addr) (c0_1 : Nat) (l0_1 : List (S68)) (a1 : Int) (r : Int) (w : World) (hr0_0 : Kd.C k72 w A0_0 l0_0.length l0_0) (hc0_0 : l0_0.length ≤ c0_0) (hr0_1 : Kd.C k68 w A0_1 l0_1.length l0_1) (hc0_1 : l0_1.length ≤ c0_1) (h : spec_l06Device.f k l0_0 l0_1 a1 = some r) :
  Calls Tryz.prog 61 #[.agg #[.slice A0_0 l0_0.length c0_0, .slice A0_1 l0_1.length c0_1], .int .i64 a1] w fun e w' => e = .returned (.int .i64 r) ∧ Below w.heap.size w w' := by
 have hu35 := Tryz.underlying35
 have HR0_0 := Aside0.mk hr0_0
 have HC0_0 := Aside0.mk hc0_0
 clear hr0_0 hc0_0
 have HR0_1 := Aside0.mk hr0_1
 have HC0_1 := Aside0.mk hc0_1
 clear hr0_1 hc0_1
 have HB := Aside0.mk (Below.refl w.heap.size w)
 have H : (spec_l06Device.l0 k a1 0 l0_0 l0_1) = some r := h
 clear h
 have H' := Aside0.mk H
 clear H
 go_enter Tryz.func61, Tryz.ntmps61
 go_wp2_with (first | ((with_reducible refine gate_dst (N := 2) rfl ?_); refine box_event ?hg (N := 2) ?hd (cs := #[.slice A0_0 l0_0.length c0_0, .slice A0_1 l0_1.length c0_1]) (t := 35) ?hr ?_; (case hd => rfl); (case hg => rfl); (case hr => first | (go_simp; done) | (go_simp; rfl)); intro gb132 hg w3 hbox hb; have n0_ := Aside0.mk (below_step (by repeat first | exact HB.out | apply pw_below_drewN) hb); have n1_ := Aside0.mk (hbox); clear HB; have HB := n0_; have BK132 := n1_; clear n0_ n1_; clear hb hbox hg))
 go_loopg [5] k (fun kq v5 w' => ∃ (x5_1 : Int), v5 = .int .i64 x5_1 ∧ Aside0 (spec_l06Device.l0 kq a1 x5_1 l0_0 l0_1 = some r) ∧ Aside0 (kq ≤ k) ∧ Aside0 (w'.heap[gb132]? = some (.cells #[(.slice A0_0 l0_0.length c0_0), (.slice A0_1 l0_1.length c0_1)] 35 (0, 0))) ∧ Aside0 (Below w.heap.size w w'))
 case atStart => exact ⟨(0), (by first | rfl | (simp; done) | (simp [*]; done)), H', ⟨Nat.le_refl _⟩, ⟨by exact BK132.out⟩, ⟨by repeat first | exact HB.out | apply pw_below_drewN⟩⟩
 case round =>
  clear H'
  try clear p2
  obtain ⟨x5_1, rfl, HA, HK1, BK132, HB⟩ := hrel
  cases gk with
  | zero => exact absurd HA.out (by simp [spec_l06Device.l0])
  | succ k1 =>
   have H := HA.out
   clear HA
   simp only [spec_l06Device.l0] at H
   by_cases c4 : x5_1 < (l0_0.length : Int)
   ·rw [if_pos c4] at H
    have c4b0 : decide (x5_1 < (l0_0.length : Int)) = true := decide_eq_true c4
    clear c4
    by_cases c5 : 0 ≤ x5_1
    ·rw [if_pos c5] at H
     have c5b0 : decide (0 ≤ x5_1) = true := decide_eq_true c5
     clear c5
     by_cases c6 : ((rd_T72 l0_0 x5_1).f0) = a1
     ·rw [if_pos c6] at H
      have c6b0 : (((rd_T72 l0_0 x5_1).f0) == a1) = true := beq_iff_eq.mpr c6
      have c6b1 : (((rd_T72 l0_0 x5_1).f0) != a1) = false := bne_eq_false_iff_eq.mpr c6
      clear c6
      obtain rfl := Option.some.inj H
      have hcz7_0 := (blk_cell BK132.out 0).trans rfl
      have hcz7_1 := (blk_cell BK132.out 1).trans rfl
      have p133 : 0 ≤ (x5_1 : Int) := of_decide_eq_true (by assumption)
      have q133 : x5_1 < (l0_0.length : Int) := of_decide_eq_true (by assumption)
      obtain ⟨ad133, e133, hx133_0, hx133_1⟩ := at_T72 HR0_0.out x5_1 p133 q133
      cases e133
      replace hx133_0 := (HB.out.cell (World.block_lt_of_cell? w _ hx133_0)).trans hx133_0
      replace hx133_1 := (HB.out.cell (World.block_lt_of_cell? w _ hx133_1)).trans hx133_1
      replace p133 := eq_true p133
      replace q133 := eq_true q133
      go_wp2
      go_ret
      exact ⟨by first | rfl | (simp [*, errW_none, errW_some] <;> rfl), by repeat first | exact HB.out | apply pw_below_drewN⟩
     ·rw [if_neg c6] at H
      have c6b0 : (((rd_T72 l0_0 x5_1).f0) == a1) = false := beq_eq_false_iff_ne.mpr c6
      have c6b1 : (((rd_T72 l0_0 x5_1).f0) != a1) = true := bne_iff_ne.mpr c6
      have H' := Aside0.mk H
      clear H
      have hcz8_0 := (blk_cell BK132.out 0).trans rfl
      have hcz8_1 := (blk_cell BK132.out 1).trans rfl
      have p133 : 0 ≤ (x5_1 : Int) := of_decide_eq_true (by assumption)
      have q133 : x5_1 < (l0_0.length : Int) := of_decide_eq_true (by assumption)
      obtain ⟨ad133, e133, hx133_0, hx133_1⟩ := at_T72 HR0_0.out x5_1 p133 q133
      cases e133
      replace hx133_0 := (HB.out.cell (World.block_lt_of_cell? w _ hx133_0)).trans hx133_0
      replace hx133_1 := (HB.out.cell (World.block_lt_of_cell? w _ hx133_1)).trans hx133_1
      replace p133 := eq_true p133
      replace q133 := eq_true q133
      go_wp2
      go_roundg k1
      case measure => have := HK1.out; omega
      case rel => exact ⟨(wrap64 (x5_1 + 1)), (by first | rfl | (simp; done) | (simp [*]; done)), H', ⟨by have := HK1.out; omega⟩, ⟨by exact BK132.out⟩, ⟨by repeat first | exact HB.out | apply pw_below_drewN⟩⟩
    ·rw [if_neg c5] at H
     exact absurd H (by simp)
   ·rw [if_neg c4] at H
    have c4b0 : decide (x5_1 < (l0_0.length : Int)) = false := decide_eq_false c4
    clear c4
    obtain rfl := Option.some.inj H
    have hcz9_0 := (blk_cell BK132.out 0).trans rfl
    have hcz9_1 := (blk_cell BK132.out 1).trans rfl
    go_wp2
    go_ret
    exact ⟨by first | rfl | (simp [*, errW_none, errW_some] <;> rfl), by repeat first | exact HB.out | apply pw_below_drewN⟩

/-! ### spec_l06Bucket: function 62 -/
def spec_l06Bucket.l0 : Nat → Int → Int → List (S72) → List (S68) → Option (Int)
 | 0, _, _, _, _ => none
 | k + 1, x1, x5, x135000, x135001 => if x5 < (x135001.length : Int) then (if 0 ≤ x5 then (if ((rd_T68 x135001 x5).f0) = x1 then (some x5) else (spec_l06Bucket.l0 k x1 (wrap64 (x5 + 1)) x135000 x135001)) else (none)) else (some (-1))
def spec_l06Bucket.f (k : Nat) (l0_0 : List (S72)) (l0_1 : List (S68)) (a1 : Int) : Option (Int) := spec_l06Bucket.l0 k a1 0 l0_0 l0_1
set_option maxHeartbeats 8000000 in
set_option maxRecDepth 100000 in
theorem spec_l06Bucket.calls (k : Nat) (A0_0 : Option Addr) (c0_0 : Nat) (l0_0 : List (S72)) (A0_1 : Option Addr) (c0_1 : Nat) (l0_1 : List (S68)) (a1 : Int) (r : Int) (w : World) (hr0_0 : Kd.C k72 w A0_0 l0_0.length l0_0) (hc0_0 : l0_0.length ≤ c0_0) (hr0_1 : Kd.C k68 w A0_1 l0_1.length l0_1) (hc0_1 : l0_1.length ≤ c0_1) (h : spec_l06Bucket.f k l0_0 l0_1 a1 = some r) :
  Calls Tryz.prog 62 #[.agg #[.slice A0_0 l0_0.length c0_0, .slice A0_1 l0_1.length c0_1], .int .i64 a1] w fun e w' => e = .returned (.int .i64 r) ∧ Below w.heap.size w w' := by
 have hu35 := Tryz.underlying35
 have HR0_0 := Aside0.mk hr0_0
 have HC0_0 := Aside0.mk hc0_0
 clear hr0_0 hc0_0
 have HR0_1 := Aside0.mk hr0_1
 have HC0_1 := Aside0.mk hc0_1
 clear hr0_1 hc0_1
 have HB := Aside0.mk (Below.refl w.heap.size w)
 have H : (spec_l06Bucket.l0 k a1 0 l0_0 l0_1) = some r := h
 clear h
 have H' := Aside0.mk H
 clear H
 go_enter Tryz.func62, Tryz.ntmps62
 go_wp2_with (first | ((with_reducible refine gate_dst (N := 2) rfl ?_); refine box_event ?hg (N := 2) ?hd (cs := #[.slice A0_0 l0_0.length c0_0, .slice A0_1 l0_1.length c0_1]) (t := 35) ?hr ?_; (case hd => rfl); (case hg => rfl); (case hr => first | (go_simp; done) | (go_simp; rfl)); intro gb134 hg w3 hbox hb; have n0_ := Aside0.mk (below_step (by repeat first | exact HB.out | apply pw_below_drewN) hb); have n1_ := Aside0.mk (hbox); clear HB; have HB := n0_; have BK134 := n1_; clear n0_ n1_; clear hb hbox hg))
 go_loopg [5] k (fun kq v5 w' => ∃ (x5_1 : Int), v5 = .int .i64 x5_1 ∧ Aside0 (spec_l06Bucket.l0 kq a1 x5_1 l0_0 l0_1 = some r) ∧ Aside0 (kq ≤ k) ∧ Aside0 (w'.heap[gb134]? = some (.cells #[(.slice A0_0 l0_0.length c0_0), (.slice A0_1 l0_1.length c0_1)] 35 (0, 0))) ∧ Aside0 (Below w.heap.size w w'))
 case atStart => exact ⟨(0), (by first | rfl | (simp; done) | (simp [*]; done)), H', ⟨Nat.le_refl _⟩, ⟨by exact BK134.out⟩, ⟨by repeat first | exact HB.out | apply pw_below_drewN⟩⟩
 case round =>
  clear H'
  try clear p2
  obtain ⟨x5_1, rfl, HA, HK1, BK134, HB⟩ := hrel
  cases gk with
  | zero => exact absurd HA.out (by simp [spec_l06Bucket.l0])
  | succ k1 =>
   have H := HA.out
   clear HA
   simp only [spec_l06Bucket.l0] at H
   by_cases c4 : x5_1 < (l0_1.length : Int)
   ·rw [if_pos c4] at H
    have c4b0 : decide (x5_1 < (l0_1.length : Int)) = true := decide_eq_true c4
    clear c4
    by_cases c5 : 0 ≤ x5_1
    ·rw [if_pos c5] at H
     have c5b0 : decide (0 ≤ x5_1) = true := decide_eq_true c5
     clear c5
     by_cases c6 : ((rd_T68 l0_1 x5_1).f0) = a1
     ·rw [if_pos c6] at H
      have c6b0 : (((rd_T68 l0_1 x5_1).f0) == a1) = true := beq_iff_eq.mpr c6
      have c6b1 : (((rd_T68 l0_1 x5_1).f0) != a1) = false := bne_eq_false_iff_eq.mpr c6
      clear c6
      obtain rfl := Option.some.inj H
      have hcz7_0 := (blk_cell BK134.out 0).trans rfl
      have hcz7_1 := (blk_cell BK134.out 1).trans rfl
      have p135 : 0 ≤ (x5_1 : Int) := of_decide_eq_true (by assumption)
      have q135 : x5_1 < (l0_1.length : Int) := of_decide_eq_true (by assumption)
      obtain ⟨ad135, A135_2, c135_2, e135, hx135_0, hx135_1, hx135_2, hl135_2, hi135_2⟩ := at_T68 HR0_1.out x5_1 p135 q135
      cases e135
      replace hx135_0 := (HB.out.cell (World.block_lt_of_cell? w _ hx135_0)).trans hx135_0
      replace hx135_1 := (HB.out.cell (World.block_lt_of_cell? w _ hx135_1)).trans hx135_1
      replace hx135_2 := (HB.out.cell (World.block_lt_of_cell? w _ hx135_2)).trans hx135_2
      have HR135_2 := Aside0.mk hi135_2
      have HC135_2 := Aside0.mk hl135_2
      clear hi135_2 hl135_2
      replace p135 := eq_true p135
      replace q135 := eq_true q135
      go_wp2
      go_ret
      exact ⟨by first | rfl | (simp [*, errW_none, errW_some] <;> rfl), by repeat first | exact HB.out | apply pw_below_drewN⟩
     ·rw [if_neg c6] at H
      have c6b0 : (((rd_T68 l0_1 x5_1).f0) == a1) = false := beq_eq_false_iff_ne.mpr c6
      have c6b1 : (((rd_T68 l0_1 x5_1).f0) != a1) = true := bne_iff_ne.mpr c6
      have H' := Aside0.mk H
      clear H
      have hcz8_0 := (blk_cell BK134.out 0).trans rfl
      have hcz8_1 := (blk_cell BK134.out 1).trans rfl
      have p135 : 0 ≤ (x5_1 : Int) := of_decide_eq_true (by assumption)
      have q135 : x5_1 < (l0_1.length : Int) := of_decide_eq_true (by assumption)
      obtain ⟨ad135, A135_2, c135_2, e135, hx135_0, hx135_1, hx135_2, hl135_2, hi135_2⟩ := at_T68 HR0_1.out x5_1 p135 q135
      cases e135
      replace hx135_0 := (HB.out.cell (World.block_lt_of_cell? w _ hx135_0)).trans hx135_0
      replace hx135_1 := (HB.out.cell (World.block_lt_of_cell? w _ hx135_1)).trans hx135_1
      replace hx135_2 := (HB.out.cell (World.block_lt_of_cell? w _ hx135_2)).trans hx135_2
      have HR135_2 := Aside0.mk hi135_2
      have HC135_2 := Aside0.mk hl135_2
      clear hi135_2 hl135_2
      replace p135 := eq_true p135
      replace q135 := eq_true q135
      go_wp2
      go_roundg k1
      case measure => have := HK1.out; omega
      case rel => exact ⟨(wrap64 (x5_1 + 1)), (by first | rfl | (simp; done) | (simp [*]; done)), H', ⟨by have := HK1.out; omega⟩, ⟨by exact BK134.out⟩, ⟨by repeat first | exact HB.out | apply pw_below_drewN⟩⟩
    ·rw [if_neg c5] at H
     exact absurd H (by simp)
   ·rw [if_neg c4] at H
    have c4b0 : decide (x5_1 < (l0_1.length : Int)) = false := decide_eq_false c4
    clear c4
    obtain rfl := Option.some.inj H
    have hcz9_0 := (blk_cell BK134.out 0).trans rfl
    have hcz9_1 := (blk_cell BK134.out 1).trans rfl
    go_wp2
    go_ret
    exact ⟨by first | rfl | (simp [*, errW_none, errW_some] <;> rfl), by repeat first | exact HB.out | apply pw_below_drewN⟩

/-! ### spec_l06Kind: function 42 -/
def spec_l06Kind.f (k : Nat) (l0_0 : List (S72)) (l0_1 : List (S68)) (a1 : Int) : Option (Int) := (spec_l06Device.f k l0_0 l0_1 a1).bind fun t137 => (if t137 ≥ 0 then (some 0) else ((spec_l06Bucket.f k l0_0 l0_1 a1).bind fun t138 => (if t138 ≥ 0 then (if 0 ≤ t138 then (if t138 < (l0_1.length : Int) then (some ((rd_T68 l0_1 t138).f1)) else (none)) else (none)) else (some (-1)))))
set_option maxHeartbeats 8000000 in
set_option maxRecDepth 100000 in
theorem spec_l06Kind.calls (k : Nat) (A0_0 : Option Addr) (c0_0 : Nat) (l0_0 : List (S72)) (A0_1 : Option Addr) (c0_1 : Nat) (l0_1 : List (S68)) (a1 : Int) (r : Int) (w : World) (hr0_0 : Kd.C k72 w A0_0 l0_0.length l0_0) (hc0_0 : l0_0.length ≤ c0_0) (hr0_1 : Kd.C k68 w A0_1 l0_1.length l0_1) (hc0_1 : l0_1.length ≤ c0_1) (h : spec_l06Kind.f k l0_0 l0_1 a1 = some r) :
  Calls Tryz.prog 42 #[.agg #[.slice A0_0 l0_0.length c0_0, .slice A0_1 l0_1.length c0_1], .int .i64 a1] w fun e w' => e = .returned (.int .i64 r) ∧ Below w.heap.size w w' := by
 have hu35 := Tryz.underlying35
 have HR0_0 := Aside0.mk hr0_0
 have HC0_0 := Aside0.mk hc0_0
 clear hr0_0 hc0_0
 have HR0_1 := Aside0.mk hr0_1
 have HC0_1 := Aside0.mk hc0_1
 clear hr0_1 hc0_1
 have HB := Aside0.mk (Below.refl w.heap.size w)
 have H : ((spec_l06Device.f k l0_0 l0_1 a1).bind fun t137 => (if t137 ≥ 0 then (some 0) else ((spec_l06Bucket.f k l0_0 l0_1 a1).bind fun t138 => (if t138 ≥ 0 then (if 0 ≤ t138 then (if t138 < (l0_1.length : Int) then (some ((rd_T68 l0_1 t138).f1)) else (none)) else (none)) else (some (-1)))))) = some r := h
 clear h
 replace H := Option.bind_eq_some_iff.mp H
 obtain ⟨t137, A30, H⟩ := H
 set_option simprocs false in try dsimp only at H
 have A3 := Aside0.mk A30
 clear A30
 by_cases c4 : t137 ≥ 0
 ·rw [if_pos c4] at H
  have c4b0 : decide (0 ≤ t137) = true := decide_eq_true c4
  clear c4
  obtain rfl := Option.some.inj H
  go_enter Tryz.func42, Tryz.ntmps42
  go_wp2_with (first | ((with_reducible refine gate_dst (N := 2) rfl ?_); refine box_event ?hg (N := 2) ?hd (cs := #[.slice A0_0 l0_0.length c0_0, .slice A0_1 l0_1.length c0_1]) (t := 35) ?hr ?_; (case hd => rfl); (case hg => rfl); (case hr => first | (go_simp; done) | (go_simp; rfl)); intro gb136 hg w5 hbox hb; have n0_ := Aside0.mk (below_step (by repeat first | exact HB.out | apply pw_below_drewN) hb); have n1_ := Aside0.mk (hbox); clear HB; have HB := n0_; have BK136 := n1_; clear n0_ n1_; clear hb hbox hg; have hcz6_0 := (blk_cell BK136.out 0).trans rfl; have hcz6_1 := (blk_cell BK136.out 1).trans rfl) | ((with_reducible refine gate_callee (f := 61) rfl ?_); refine gl (some 8) Tryz.func61 #[.agg #[.slice A0_0 l0_0.length c0_0, .slice A0_1 l0_1.length c0_1], .int .i64 a1] ?_; (with_reducible refine (spec_l06Device.calls k _ _ l0_0 _ _ l0_1 a1 t137 _ ?side1 ?side2 ?side3 ?side4 A3.out).mono ?_); (case side1 => exact (Kd.C_below HR0_0.out HB.out)); (case side2 => exact HC0_0.out); (case side3 => exact (Kd.C_below HR0_1.out HB.out)); (case side4 => exact HC0_1.out); rintro e w7 ⟨rfl, hb⟩; refine ⟨_, rfl, ?_⟩; have n0_ := Aside0.mk (blk_below (by exact BK136.out) hb); have n1_ := Aside0.mk (below_step (by repeat first | exact HB.out | apply pw_below_drewN) hb); clear BK136; clear HB; have BK136 := n0_; have HB := n1_; clear n0_ n1_; (try clear hb); (try clear hb2); (try clear hk); (try clear hi)))
  go_ret
  exact ⟨by first | rfl | (simp [*, errW_none, errW_some] <;> rfl), by repeat first | exact HB.out | apply pw_below_drewN⟩
 ·rw [if_neg c4] at H
  have c4b0 : decide (0 ≤ t137) = false := decide_eq_false c4
  clear c4
  replace H := Option.bind_eq_some_iff.mp H
  obtain ⟨t138, A80, H⟩ := H
  set_option simprocs false in try dsimp only at H
  have A8 := Aside0.mk A80
  clear A80
  by_cases c9 : t138 ≥ 0
  ·rw [if_pos c9] at H
   have c9b0 : decide (0 ≤ t138) = true := decide_eq_true c9
   clear c9
   by_cases c10 : 0 ≤ t138
   ·rw [if_pos c10] at H
    have c10b0 : decide (0 ≤ t138) = true := decide_eq_true c10
    clear c10
    by_cases c11 : t138 < (l0_1.length : Int)
    ·rw [if_pos c11] at H
     have c11b0 : decide (t138 < (l0_1.length : Int)) = true := decide_eq_true c11
     clear c11
     obtain rfl := Option.some.inj H
     go_enter Tryz.func42, Tryz.ntmps42
     go_wp2_with (first | ((with_reducible refine gate_dst (N := 2) rfl ?_); refine box_event ?hg (N := 2) ?hd (cs := #[.slice A0_0 l0_0.length c0_0, .slice A0_1 l0_1.length c0_1]) (t := 35) ?hr ?_; (case hd => rfl); (case hg => rfl); (case hr => first | (go_simp; done) | (go_simp; rfl)); intro gb136 hg w12 hbox hb; have n0_ := Aside0.mk (below_step (by repeat first | exact HB.out | apply pw_below_drewN) hb); have n1_ := Aside0.mk (hbox); clear HB; have HB := n0_; have BK136 := n1_; clear n0_ n1_; clear hb hbox hg; have hcz13_0 := (blk_cell BK136.out 0).trans rfl; have hcz13_1 := (blk_cell BK136.out 1).trans rfl) | ((with_reducible refine gate_callee (f := 61) rfl ?_); refine gl (some 8) Tryz.func61 #[.agg #[.slice A0_0 l0_0.length c0_0, .slice A0_1 l0_1.length c0_1], .int .i64 a1] ?_; (with_reducible refine (spec_l06Device.calls k _ _ l0_0 _ _ l0_1 a1 t137 _ ?side1 ?side2 ?side3 ?side4 A3.out).mono ?_); (case side1 => exact (Kd.C_below HR0_0.out HB.out)); (case side2 => exact HC0_0.out); (case side3 => exact (Kd.C_below HR0_1.out HB.out)); (case side4 => exact HC0_1.out); rintro e w14 ⟨rfl, hb⟩; refine ⟨_, rfl, ?_⟩; have n0_ := Aside0.mk (blk_below (by exact BK136.out) hb); have n1_ := Aside0.mk (below_step (by repeat first | exact HB.out | apply pw_below_drewN) hb); clear BK136; clear HB; have BK136 := n0_; have HB := n1_; clear n0_ n1_; (try clear hb); (try clear hb2); (try clear hk); (try clear hi); have hcz15_0 := (blk_cell BK136.out 0).trans rfl; have hcz15_1 := (blk_cell BK136.out 1).trans rfl) | ((with_reducible refine gate_callee (f := 62) rfl ?_); refine gl (some 12) Tryz.func62 #[.agg #[.slice A0_0 l0_0.length c0_0, .slice A0_1 l0_1.length c0_1], .int .i64 a1] ?_; (with_reducible refine (spec_l06Bucket.calls k _ _ l0_0 _ _ l0_1 a1 t138 _ ?side1 ?side2 ?side3 ?side4 A8.out).mono ?_); (case side1 => exact (Kd.C_below HR0_0.out HB.out)); (case side2 => exact HC0_0.out); (case side3 => exact (Kd.C_below HR0_1.out HB.out)); (case side4 => exact HC0_1.out); rintro e w16 ⟨rfl, hb⟩; refine ⟨_, rfl, ?_⟩; have n0_ := Aside0.mk (blk_below (by exact BK136.out) hb); have n1_ := Aside0.mk (below_step (by repeat first | exact HB.out | apply pw_below_drewN) hb); clear BK136; clear HB; have BK136 := n0_; have HB := n1_; clear n0_ n1_; (try clear hb); (try clear hb2); (try clear hk); (try clear hi); have hcz17_0 := (blk_cell BK136.out 0).trans rfl; have hcz17_1 := (blk_cell BK136.out 1).trans rfl; have p139 : 0 ≤ (t138 : Int) := of_decide_eq_true (by assumption); have q139 : t138 < (l0_1.length : Int) := of_decide_eq_true (by assumption); obtain ⟨ad139, A139_2, c139_2, e139, hx139_0, hx139_1, hx139_2, hl139_2, hi139_2⟩ := at_T68 HR0_1.out t138 p139 q139; cases e139; replace hx139_0 := (HB.out.cell (World.block_lt_of_cell? w _ hx139_0)).trans hx139_0; replace hx139_1 := (HB.out.cell (World.block_lt_of_cell? w _ hx139_1)).trans hx139_1; replace hx139_2 := (HB.out.cell (World.block_lt_of_cell? w _ hx139_2)).trans hx139_2; have HR139_2 := Aside0.mk hi139_2; have HC139_2 := Aside0.mk hl139_2; clear hi139_2 hl139_2; replace p139 := eq_true p139; replace q139 := eq_true q139))
     go_ret
     exact ⟨by first | rfl | (simp [*, errW_none, errW_some] <;> rfl), by repeat first | exact HB.out | apply pw_below_drewN⟩
    ·rw [if_neg c11] at H
     exact absurd H (by simp)
   ·rw [if_neg c10] at H
    exact absurd H (by simp)
  ·rw [if_neg c9] at H
   have c9b0 : decide (0 ≤ t138) = false := decide_eq_false c9
   clear c9
   obtain rfl := Option.some.inj H
   go_enter Tryz.func42, Tryz.ntmps42
   go_wp2_with (first | ((with_reducible refine gate_dst (N := 2) rfl ?_); refine box_event ?hg (N := 2) ?hd (cs := #[.slice A0_0 l0_0.length c0_0, .slice A0_1 l0_1.length c0_1]) (t := 35) ?hr ?_; (case hd => rfl); (case hg => rfl); (case hr => first | (go_simp; done) | (go_simp; rfl)); intro gb136 hg w18 hbox hb; have n0_ := Aside0.mk (below_step (by repeat first | exact HB.out | apply pw_below_drewN) hb); have n1_ := Aside0.mk (hbox); clear HB; have HB := n0_; have BK136 := n1_; clear n0_ n1_; clear hb hbox hg; have hcz19_0 := (blk_cell BK136.out 0).trans rfl; have hcz19_1 := (blk_cell BK136.out 1).trans rfl) | ((with_reducible refine gate_callee (f := 61) rfl ?_); refine gl (some 8) Tryz.func61 #[.agg #[.slice A0_0 l0_0.length c0_0, .slice A0_1 l0_1.length c0_1], .int .i64 a1] ?_; (with_reducible refine (spec_l06Device.calls k _ _ l0_0 _ _ l0_1 a1 t137 _ ?side1 ?side2 ?side3 ?side4 A3.out).mono ?_); (case side1 => exact (Kd.C_below HR0_0.out HB.out)); (case side2 => exact HC0_0.out); (case side3 => exact (Kd.C_below HR0_1.out HB.out)); (case side4 => exact HC0_1.out); rintro e w20 ⟨rfl, hb⟩; refine ⟨_, rfl, ?_⟩; have n0_ := Aside0.mk (blk_below (by exact BK136.out) hb); have n1_ := Aside0.mk (below_step (by repeat first | exact HB.out | apply pw_below_drewN) hb); clear BK136; clear HB; have BK136 := n0_; have HB := n1_; clear n0_ n1_; (try clear hb); (try clear hb2); (try clear hk); (try clear hi); have hcz21_0 := (blk_cell BK136.out 0).trans rfl; have hcz21_1 := (blk_cell BK136.out 1).trans rfl) | ((with_reducible refine gate_callee (f := 62) rfl ?_); refine gl (some 12) Tryz.func62 #[.agg #[.slice A0_0 l0_0.length c0_0, .slice A0_1 l0_1.length c0_1], .int .i64 a1] ?_; (with_reducible refine (spec_l06Bucket.calls k _ _ l0_0 _ _ l0_1 a1 t138 _ ?side1 ?side2 ?side3 ?side4 A8.out).mono ?_); (case side1 => exact (Kd.C_below HR0_0.out HB.out)); (case side2 => exact HC0_0.out); (case side3 => exact (Kd.C_below HR0_1.out HB.out)); (case side4 => exact HC0_1.out); rintro e w22 ⟨rfl, hb⟩; refine ⟨_, rfl, ?_⟩; have n0_ := Aside0.mk (blk_below (by exact BK136.out) hb); have n1_ := Aside0.mk (below_step (by repeat first | exact HB.out | apply pw_below_drewN) hb); clear BK136; clear HB; have BK136 := n0_; have HB := n1_; clear n0_ n1_; (try clear hb); (try clear hb2); (try clear hk); (try clear hi)))
   go_ret
   exact ⟨by first | rfl | (simp [*, errW_none, errW_some] <;> rfl), by repeat first | exact HB.out | apply pw_below_drewN⟩

/-! ### spec_l06Fits: function 41 -/
mutual
def spec_l06Fits.l0 : Nat → Int → List (S72) → List (S68) → Int → Int → List Int → Option (Bool)
  | 0, _, _, _, _, _, _ => none
  | k + 1, x5, x141000, x141001, x142000, x142001, x142002 => if x5 < (x142002.length : Int) then (if 0 ≤ x5 then ((spec_l06Kind.f k x141000 x141001 (rd x142002 x5)).bind fun t143 => (if x142001 < 3 then (spec_l06Fits.j1 k x5 t143 (t143 != (wrap64 (x142001 - 1))) x141000 x141001 x142000 x142001 x142002) else (spec_l06Fits.j1 k x5 t143 false x141000 x141001 x142000 x142001 x142002))) else (none)) else (some true)
def spec_l06Fits.j1 : Nat → Int → Int → Bool → List (S72) → List (S68) → Int → Int → List Int → Option (Bool)
  | 0, _, _, _, _, _, _, _, _ => none
  | k + 1, x5, x6, x30, x141000, x141001, x142000, x142001, x142002 => if x30 = true then (some false) else (if x142001 = 3 then (if 0 < (x142002.length : Int) then ((spec_l06Kind.f k x141000 x141001 (rd x142002 0)).bind fun t145 => (if x6 = t145 then (if x6 = 1 then (spec_l06Fits.l0 k (wrap64 (x5 + 1)) x141000 x141001 x142000 x142001 x142002) else (if x6 = 2 then (spec_l06Fits.l0 k (wrap64 (x5 + 1)) x141000 x141001 x142000 x142001 x142002) else (some false))) else (some false))) else (none)) else (spec_l06Fits.l0 k (wrap64 (x5 + 1)) x141000 x141001 x142000 x142001 x142002))
end
def spec_l06Fits.f (k : Nat) (l0_0 : List (S72)) (l0_1 : List (S68)) (a1_0 : Int) (a1_1 : Int) (l1_2 : List Int) : Option (Bool) := spec_l06Fits.l0 k 0 l0_0 l0_1 a1_0 a1_1 l1_2
def spec_l06Fits.T4 : Bool × List (List Nat × List Nat) := (true, [([], []), ([], []), ([1], [1]), ([], []), ([2, 3], [2, 3]), ([4], [4]), ([0, 5], [0, 5]), ([6, 6, 0, 1, 2, 3, 4, 5, 6], [6])])
def spec_l06Fits.B4 : List Nat := [0, 0, 2, 0, 14, 30, 63, 127]
theorem spec_l06Fits.tab4 : rtab .any (opsOf Tryz.f41 4) = spec_l06Fits.T4 := by kernel_rfl
theorem spec_l06Fits.bits4 : waitsOk spec_l06Fits.T4.2 spec_l06Fits.B4 = true := by kernel_rfl
def spec_l06Fits.T7 : Bool × List (List Nat × List Nat) := (true, [([], []), ([0], [0]), ([1], [1]), ([2], [2]), ([3], [3]), ([3], [3]), ([3], [3]), ([6, 3], [3, 6]), ([7, 3], [3, 7]), ([8, 3], [3, 8]), ([5, 9, 3, 3], [3, 5, 9]), ([4, 10, 3], [3, 4, 10]), ([11, 10, 3], [3, 11]), ([12], [12]), ([13, 12], [12, 13]), ([14, 12, 12], [12, 14]), ([15], [15]), ([16, 15], [15, 16]), ([15, 17, 12], [12, 15, 17]), ([12, 18, 3], [3, 12, 18]), ([3, 19], [3, 19])])
def spec_l06Fits.B7 : List Nat := [0, 1, 3, 7, 15, 15, 15, 79, 207, 463, 1007, 2047, 4095, 8191, 16383, 32767, 65535, 131071, 262143, 524287, 1048575]
theorem spec_l06Fits.tab7 : rtab .any (opsOf Tryz.f41 7) = spec_l06Fits.T7 := by kernel_rfl
theorem spec_l06Fits.bits7 : waitsOk spec_l06Fits.T7.2 spec_l06Fits.B7 = true := by kernel_rfl
def az_z41 (n m : Nat) : Array Bool := (List.replicate n true ++ List.replicate m false).toArray
def mz41_0 : Array Bool := az_z41 0 21
def mz41_1 : Array Bool := az_z41 1 20
def mz41_2 : Array Bool := az_z41 2 19
def mz41_3 : Array Bool := az_z41 3 18
def mz41_4 : Array Bool := az_z41 4 17
def mz41_5 : Array Bool := az_z41 5 16
def mz41_6 : Array Bool := #[true, true, true, true, true, false, true, false, false, false, false, false, false, false, false, false, false, false, false, false, false]
def mz41_7 : Array Bool := az_z41 7 14
def mz41_8 : Array Bool := az_z41 8 13
def mz41_9 : Array Bool := az_z41 9 12
def mz41_10 : Array Bool := az_z41 10 11
def mz41_11 : Array Bool := az_z41 11 10
def mz41_12 : Array Bool := az_z41 12 9
def mz41_13 : Array Bool := az_z41 13 8
def mz41_14 : Array Bool := az_z41 14 7
def mz41_15 : Array Bool := az_z41 15 6
def mz41_16 : Array Bool := az_z41 16 5
def mz41_17 : Array Bool := az_z41 17 4
def mz41_18 : Array Bool := az_z41 18 3
def mz41_19 : Array Bool := az_z41 19 2
def mz41_20 : Array Bool := az_z41 20 1
def mz41_21 : Array Bool := az_z41 21 0
def mz41_22 : Array Bool := az_z41 6 15
theorem pu_z41 {P : Program} {ops : Array Oper} {Q : Exit → Act → World → Prop} {md : Region.Mode} {S : World → Prop} {ds : List Nat} {oi : Oper} {fuel : Nat} {l : Array Bool} {a : Act} {w : World} (i : Nat) (N : Option Tmp) (v : Value) (l' : Array Bool) (hi : ops[i]? = some oi) (hN : oi.dst = N) (hc : anyB md ops l l' i = true)
    (hQ : ∀ c a w, Q (.panic c) (a.put oi.dst v) w → Q (.panic c) a w) (hy : Yields P ops oi v a) (a' : Act) (ha : a.put N v = a')
    (h : wpAnyLast P md ops Q S ds fuel l' a' w) : wpAnyLast P md ops Q S ds (fuel + 1) l a w := pure_ l' hi hN hc hQ hy ha h
theorem pq_z41 : (∀ (l : List Value) (i : Nat) (v : Value), l.toArray.setIfInBounds i v = (l.set i v).toArray) ∧ (∀ (x v : Value) (xs : List Value), (x :: xs).set 0 v = v :: xs) ∧ (∀ (x v : Value) (xs : List Value) (n : Nat), (x :: xs).set (n + 1) v = x :: xs.set n v) ∧ (∀ n : Int, IntKind.i64.wrap n = Go.RowKit.wrap64 n) ∧ (∀ n : Int, IntKind.i32.wrap n = Go.RowKit.wrap32 n) :=
  ⟨fun l i v => List.setIfInBounds_toArray l i v, fun _ _ _ => rfl, fun _ _ _ _ => rfl, i64_w, i32_w⟩
set_option maxHeartbeats 8000000 in
set_option maxRecDepth 100000 in
theorem spec_l06Fits.calls (k : Nat) (A0_0 : Option Addr) (c0_0 : Nat) (l0_0 : List (S72)) (A0_1 : Option Addr) (c0_1 : Nat) (l0_1 : List (S68)) (a1_0 : Int) (a1_1 : Int) (A1_2 : Option Addr) (c1_2 : Nat) (l1_2 : List Int) (r : Bool) (w : World) (hr0_0 : Kd.C k72 w A0_0 l0_0.length l0_0) (hc0_0 : l0_0.length ≤ c0_0) (hr0_1 : Kd.C k68 w A0_1 l0_1.length l0_1) (hc0_1 : l0_1.length ≤ c0_1) (hr1_2 : Kd.C (Kd.int .i64) w A1_2 l1_2.length l1_2) (hc1_2 : l1_2.length ≤ c1_2) (h : spec_l06Fits.f k l0_0 l0_1 a1_0 a1_1 l1_2 = some r) :
  Calls Tryz.prog 41 #[.agg #[.slice A0_0 l0_0.length c0_0, .slice A0_1 l0_1.length c0_1], .agg #[.int .i64 a1_0, .int .i64 a1_1, .slice A1_2 l1_2.length c1_2]] w fun e w' => e = .returned (.bool r) ∧ Below w.heap.size w w' := by
 have hu35 := Tryz.underlying35
 have hu68 := Tryz.underlying68
 have HR0_0 := Aside0.mk hr0_0
 have HC0_0 := Aside0.mk hc0_0
 clear hr0_0 hc0_0
 have HR0_1 := Aside0.mk hr0_1
 have HC0_1 := Aside0.mk hc0_1
 clear hr0_1 hc0_1
 have HR1_2 := Aside0.mk hr1_2
 have HC1_2 := Aside0.mk hc1_2
 clear hr1_2 hc1_2
 have HB := Aside0.mk (Below.refl w.heap.size w)
 have H : (spec_l06Fits.l0 k 0 l0_0 l0_1 a1_0 a1_1 l1_2) = some r := h
 clear h
 have H' := Aside0.mk H
 clear H
 go_enter Tryz.func41, Tryz.ntmps41
 go_wp2_with (first | ((with_reducible refine gate_dst (N := 2) rfl ?_); refine box_event ?hg (N := 2) ?hd (cs := #[.slice A0_0 l0_0.length c0_0, .slice A0_1 l0_1.length c0_1]) (t := 35) ?hr ?_; (case hd => rfl); (case hg => rfl); (case hr => first | (go_simp; done) | (go_simp; rfl)); intro gb140 hg w3 hbox hb; have n0_ := Aside0.mk (below_step (by repeat first | exact HB.out | apply pw_below_drewN) hb); have n1_ := Aside0.mk (hbox); clear HB; have HB := n0_; have BK140 := n1_; clear n0_ n1_; clear hb hbox hg) | ((with_reducible refine gate_dst (N := 3) rfl ?_); refine box_event ?hg (N := 3) ?hd (cs := #[.int .i64 a1_0, .int .i64 a1_1, .slice A1_2 l1_2.length c1_2]) (t := 68) ?hr ?_; (case hd => rfl); (case hg => rfl); (case hr => first | (go_simp; done) | (go_simp; rfl)); intro gb141 hg w4 hbox hb; have n0_ := Aside0.mk (blk_below (by exact BK140.out) hb); have n1_ := Aside0.mk (below_step (by repeat first | exact HB.out | apply pw_below_drewN) hb); have n2_ := Aside0.mk (hbox); clear BK140; clear HB; have BK140 := n0_; have HB := n1_; have BK141 := n2_; clear n0_ n1_ n2_; clear hb hbox hg))
 go_loopg [5] k (fun kq v5 w' => ∃ (x5_1 : Int), v5 = .int .i64 x5_1 ∧ Aside0 (spec_l06Fits.l0 kq x5_1 l0_0 l0_1 a1_0 a1_1 l1_2 = some r) ∧ Aside0 (kq ≤ k) ∧ Aside0 (w'.heap[gb140]? = some (.cells #[(.slice A0_0 l0_0.length c0_0), (.slice A0_1 l0_1.length c0_1)] 35 (0, 0))) ∧ Aside0 (w'.heap[gb141]? = some (.cells #[.int .i64 a1_0, .int .i64 a1_1, (.slice A1_2 l1_2.length c1_2)] 68 (0, 0))) ∧ Aside0 (Below w.heap.size w w'))
 case atStart => exact ⟨(0), (by first | rfl | (simp; done) | (simp [*]; done)), H', ⟨Nat.le_refl _⟩, ⟨by exact BK140.out⟩, ⟨by exact BK141.out⟩, ⟨by repeat first | exact HB.out | apply pw_below_drewN⟩⟩
 case round =>
  clear H'
  try clear c1
  try clear p2
  try clear c4
  obtain ⟨x5_1, rfl, HA, HK1, BK140, BK141, HB⟩ := hrel
  cases gk with
  | zero => exact absurd HA.out (by simp [spec_l06Fits.l0])
  | succ k1 =>
   have H := HA.out
   clear HA
   simp only [spec_l06Fits.l0] at H
   by_cases c5 : x5_1 < (l1_2.length : Int)
   ·rw [if_pos c5] at H
    have c5b0 : decide (x5_1 < (l1_2.length : Int)) = true := decide_eq_true c5
    clear c5
    by_cases c6 : 0 ≤ x5_1
    ·rw [if_pos c6] at H
     have c6b0 : decide (0 ≤ x5_1) = true := decide_eq_true c6
     clear c6
     replace H := Option.bind_eq_some_iff.mp H
     obtain ⟨t143, A70, H⟩ := H
     set_option simprocs false in try dsimp only at H
     have A7 := Aside0.mk A70
     clear A70
     have HC8 := Aside0.mk H
     clear H
     have hcz10_0 := (blk_cell BK141.out 0).trans rfl
     have hcz10_1 := (blk_cell BK141.out 1).trans rfl
     have hcz10_2 := (blk_cell BK141.out 2).trans rfl
     try go_wp2
     have n0_ := Aside0.mk (blk_drew BK140.out)
     have n1_ := Aside0.mk (blk_drew BK141.out)
     have n2_ := Aside0.mk (below_drew1 HB.out)
     clear BK140
     clear BK141
     clear HB
     have BK140 := n0_
     have BK141 := n1_
     have HB := n2_
     clear n0_ n1_ n2_
     have p142 : 0 ≤ (x5_1 : Int) := of_decide_eq_true (by assumption)
     have q142 : x5_1 < (l1_2.length : Int) := of_decide_eq_true (by assumption)
     obtain ⟨ad142, e142, hx142_0⟩ := Kd.at_int HR1_2.out x5_1 p142 q142
     have hw142_0 := hx142_0
     cases e142
     replace hx142_0 := (HB.out.cell (World.block_lt_of_cell? w _ hx142_0)).trans hx142_0
     replace p142 := eq_true p142
     replace q142 := eq_true q142
     refine start_ (n := 8) (S := fun w' => w'.cell? ⟨gb140, 0, none⟩ = some (.slice A0_0 l0_0.length c0_0) ∧ w'.cell? ⟨gb140, 1, none⟩ = some (.slice A0_1 l0_1.length c0_1) ∧ w'.cell? ⟨gb141, 0, none⟩ = some (.int .i64 a1_0) ∧ w'.cell? ⟨gb141, 1, none⟩ = some (.int .i64 a1_1) ∧ w'.cell? ⟨gb141, 2, none⟩ = some (.slice (some ad142) l1_2.length c1_2) ∧ w'.cell? (ad142.add (x5_1).toNat) = some (.int .i64 (rd l1_2 x5_1))) (ds := []) #[false, false, false, false, false, false, false, false] (by kernel_rfl) rfl rfl ⟨(blk_cell BK140.out 0).trans rfl, (blk_cell BK140.out 1).trans rfl, (blk_cell BK141.out 0).trans rfl, (blk_cell BK141.out 1).trans rfl, (blk_cell BK141.out 2).trans rfl, ((HB.out.cell (World.block_lt_of_cell? w _ hw142_0)).trans hw142_0)⟩ (fun hHeld => ?_); refine with_tabW spec_l06Fits.tab4 spec_l06Fits.bits4 (fun HT_ HW_ => ?_)
     generalize wr.drew = w11 at BK140 BK141 HB hx142_0 hHeld ⊢
     refine pu 1 (some 15) #[false, true, false, false, false, false, false, false] (any_of HT_.out (by kernel_rfl)) ?_
     refine pu 3 (some 17) #[false, true, false, true, false, false, false, false] (any_of HT_.out (by kernel_rfl)) ?_
     refine tk 0 (some 14) #[true, true, false, true, false, false, false, false] hHeld (take_ofW HT_.out HW_.out (by kernel_rfl)) ?_
     refine tk 2 (some 16) #[true, true, true, true, false, false, false, false] hHeld (take_ofW HT_.out HW_.out (by kernel_rfl)) ?_
     refine pu 4 (some 18) #[true, true, true, true, true, false, false, false] (any_of HT_.out (by kernel_rfl)) ?_
     refine tk 5 (some 19) #[true, true, true, true, true, true, false, false] hHeld (take_ofW HT_.out HW_.out (by kernel_rfl)) ?_
     refine one_ (i := 6) (N := some 20) #[true, true, true, true, true, true, true, false] rfl rfl (one_of HT_.out (by kernel_rfl)) (by decide) (fun K hK => ?_)
     refine goes_ Tryz.func42 (by kernel_rfl) rfl #[.agg #[.slice A0_0 l0_0.length c0_0, .slice A0_1 l0_1.length c0_1], .int .i64 (rd l1_2 x5_1)] (by rfl) rfl rfl (by (try simp only [List.map_toArray, List.map_cons, List.map_nil]); first | done | rfl) ?_
     with_reducible refine (spec_l06Kind.calls k1 _ _ l0_0 _ _ l0_1 (rd l1_2 x5_1) t143 _ ?side1 ?side2 ?side3 ?side4 A7.out).mono ?_
     (case side1 => exact (Kd.C_below HR0_0.out HB.out))
     (case side2 => exact HC0_0.out)
     (case side3 => exact (Kd.C_below HR0_1.out HB.out))
     (case side4 => exact HC0_1.out)
     rintro e w12 ⟨rfl, hb⟩
     refine ⟨_, rfl, ?_⟩
     have n0_ := Aside0.mk (blk_below (by exact BK140.out) hb)
     have n1_ := Aside0.mk (blk_below (by exact BK141.out) hb)
     have n2_ := Aside0.mk (below_step (by repeat first | exact HB.out | apply pw_below_drewN) hb)
     clear BK140
     clear BK141
     clear HB
     have BK140 := n0_
     have BK141 := n1_
     have HB := n2_
     clear n0_ n1_ n2_
     (try clear hb)
     (try clear hb2)
     (try clear hk)
     (try clear hi)
     refine hK.out _ _ ⟨(blk_cell BK140.out 0).trans rfl, (blk_cell BK140.out 1).trans rfl, (blk_cell BK141.out 0).trans rfl, (blk_cell BK141.out 1).trans rfl, (blk_cell BK141.out 2).trans rfl, ((HB.out.cell (World.block_lt_of_cell? w _ hw142_0)).trans hw142_0)⟩ (fun hHeld => ?_)
     clear hK K
     refine norm_ (a' := ?_) ?_ ?_
     (rotate_left; ·(show Act.put _ (some 20) _ = _; simp only [Act.put, pq_z41]; rfl))
     refine pu 7 (some 6) #[true, true, true, true, true, true, true, true] (any_of HT_.out (by kernel_rfl)) ?_
     refine done_ (done_of HT_.out (by kernel_rfl)) ?_
     go_upto_region 5 with (fail)
     go_cut [30] (fun v30 wc => ∃ (kq : Nat) (x30_7 : Bool), v30 = .bool x30_7 ∧ Aside0 (spec_l06Fits.j1 kq x5_1 t143 x30_7 l0_0 l0_1 a1_0 a1_1 l1_2 = some r) ∧ Aside0 (kq ≤ k1) ∧ Aside0 (wc.heap[gb140]? = some (.cells #[(.slice A0_0 l0_0.length c0_0), (.slice A0_1 l0_1.length c0_1)] 35 (0, 0))) ∧ Aside0 (wc.heap[gb141]? = some (.cells #[.int .i64 a1_0, .int .i64 a1_1, (.slice (some ad142) l1_2.length c1_2)] 68 (0, 0))) ∧ Aside0 (Below w.heap.size w wc))
     case first =>
      have H := HC8.out
      clear HC8
      by_cases c13 : a1_1 < 3
      ·rw [if_pos c13] at H
       have c13b0 : decide (a1_1 < 3) = true := decide_eq_true c13
       clear c13
       (first | rw [c13b0] | (simp only [i64_w, i32_w]; rw [c13b0]) | skip)
       have H' := Aside0.mk H
       clear H
       have hcz15_0 := (blk_cell BK141.out 0).trans rfl
       have hcz15_1 := (blk_cell BK141.out 1).trans rfl
       have hcz15_2 := (blk_cell BK141.out 2).trans rfl
       go_wp2
       go_meet
       case rel => exact ⟨_, ((t143 != (wrap64 (a1_1 - 1)))), (by first | rfl | (simp; done) | (simp [*]; done)), H', ⟨by have := HK1.out; first | omega | exact Nat.le_refl _⟩, ⟨by exact BK140.out⟩, ⟨by exact BK141.out⟩, ⟨by repeat first | exact HB.out | apply pw_below_drewN⟩⟩
      ·rw [if_neg c13] at H
       have c13b0 : decide (a1_1 < 3) = false := decide_eq_false c13
       clear c13
       (first | rw [c13b0] | (simp only [i64_w, i32_w]; rw [c13b0]) | skip)
       have H' := Aside0.mk H
       clear H
       have hcz17_0 := (blk_cell BK141.out 0).trans rfl
       have hcz17_1 := (blk_cell BK141.out 1).trans rfl
       have hcz17_2 := (blk_cell BK141.out 2).trans rfl
       go_wp2
       go_meet
       case rel => exact ⟨_, (false), (by first | rfl | (simp; done) | (simp [*]; done)), H', ⟨by have := HK1.out; first | omega | exact Nat.le_refl _⟩, ⟨by exact BK140.out⟩, ⟨by exact BK141.out⟩, ⟨by repeat first | exact HB.out | apply pw_below_drewN⟩⟩
     case rest =>
      clear HC8
      try clear c1
      try clear p1
      try clear q1
      try clear hx1
      try clear p2
      try clear c4
      try clear c5
      try clear c5b0
      try clear c6
      try clear c6b0
      try clear p6
      try clear c9
      try clear c13
      try clear c13b0
      try clear c14
      try clear p14
      try clear q14
      try clear hx14
      try clear c16
      try clear hcz10_0
      try clear hcz10_1
      try clear hcz10_2
      try clear hcz15_0
      try clear hcz15_1
      try clear hcz15_2
      try clear hcz17_0
      try clear hcz17_1
      try clear hcz17_2
      try clear hx142_0
      try clear p142
      try clear p2
      try clear q142
      obtain ⟨kq, x30_7, rfl, HA, HJ7, BK140, BK141, HB⟩ := hcut
      cases kq with
      | zero => exact absurd HA.out (by simp [spec_l06Fits.j1])
      | succ kj7 =>
       have H := HA.out
       clear HA
       simp only [spec_l06Fits.j1] at H
       by_cases c18 : x30_7 = true
       ·subst c18
        rw [if_pos rfl] at H
        obtain rfl := Option.some.inj H
        go_wp2
        go_ret
        exact ⟨by first | rfl | (simp [*, errW_none, errW_some] <;> rfl), by repeat first | exact HB.out | apply pw_below_drewN⟩
       ·replace c18 := Bool.eq_false_iff.mpr c18
        subst c18
        rw [if_neg (show ¬ (false = true) by decide)] at H
        by_cases c19 : a1_1 = 3
        ·rw [if_pos c19] at H
         have c19b0 : (a1_1 == 3) = true := beq_iff_eq.mpr c19
         have c19b1 : (a1_1 != 3) = false := bne_eq_false_iff_eq.mpr c19
         clear c19
         by_cases c20 : 0 < (l1_2.length : Int)
         ·rw [if_pos c20] at H
          have c20b0 : decide (0 < (l1_2.length : Int)) = true := decide_eq_true c20
          have c20b1 : decide (0 < l1_2.length) = true := decide_eq_true (by omega)
          clear c20
          replace H := Option.bind_eq_some_iff.mp H
          obtain ⟨t145, A210, H⟩ := H
          set_option simprocs false in try dsimp only at H
          have A21 := Aside0.mk A210
          clear A210
          by_cases c22 : t143 = t145
          ·rw [if_pos c22] at H
           have c22b0 : (t143 == t145) = true := beq_iff_eq.mpr c22
           have c22b1 : (t143 != t145) = false := bne_eq_false_iff_eq.mpr c22
           clear c22
           by_cases c23 : t143 = 1
           ·rw [if_pos c23] at H
            have c23b0 : (t143 == 1) = true := beq_iff_eq.mpr c23
            have c23b1 : (t143 != 1) = false := bne_eq_false_iff_eq.mpr c23
            clear c23
            have H' := Aside0.mk H
            clear H
            try go_wp2
            have n0_ := Aside0.mk (blk_drew BK140.out)
            have n1_ := Aside0.mk (blk_drew BK141.out)
            have n2_ := Aside0.mk (below_drew1 HB.out)
            clear BK140
            clear BK141
            clear HB
            have BK140 := n0_
            have BK141 := n1_
            have HB := n2_
            clear n0_ n1_ n2_
            have p144 : 0 ≤ (0 : Int) := (by omega)
            have q144 : 0 < (l1_2.length : Int) := of_decide_eq_true (by assumption)
            obtain ⟨ad144, e144, hx144_0⟩ := Kd.at_int HR1_2.out 0 p144 q144
            have hw144_0 := hx144_0
            (try rw [show ((0 : Int)).toNat = 0 from rfl] at hw144_0)
            (try rw [show 0 * 1 = 0 from rfl] at hw144_0)
            (try rw [Addr.add_zero'] at hw144_0)
            obtain rfl : ad142 = ad144 := (by injection e144)
            have qi144 : (0 < l1_2.length) = True := eq_true (by omega)
            (try rw [show ((0 : Int)).toNat = 0 from rfl] at hx144_0)
            (try rw [Addr.add_zero'] at hx144_0)
            replace hx144_0 := (HB.out.cell (World.block_lt_of_cell? w _ hx144_0)).trans hx144_0
            replace p144 := eq_true p144
            replace q144 := eq_true q144
            refine start_ (n := 21) (S := fun w' => w'.cell? ⟨gb141, 0, none⟩ = some (.int .i64 a1_0) ∧ w'.cell? ⟨gb141, 1, none⟩ = some (.int .i64 a1_1) ∧ w'.cell? ⟨gb141, 2, none⟩ = some (.slice (some ad142) l1_2.length c1_2) ∧ w'.cell? ⟨gb140, 0, none⟩ = some (.slice A0_0 l0_0.length c0_0) ∧ w'.cell? ⟨gb140, 1, none⟩ = some (.slice A0_1 l0_1.length c0_1) ∧ w'.cell? ad142 = some (.int .i64 (rd l1_2 0))) (ds := []) mz41_0 (by kernel_rfl) rfl rfl ⟨(blk_cell BK141.out 0).trans rfl, (blk_cell BK141.out 1).trans rfl, (blk_cell BK141.out 2).trans rfl, (blk_cell BK140.out 0).trans rfl, (blk_cell BK140.out 1).trans rfl, ((HB.out.cell (World.block_lt_of_cell? w _ hw144_0)).trans hw144_0)⟩ (fun hHeld => ?_); refine with_tabW spec_l06Fits.tab7 spec_l06Fits.bits7 (fun HT_ HW_ => ?_)
            generalize wc.drew = w24 at BK140 BK141 HB hx144_0 hHeld ⊢
            refine pu 0 (some 31) mz41_1 (any_of HT_.out (by kernel_rfl)) ?_
            refine tk 1 (some 32) mz41_2 hHeld (take_ofW HT_.out HW_.out (by kernel_rfl)) ?_
            refine pu 2 (some 33) mz41_3 (any_of HT_.out (by kernel_rfl)) ?_
            refine pu 3 (some 34) mz41_4 (any_of HT_.out (by kernel_rfl)) ?_
            refine pu 4 (some 35) mz41_5 (any_of HT_.out (by kernel_rfl)) ?_
            refine pu 6 (some 37) mz41_6 (any_of HT_.out (by kernel_rfl)) ?_
            refine tk 5 (some 36) mz41_7 hHeld (take_ofW HT_.out HW_.out (by kernel_rfl)) ?_
            refine tk 7 (some 38) mz41_8 hHeld (take_ofW HT_.out HW_.out (by kernel_rfl)) ?_
            refine pu 8 (some 39) mz41_9 (any_of HT_.out (by kernel_rfl)) ?_
            refine tk 9 (some 40) mz41_10 hHeld (take_ofW HT_.out HW_.out (by kernel_rfl)) ?_
            refine one_ (i := 10) (N := some 41) mz41_11 rfl rfl (one_of HT_.out (by kernel_rfl)) (by decide) (fun K hK => ?_)
            refine goes_ Tryz.func42 (by kernel_rfl) rfl #[.agg #[.slice A0_0 l0_0.length c0_0, .slice A0_1 l0_1.length c0_1], .int .i64 (rd l1_2 0)] (by rfl) rfl rfl (by (try simp only [List.map_toArray, List.map_cons, List.map_nil]); first | done | rfl) ?_
            with_reducible refine (spec_l06Kind.calls kj7 _ _ l0_0 _ _ l0_1 (rd l1_2 0) t145 _ ?side1 ?side2 ?side3 ?side4 A21.out).mono ?_
            (case side1 => exact (Kd.C_below HR0_0.out HB.out))
            (case side2 => exact HC0_0.out)
            (case side3 => exact (Kd.C_below HR0_1.out HB.out))
            (case side4 => exact HC0_1.out)
            rintro e w25 ⟨rfl, hb⟩
            refine ⟨_, rfl, ?_⟩
            have n0_ := Aside0.mk (blk_below (by exact BK140.out) hb)
            have n1_ := Aside0.mk (blk_below (by exact BK141.out) hb)
            have n2_ := Aside0.mk (below_step (by repeat first | exact HB.out | apply pw_below_drewN) hb)
            clear BK140
            clear BK141
            clear HB
            have BK140 := n0_
            have BK141 := n1_
            have HB := n2_
            clear n0_ n1_ n2_
            (try clear hb)
            (try clear hb2)
            (try clear hk)
            (try clear hi)
            refine hK.out _ _ ⟨(blk_cell BK141.out 0).trans rfl, (blk_cell BK141.out 1).trans rfl, (blk_cell BK141.out 2).trans rfl, (blk_cell BK140.out 0).trans rfl, (blk_cell BK140.out 1).trans rfl, ((HB.out.cell (World.block_lt_of_cell? w _ hw144_0)).trans hw144_0)⟩ (fun hHeld => ?_)
            clear hK K
            refine norm_ (a' := ?_) ?_ ?_
            (rotate_left; ·(show Act.put _ (some 41) _ = _; simp only [Act.put, pq_z41]; rfl))
            refine pu 11 (some 42) mz41_12 (any_of HT_.out (by kernel_rfl)) ?_
            refine pu 12 (some 43) mz41_13 (any_of HT_.out (by kernel_rfl)) ?_
            refine pu 13 (some 44) mz41_14 (any_of HT_.out (by kernel_rfl)) ?_
            refine pu 14 (some 45) mz41_15 (any_of HT_.out (by kernel_rfl)) ?_
            refine pu 15 (some 46) mz41_16 (any_of HT_.out (by kernel_rfl)) ?_
            refine po 16 (some 47) mz41_17 (any_of HT_.out (by kernel_rfl)) ?_
            refine po 17 (some 48) mz41_18 (any_of HT_.out (by kernel_rfl)) ?_
            refine pu 18 (some 49) mz41_19 (any_of HT_.out (by kernel_rfl)) ?_
            refine pu 19 (some 50) mz41_20 (any_of HT_.out (by kernel_rfl)) ?_
            refine pu 20 (some 51) mz41_21 (any_of HT_.out (by kernel_rfl)) ?_
            refine done_ (done_of HT_.out (by kernel_rfl)) ?_
            try go_wp2
            go_roundg kj7
            case measure => have := HK1.out; have := HJ7.out; omega
            case rel => exact ⟨(wrap64 (x5_1 + 1)), (by first | rfl | (simp; done) | (simp [*]; done)), H', ⟨by have := HK1.out; have := HJ7.out; omega⟩, ⟨by exact BK140.out⟩, ⟨by exact BK141.out⟩, ⟨by repeat first | exact HB.out | apply pw_below_drewN⟩⟩
           ·rw [if_neg c23] at H
            have c23b0 : (t143 == 1) = false := beq_eq_false_iff_ne.mpr c23
            have c23b1 : (t143 != 1) = true := bne_iff_ne.mpr c23
            by_cases c26 : t143 = 2
            ·rw [if_pos c26] at H
             have c26b0 : (t143 == 2) = true := beq_iff_eq.mpr c26
             have c26b1 : (t143 != 2) = false := bne_eq_false_iff_eq.mpr c26
             clear c26
             have H' := Aside0.mk H
             clear H
             try go_wp2
             have n0_ := Aside0.mk (blk_drew BK140.out)
             have n1_ := Aside0.mk (blk_drew BK141.out)
             have n2_ := Aside0.mk (below_drew1 HB.out)
             clear BK140
             clear BK141
             clear HB
             have BK140 := n0_
             have BK141 := n1_
             have HB := n2_
             clear n0_ n1_ n2_
             have p144 : 0 ≤ (0 : Int) := (by omega)
             have q144 : 0 < (l1_2.length : Int) := of_decide_eq_true (by assumption)
             obtain ⟨ad144, e144, hx144_0⟩ := Kd.at_int HR1_2.out 0 p144 q144
             have hw144_0 := hx144_0
             (try rw [show ((0 : Int)).toNat = 0 from rfl] at hw144_0)
             (try rw [show 0 * 1 = 0 from rfl] at hw144_0)
             (try rw [Addr.add_zero'] at hw144_0)
             obtain rfl : ad142 = ad144 := (by injection e144)
             have qi144 : (0 < l1_2.length) = True := eq_true (by omega)
             (try rw [show ((0 : Int)).toNat = 0 from rfl] at hx144_0)
             (try rw [Addr.add_zero'] at hx144_0)
             replace hx144_0 := (HB.out.cell (World.block_lt_of_cell? w _ hx144_0)).trans hx144_0
             replace p144 := eq_true p144
             replace q144 := eq_true q144
             refine start_ (n := 21) (S := fun w' => w'.cell? ⟨gb141, 0, none⟩ = some (.int .i64 a1_0) ∧ w'.cell? ⟨gb141, 1, none⟩ = some (.int .i64 a1_1) ∧ w'.cell? ⟨gb141, 2, none⟩ = some (.slice (some ad142) l1_2.length c1_2) ∧ w'.cell? ⟨gb140, 0, none⟩ = some (.slice A0_0 l0_0.length c0_0) ∧ w'.cell? ⟨gb140, 1, none⟩ = some (.slice A0_1 l0_1.length c0_1) ∧ w'.cell? ad142 = some (.int .i64 (rd l1_2 0))) (ds := []) mz41_0 (by kernel_rfl) rfl rfl ⟨(blk_cell BK141.out 0).trans rfl, (blk_cell BK141.out 1).trans rfl, (blk_cell BK141.out 2).trans rfl, (blk_cell BK140.out 0).trans rfl, (blk_cell BK140.out 1).trans rfl, ((HB.out.cell (World.block_lt_of_cell? w _ hw144_0)).trans hw144_0)⟩ (fun hHeld => ?_); refine with_tabW spec_l06Fits.tab7 spec_l06Fits.bits7 (fun HT_ HW_ => ?_)
             generalize wc.drew = w27 at BK140 BK141 HB hx144_0 hHeld ⊢
             refine pu 0 (some 31) mz41_1 (any_of HT_.out (by kernel_rfl)) ?_
             refine tk 1 (some 32) mz41_2 hHeld (take_ofW HT_.out HW_.out (by kernel_rfl)) ?_
             refine pu 2 (some 33) mz41_3 (any_of HT_.out (by kernel_rfl)) ?_
             refine pu 3 (some 34) mz41_4 (any_of HT_.out (by kernel_rfl)) ?_
             refine pu 4 (some 35) mz41_5 (any_of HT_.out (by kernel_rfl)) ?_
             refine pu 6 (some 37) mz41_6 (any_of HT_.out (by kernel_rfl)) ?_
             refine tk 5 (some 36) mz41_7 hHeld (take_ofW HT_.out HW_.out (by kernel_rfl)) ?_
             refine tk 7 (some 38) mz41_8 hHeld (take_ofW HT_.out HW_.out (by kernel_rfl)) ?_
             refine pu 8 (some 39) mz41_9 (any_of HT_.out (by kernel_rfl)) ?_
             refine tk 9 (some 40) mz41_10 hHeld (take_ofW HT_.out HW_.out (by kernel_rfl)) ?_
             refine one_ (i := 10) (N := some 41) mz41_11 rfl rfl (one_of HT_.out (by kernel_rfl)) (by decide) (fun K hK => ?_)
             refine goes_ Tryz.func42 (by kernel_rfl) rfl #[.agg #[.slice A0_0 l0_0.length c0_0, .slice A0_1 l0_1.length c0_1], .int .i64 (rd l1_2 0)] (by rfl) rfl rfl (by (try simp only [List.map_toArray, List.map_cons, List.map_nil]); first | done | rfl) ?_
             with_reducible refine (spec_l06Kind.calls kj7 _ _ l0_0 _ _ l0_1 (rd l1_2 0) t145 _ ?side1 ?side2 ?side3 ?side4 A21.out).mono ?_
             (case side1 => exact (Kd.C_below HR0_0.out HB.out))
             (case side2 => exact HC0_0.out)
             (case side3 => exact (Kd.C_below HR0_1.out HB.out))
             (case side4 => exact HC0_1.out)
             rintro e w28 ⟨rfl, hb⟩
             refine ⟨_, rfl, ?_⟩
             have n0_ := Aside0.mk (blk_below (by exact BK140.out) hb)
             have n1_ := Aside0.mk (blk_below (by exact BK141.out) hb)
             have n2_ := Aside0.mk (below_step (by repeat first | exact HB.out | apply pw_below_drewN) hb)
             clear BK140
             clear BK141
             clear HB
             have BK140 := n0_
             have BK141 := n1_
             have HB := n2_
             clear n0_ n1_ n2_
             (try clear hb)
             (try clear hb2)
             (try clear hk)
             (try clear hi)
             refine hK.out _ _ ⟨(blk_cell BK141.out 0).trans rfl, (blk_cell BK141.out 1).trans rfl, (blk_cell BK141.out 2).trans rfl, (blk_cell BK140.out 0).trans rfl, (blk_cell BK140.out 1).trans rfl, ((HB.out.cell (World.block_lt_of_cell? w _ hw144_0)).trans hw144_0)⟩ (fun hHeld => ?_)
             clear hK K
             refine norm_ (a' := ?_) ?_ ?_
             (rotate_left; ·(show Act.put _ (some 41) _ = _; simp only [Act.put, pq_z41]; rfl))
             refine pu 11 (some 42) mz41_12 (any_of HT_.out (by kernel_rfl)) ?_
             refine pu 12 (some 43) mz41_13 (any_of HT_.out (by kernel_rfl)) ?_
             refine pu 13 (some 44) mz41_14 (any_of HT_.out (by kernel_rfl)) ?_
             refine pu 14 (some 45) mz41_15 (any_of HT_.out (by kernel_rfl)) ?_
             refine pu 15 (some 46) mz41_16 (any_of HT_.out (by kernel_rfl)) ?_
             refine pu 16 (some 47) mz41_17 (any_of HT_.out (by kernel_rfl)) ?_
             refine pu 17 (some 48) mz41_18 (any_of HT_.out (by kernel_rfl)) ?_
             refine pu 18 (some 49) mz41_19 (any_of HT_.out (by kernel_rfl)) ?_
             refine pu 19 (some 50) mz41_20 (any_of HT_.out (by kernel_rfl)) ?_
             refine pu 20 (some 51) mz41_21 (any_of HT_.out (by kernel_rfl)) ?_
             refine done_ (done_of HT_.out (by kernel_rfl)) ?_
             try go_wp2
             go_roundg kj7
             case measure => have := HK1.out; have := HJ7.out; omega
             case rel => exact ⟨(wrap64 (x5_1 + 1)), (by first | rfl | (simp; done) | (simp [*]; done)), H', ⟨by have := HK1.out; have := HJ7.out; omega⟩, ⟨by exact BK140.out⟩, ⟨by exact BK141.out⟩, ⟨by repeat first | exact HB.out | apply pw_below_drewN⟩⟩
            ·rw [if_neg c26] at H
             have c26b0 : (t143 == 2) = false := beq_eq_false_iff_ne.mpr c26
             have c26b1 : (t143 != 2) = true := bne_iff_ne.mpr c26
             obtain rfl := Option.some.inj H
             try go_wp2
             have n0_ := Aside0.mk (blk_drew BK140.out)
             have n1_ := Aside0.mk (blk_drew BK141.out)
             have n2_ := Aside0.mk (below_drew1 HB.out)
             clear BK140
             clear BK141
             clear HB
             have BK140 := n0_
             have BK141 := n1_
             have HB := n2_
             clear n0_ n1_ n2_
             have p144 : 0 ≤ (0 : Int) := (by omega)
             have q144 : 0 < (l1_2.length : Int) := of_decide_eq_true (by assumption)
             obtain ⟨ad144, e144, hx144_0⟩ := Kd.at_int HR1_2.out 0 p144 q144
             have hw144_0 := hx144_0
             (try rw [show ((0 : Int)).toNat = 0 from rfl] at hw144_0)
             (try rw [show 0 * 1 = 0 from rfl] at hw144_0)
             (try rw [Addr.add_zero'] at hw144_0)
             obtain rfl : ad142 = ad144 := (by injection e144)
             have qi144 : (0 < l1_2.length) = True := eq_true (by omega)
             (try rw [show ((0 : Int)).toNat = 0 from rfl] at hx144_0)
             (try rw [Addr.add_zero'] at hx144_0)
             replace hx144_0 := (HB.out.cell (World.block_lt_of_cell? w _ hx144_0)).trans hx144_0
             replace p144 := eq_true p144
             replace q144 := eq_true q144
             refine start_ (n := 21) (S := fun w' => w'.cell? ⟨gb141, 0, none⟩ = some (.int .i64 a1_0) ∧ w'.cell? ⟨gb141, 1, none⟩ = some (.int .i64 a1_1) ∧ w'.cell? ⟨gb141, 2, none⟩ = some (.slice (some ad142) l1_2.length c1_2) ∧ w'.cell? ⟨gb140, 0, none⟩ = some (.slice A0_0 l0_0.length c0_0) ∧ w'.cell? ⟨gb140, 1, none⟩ = some (.slice A0_1 l0_1.length c0_1) ∧ w'.cell? ad142 = some (.int .i64 (rd l1_2 0))) (ds := []) mz41_0 (by kernel_rfl) rfl rfl ⟨(blk_cell BK141.out 0).trans rfl, (blk_cell BK141.out 1).trans rfl, (blk_cell BK141.out 2).trans rfl, (blk_cell BK140.out 0).trans rfl, (blk_cell BK140.out 1).trans rfl, ((HB.out.cell (World.block_lt_of_cell? w _ hw144_0)).trans hw144_0)⟩ (fun hHeld => ?_); refine with_tabW spec_l06Fits.tab7 spec_l06Fits.bits7 (fun HT_ HW_ => ?_)
             generalize wc.drew = w29 at BK140 BK141 HB hx144_0 hHeld ⊢
             refine pu 0 (some 31) mz41_1 (any_of HT_.out (by kernel_rfl)) ?_
             refine tk 1 (some 32) mz41_2 hHeld (take_ofW HT_.out HW_.out (by kernel_rfl)) ?_
             refine pu 2 (some 33) mz41_3 (any_of HT_.out (by kernel_rfl)) ?_
             refine pu 3 (some 34) mz41_4 (any_of HT_.out (by kernel_rfl)) ?_
             refine pu 4 (some 35) mz41_5 (any_of HT_.out (by kernel_rfl)) ?_
             refine pu 6 (some 37) mz41_6 (any_of HT_.out (by kernel_rfl)) ?_
             refine tk 5 (some 36) mz41_7 hHeld (take_ofW HT_.out HW_.out (by kernel_rfl)) ?_
             refine tk 7 (some 38) mz41_8 hHeld (take_ofW HT_.out HW_.out (by kernel_rfl)) ?_
             refine pu 8 (some 39) mz41_9 (any_of HT_.out (by kernel_rfl)) ?_
             refine tk 9 (some 40) mz41_10 hHeld (take_ofW HT_.out HW_.out (by kernel_rfl)) ?_
             refine one_ (i := 10) (N := some 41) mz41_11 rfl rfl (one_of HT_.out (by kernel_rfl)) (by decide) (fun K hK => ?_)
             refine goes_ Tryz.func42 (by kernel_rfl) rfl #[.agg #[.slice A0_0 l0_0.length c0_0, .slice A0_1 l0_1.length c0_1], .int .i64 (rd l1_2 0)] (by rfl) rfl rfl (by (try simp only [List.map_toArray, List.map_cons, List.map_nil]); first | done | rfl) ?_
             with_reducible refine (spec_l06Kind.calls kj7 _ _ l0_0 _ _ l0_1 (rd l1_2 0) t145 _ ?side1 ?side2 ?side3 ?side4 A21.out).mono ?_
             (case side1 => exact (Kd.C_below HR0_0.out HB.out))
             (case side2 => exact HC0_0.out)
             (case side3 => exact (Kd.C_below HR0_1.out HB.out))
             (case side4 => exact HC0_1.out)
             rintro e w30 ⟨rfl, hb⟩
             refine ⟨_, rfl, ?_⟩
             have n0_ := Aside0.mk (blk_below (by exact BK140.out) hb)
             have n1_ := Aside0.mk (blk_below (by exact BK141.out) hb)
             have n2_ := Aside0.mk (below_step (by repeat first | exact HB.out | apply pw_below_drewN) hb)
             clear BK140
             clear BK141
             clear HB
             have BK140 := n0_
             have BK141 := n1_
             have HB := n2_
             clear n0_ n1_ n2_
             (try clear hb)
             (try clear hb2)
             (try clear hk)
             (try clear hi)
             refine hK.out _ _ ⟨(blk_cell BK141.out 0).trans rfl, (blk_cell BK141.out 1).trans rfl, (blk_cell BK141.out 2).trans rfl, (blk_cell BK140.out 0).trans rfl, (blk_cell BK140.out 1).trans rfl, ((HB.out.cell (World.block_lt_of_cell? w _ hw144_0)).trans hw144_0)⟩ (fun hHeld => ?_)
             clear hK K
             refine norm_ (a' := ?_) ?_ ?_
             (rotate_left; ·(show Act.put _ (some 41) _ = _; simp only [Act.put, pq_z41]; rfl))
             refine pu 11 (some 42) mz41_12 (any_of HT_.out (by kernel_rfl)) ?_
             refine pu 12 (some 43) mz41_13 (any_of HT_.out (by kernel_rfl)) ?_
             refine pu 13 (some 44) mz41_14 (any_of HT_.out (by kernel_rfl)) ?_
             refine pu 14 (some 45) mz41_15 (any_of HT_.out (by kernel_rfl)) ?_
             refine pu 15 (some 46) mz41_16 (any_of HT_.out (by kernel_rfl)) ?_
             refine pu 16 (some 47) mz41_17 (any_of HT_.out (by kernel_rfl)) ?_
             refine pu 17 (some 48) mz41_18 (any_of HT_.out (by kernel_rfl)) ?_
             refine pu 18 (some 49) mz41_19 (any_of HT_.out (by kernel_rfl)) ?_
             refine pu 19 (some 50) mz41_20 (any_of HT_.out (by kernel_rfl)) ?_
             refine pu 20 (some 51) mz41_21 (any_of HT_.out (by kernel_rfl)) ?_
             refine done_ (done_of HT_.out (by kernel_rfl)) ?_
             try go_wp2
             go_ret
             exact ⟨by first | rfl | (simp [*, errW_none, errW_some] <;> rfl), by repeat first | exact HB.out | apply pw_below_drewN⟩
          ·rw [if_neg c22] at H
           have c22b0 : (t143 == t145) = false := beq_eq_false_iff_ne.mpr c22
           have c22b1 : (t143 != t145) = true := bne_iff_ne.mpr c22
           obtain rfl := Option.some.inj H
           try go_wp2
           have n0_ := Aside0.mk (blk_drew BK140.out)
           have n1_ := Aside0.mk (blk_drew BK141.out)
           have n2_ := Aside0.mk (below_drew1 HB.out)
           clear BK140
           clear BK141
           clear HB
           have BK140 := n0_
           have BK141 := n1_
           have HB := n2_
           clear n0_ n1_ n2_
           have p144 : 0 ≤ (0 : Int) := (by omega)
           have q144 : 0 < (l1_2.length : Int) := of_decide_eq_true (by assumption)
           obtain ⟨ad144, e144, hx144_0⟩ := Kd.at_int HR1_2.out 0 p144 q144
           have hw144_0 := hx144_0
           (try rw [show ((0 : Int)).toNat = 0 from rfl] at hw144_0)
           (try rw [show 0 * 1 = 0 from rfl] at hw144_0)
           (try rw [Addr.add_zero'] at hw144_0)
           obtain rfl : ad142 = ad144 := (by injection e144)
           have qi144 : (0 < l1_2.length) = True := eq_true (by omega)
           (try rw [show ((0 : Int)).toNat = 0 from rfl] at hx144_0)
           (try rw [Addr.add_zero'] at hx144_0)
           replace hx144_0 := (HB.out.cell (World.block_lt_of_cell? w _ hx144_0)).trans hx144_0
           replace p144 := eq_true p144
           replace q144 := eq_true q144
           refine start_ (n := 21) (S := fun w' => w'.cell? ⟨gb141, 0, none⟩ = some (.int .i64 a1_0) ∧ w'.cell? ⟨gb141, 1, none⟩ = some (.int .i64 a1_1) ∧ w'.cell? ⟨gb141, 2, none⟩ = some (.slice (some ad142) l1_2.length c1_2) ∧ w'.cell? ⟨gb140, 0, none⟩ = some (.slice A0_0 l0_0.length c0_0) ∧ w'.cell? ⟨gb140, 1, none⟩ = some (.slice A0_1 l0_1.length c0_1) ∧ w'.cell? ad142 = some (.int .i64 (rd l1_2 0))) (ds := []) mz41_0 (by kernel_rfl) rfl rfl ⟨(blk_cell BK141.out 0).trans rfl, (blk_cell BK141.out 1).trans rfl, (blk_cell BK141.out 2).trans rfl, (blk_cell BK140.out 0).trans rfl, (blk_cell BK140.out 1).trans rfl, ((HB.out.cell (World.block_lt_of_cell? w _ hw144_0)).trans hw144_0)⟩ (fun hHeld => ?_); refine with_tabW spec_l06Fits.tab7 spec_l06Fits.bits7 (fun HT_ HW_ => ?_)
           generalize wc.drew = w31 at BK140 BK141 HB hx144_0 hHeld ⊢
           refine pu 0 (some 31) mz41_1 (any_of HT_.out (by kernel_rfl)) ?_
           refine tk 1 (some 32) mz41_2 hHeld (take_ofW HT_.out HW_.out (by kernel_rfl)) ?_
           refine pu 2 (some 33) mz41_3 (any_of HT_.out (by kernel_rfl)) ?_
           refine pu 3 (some 34) mz41_4 (any_of HT_.out (by kernel_rfl)) ?_
           refine pu 4 (some 35) mz41_5 (any_of HT_.out (by kernel_rfl)) ?_
           refine pu 6 (some 37) mz41_6 (any_of HT_.out (by kernel_rfl)) ?_
           refine tk 5 (some 36) mz41_7 hHeld (take_ofW HT_.out HW_.out (by kernel_rfl)) ?_
           refine tk 7 (some 38) mz41_8 hHeld (take_ofW HT_.out HW_.out (by kernel_rfl)) ?_
           refine pu 8 (some 39) mz41_9 (any_of HT_.out (by kernel_rfl)) ?_
           refine tk 9 (some 40) mz41_10 hHeld (take_ofW HT_.out HW_.out (by kernel_rfl)) ?_
           refine one_ (i := 10) (N := some 41) mz41_11 rfl rfl (one_of HT_.out (by kernel_rfl)) (by decide) (fun K hK => ?_)
           refine goes_ Tryz.func42 (by kernel_rfl) rfl #[.agg #[.slice A0_0 l0_0.length c0_0, .slice A0_1 l0_1.length c0_1], .int .i64 (rd l1_2 0)] (by rfl) rfl rfl (by (try simp only [List.map_toArray, List.map_cons, List.map_nil]); first | done | rfl) ?_
           with_reducible refine (spec_l06Kind.calls kj7 _ _ l0_0 _ _ l0_1 (rd l1_2 0) t145 _ ?side1 ?side2 ?side3 ?side4 A21.out).mono ?_
           (case side1 => exact (Kd.C_below HR0_0.out HB.out))
           (case side2 => exact HC0_0.out)
           (case side3 => exact (Kd.C_below HR0_1.out HB.out))
           (case side4 => exact HC0_1.out)
           rintro e w32 ⟨rfl, hb⟩
           refine ⟨_, rfl, ?_⟩
           have n0_ := Aside0.mk (blk_below (by exact BK140.out) hb)
           have n1_ := Aside0.mk (blk_below (by exact BK141.out) hb)
           have n2_ := Aside0.mk (below_step (by repeat first | exact HB.out | apply pw_below_drewN) hb)
           clear BK140
           clear BK141
           clear HB
           have BK140 := n0_
           have BK141 := n1_
           have HB := n2_
           clear n0_ n1_ n2_
           (try clear hb)
           (try clear hb2)
           (try clear hk)
           (try clear hi)
           refine hK.out _ _ ⟨(blk_cell BK141.out 0).trans rfl, (blk_cell BK141.out 1).trans rfl, (blk_cell BK141.out 2).trans rfl, (blk_cell BK140.out 0).trans rfl, (blk_cell BK140.out 1).trans rfl, ((HB.out.cell (World.block_lt_of_cell? w _ hw144_0)).trans hw144_0)⟩ (fun hHeld => ?_)
           clear hK K
           refine norm_ (a' := ?_) ?_ ?_
           (rotate_left; ·(show Act.put _ (some 41) _ = _; simp only [Act.put, pq_z41]; rfl))
           refine pu 11 (some 42) mz41_12 (any_of HT_.out (by kernel_rfl)) ?_
           refine pu 12 (some 43) mz41_13 (any_of HT_.out (by kernel_rfl)) ?_
           refine po 13 (some 44) mz41_14 (any_of HT_.out (by kernel_rfl)) ?_
           refine po 14 (some 45) mz41_15 (any_of HT_.out (by kernel_rfl)) ?_
           refine po 15 (some 46) mz41_16 (any_of HT_.out (by kernel_rfl)) ?_
           refine po 16 (some 47) mz41_17 (any_of HT_.out (by kernel_rfl)) ?_
           refine po 17 (some 48) mz41_18 (any_of HT_.out (by kernel_rfl)) ?_
           refine po 18 (some 49) mz41_19 (any_of HT_.out (by kernel_rfl)) ?_
           refine pu 19 (some 50) mz41_20 (any_of HT_.out (by kernel_rfl)) ?_
           refine pu 20 (some 51) mz41_21 (any_of HT_.out (by kernel_rfl)) ?_
           refine done_ (done_of HT_.out (by kernel_rfl)) ?_
           try go_wp2
           go_ret
           exact ⟨by first | rfl | (simp [*, errW_none, errW_some] <;> rfl), by repeat first | exact HB.out | apply pw_below_drewN⟩
         ·rw [if_neg c20] at H
          exact absurd H (by simp)
        ·rw [if_neg c19] at H
         have c19b0 : (a1_1 == 3) = false := beq_eq_false_iff_ne.mpr c19
         have c19b1 : (a1_1 != 3) = true := bne_iff_ne.mpr c19
         have H' := Aside0.mk H
         clear H
         try go_wp2
         have n0_ := Aside0.mk (blk_drew BK140.out)
         have n1_ := Aside0.mk (blk_drew BK141.out)
         have n2_ := Aside0.mk (below_drew1 HB.out)
         clear BK140
         clear BK141
         clear HB
         have BK140 := n0_
         have BK141 := n1_
         have HB := n2_
         clear n0_ n1_ n2_
         refine start_ (n := 21) (S := fun w' => w'.cell? ⟨gb141, 0, none⟩ = some (.int .i64 a1_0) ∧ w'.cell? ⟨gb141, 1, none⟩ = some (.int .i64 a1_1) ∧ w'.cell? ⟨gb141, 2, none⟩ = some (.slice (some ad142) l1_2.length c1_2)) (ds := []) mz41_0 (by kernel_rfl) rfl rfl ⟨(blk_cell BK141.out 0).trans rfl, (blk_cell BK141.out 1).trans rfl, (blk_cell BK141.out 2).trans rfl⟩ (fun hHeld => ?_); refine with_tabW spec_l06Fits.tab7 spec_l06Fits.bits7 (fun HT_ HW_ => ?_)
         generalize wc.drew = w33 at BK140 BK141 HB hHeld ⊢
         refine pu 0 (some 31) mz41_1 (any_of HT_.out (by kernel_rfl)) ?_
         refine tk 1 (some 32) mz41_2 hHeld (take_ofW HT_.out HW_.out (by kernel_rfl)) ?_
         refine pu 2 (some 33) mz41_3 (any_of HT_.out (by kernel_rfl)) ?_
         refine pu 3 (some 34) mz41_4 (any_of HT_.out (by kernel_rfl)) ?_
         refine po 4 (some 35) mz41_5 (any_of HT_.out (by kernel_rfl)) ?_
         refine po 5 (some 36) mz41_22 (any_of HT_.out (by kernel_rfl)) ?_
         refine po 6 (some 37) mz41_7 (any_of HT_.out (by kernel_rfl)) ?_
         refine po 7 (some 38) mz41_8 (any_of HT_.out (by kernel_rfl)) ?_
         refine po 8 (some 39) mz41_9 (any_of HT_.out (by kernel_rfl)) ?_
         refine po 9 (some 40) mz41_10 (any_of HT_.out (by kernel_rfl)) ?_
         refine po 10 (some 41) mz41_11 (any_of HT_.out (by kernel_rfl)) ?_
         refine po 11 (some 42) mz41_12 (any_of HT_.out (by kernel_rfl)) ?_
         refine po 12 (some 43) mz41_13 (any_of HT_.out (by kernel_rfl)) ?_
         refine po 13 (some 44) mz41_14 (any_of HT_.out (by kernel_rfl)) ?_
         refine po 14 (some 45) mz41_15 (any_of HT_.out (by kernel_rfl)) ?_
         refine po 15 (some 46) mz41_16 (any_of HT_.out (by kernel_rfl)) ?_
         refine po 16 (some 47) mz41_17 (any_of HT_.out (by kernel_rfl)) ?_
         refine po 17 (some 48) mz41_18 (any_of HT_.out (by kernel_rfl)) ?_
         refine po 18 (some 49) mz41_19 (any_of HT_.out (by kernel_rfl)) ?_
         refine po 19 (some 50) mz41_20 (any_of HT_.out (by kernel_rfl)) ?_
         refine pu 20 (some 51) mz41_21 (any_of HT_.out (by kernel_rfl)) ?_
         refine done_ (done_of HT_.out (by kernel_rfl)) ?_
         try go_wp2
         go_roundg kj7
         case measure => have := HK1.out; have := HJ7.out; omega
         case rel => exact ⟨(wrap64 (x5_1 + 1)), (by first | rfl | (simp; done) | (simp [*]; done)), H', ⟨by have := HK1.out; have := HJ7.out; omega⟩, ⟨by exact BK140.out⟩, ⟨by exact BK141.out⟩, ⟨by repeat first | exact HB.out | apply pw_below_drewN⟩⟩
    ·rw [if_neg c6] at H
     exact absurd H (by simp)
   ·rw [if_neg c5] at H
    have c5b0 : decide (x5_1 < (l1_2.length : Int)) = false := decide_eq_false c5
    clear c5
    obtain rfl := Option.some.inj H
    have hcz35_0 := (blk_cell BK141.out 0).trans rfl
    have hcz35_1 := (blk_cell BK141.out 1).trans rfl
    have hcz35_2 := (blk_cell BK141.out 2).trans rfl
    go_wp2
    go_ret
    exact ⟨by first | rfl | (simp [*, errW_none, errW_some] <;> rfl), by repeat first | exact HB.out | apply pw_below_drewN⟩

/-! ### spec_l06OK: function 20 -/
mutual
def spec_l06OK.j0 : Nat → Bool → List (S72) → List (S68) → Option (Bool)
  | 0, _, _, _ => none
  | k + 1, x16, x147000, x147001 => if x16 = true then (some false) else (spec_l06OK.l0 k 0 x147000 x147001)
def spec_l06OK.l0 : Nat → Int → List (S72) → List (S68) → Option (Bool)
  | 0, _, _, _ => none
  | k + 1, x3, x147000, x147001 => if x3 < (x147001.length : Int) then (if 0 ≤ x3 then ((spec_l06Fits.f k x147000 x147001 ((rd_T68 x147001 x3).f0) ((rd_T68 x147001 x3).f1) ((rd_T68 x147001 x3).f2)).bind fun t151 => (if t151 = true then (spec_l06OK.l0 k (wrap64 (x3 + 1)) x147000 x147001) else (some false))) else (none)) else (some true)
end
def spec_l06OK.f (k : Nat) (l0_0 : List (S72)) (l0_1 : List (S68)) : Option (Bool) := (spec_l06Devices.f k l0_0 l0_1).bind fun t147 => (if t147 = true then ((spec_l06Buckets.f k l0_0 l0_1).bind fun t148 => (if t148 = true then ((spec_l06Once.f k l0_0 l0_1).bind fun t149 => (spec_l06OK.j0 k (!t149) l0_0 l0_1)) else (spec_l06OK.j0 k true l0_0 l0_1))) else (spec_l06OK.j0 k true l0_0 l0_1))
def spec_l06OK.T6 : Bool × List (List Nat × List Nat) := (true, [([], []), ([], []), ([1], [1]), ([], []), ([2, 3], [2, 3]), ([4], [4]), ([0, 5], [0, 5]), ([6], [6])])
def spec_l06OK.B6 : List Nat := [0, 0, 2, 0, 14, 30, 63, 127]
theorem spec_l06OK.tab6 : rtab .any (opsOf Tryz.f20 6) = spec_l06OK.T6 := by kernel_rfl
theorem spec_l06OK.bits6 : waitsOk spec_l06OK.T6.2 spec_l06OK.B6 = true := by kernel_rfl
theorem pu_z20 {P : Program} {ops : Array Oper} {Q : Exit → Act → World → Prop} {md : Region.Mode} {S : World → Prop} {ds : List Nat} {oi : Oper} {fuel : Nat} {l : Array Bool} {a : Act} {w : World} (i : Nat) (N : Option Tmp) (v : Value) (l' : Array Bool) (hi : ops[i]? = some oi) (hN : oi.dst = N) (hc : anyB md ops l l' i = true)
    (hQ : ∀ c a w, Q (.panic c) (a.put oi.dst v) w → Q (.panic c) a w) (hy : Yields P ops oi v a) (a' : Act) (ha : a.put N v = a')
    (h : wpAnyLast P md ops Q S ds fuel l' a' w) : wpAnyLast P md ops Q S ds (fuel + 1) l a w := pure_ l' hi hN hc hQ hy ha h
theorem pq_z20 : (∀ (l : List Value) (i : Nat) (v : Value), l.toArray.setIfInBounds i v = (l.set i v).toArray) ∧ (∀ (x v : Value) (xs : List Value), (x :: xs).set 0 v = v :: xs) ∧ (∀ (x v : Value) (xs : List Value) (n : Nat), (x :: xs).set (n + 1) v = x :: xs.set n v) ∧ (∀ n : Int, IntKind.i64.wrap n = Go.RowKit.wrap64 n) ∧ (∀ n : Int, IntKind.i32.wrap n = Go.RowKit.wrap32 n) :=
  ⟨fun l i v => List.setIfInBounds_toArray l i v, fun _ _ _ => rfl, fun _ _ _ _ => rfl, i64_w, i32_w⟩
set_option maxHeartbeats 8000000 in
set_option maxRecDepth 100000 in
theorem spec_l06OK.calls (k : Nat) (A0_0 : Option Addr) (c0_0 : Nat) (l0_0 : List (S72)) (A0_1 : Option Addr) (c0_1 : Nat) (l0_1 : List (S68)) (r : Bool) (w : World) (hr0_0 : Kd.C k72 w A0_0 l0_0.length l0_0) (hc0_0 : l0_0.length ≤ c0_0) (hr0_1 : Kd.C k68 w A0_1 l0_1.length l0_1) (hc0_1 : l0_1.length ≤ c0_1) (h : spec_l06OK.f k l0_0 l0_1 = some r) :
  Calls Tryz.prog 20 #[.agg #[.slice A0_0 l0_0.length c0_0, .slice A0_1 l0_1.length c0_1]] w fun e w' => e = .returned (.bool r) ∧ Below w.heap.size w w' := by
 have hu35 := Tryz.underlying35
 have hu68 := Tryz.underlying68
 have HR0_0 := Aside0.mk hr0_0
 have HC0_0 := Aside0.mk hc0_0
 clear hr0_0 hc0_0
 have HR0_1 := Aside0.mk hr0_1
 have HC0_1 := Aside0.mk hc0_1
 clear hr0_1 hc0_1
 have HB := Aside0.mk (Below.refl w.heap.size w)
 have H : ((spec_l06Devices.f k l0_0 l0_1).bind fun t147 => (if t147 = true then ((spec_l06Buckets.f k l0_0 l0_1).bind fun t148 => (if t148 = true then ((spec_l06Once.f k l0_0 l0_1).bind fun t149 => (spec_l06OK.j0 k (!t149) l0_0 l0_1)) else (spec_l06OK.j0 k true l0_0 l0_1))) else (spec_l06OK.j0 k true l0_0 l0_1))) = some r := h
 clear h
 have HC2 := Aside0.mk H
 clear H
 go_enter Tryz.func20, Tryz.ntmps20
 go_upto_region 1 with (first | ((with_reducible refine gate_dst (N := 1) rfl ?_); refine box_event ?hg (N := 1) ?hd (cs := #[.slice A0_0 l0_0.length c0_0, .slice A0_1 l0_1.length c0_1]) (t := 35) ?hr ?_; (case hd => rfl); (case hg => rfl); (case hr => first | (go_simp; done) | (go_simp; rfl)); intro gb146 hg w3 hbox hb; have n0_ := Aside0.mk (below_step (by repeat first | exact HB.out | apply pw_below_drewN) hb); have n1_ := Aside0.mk (hbox); clear HB; have HB := n0_; have BK146 := n1_; clear n0_ n1_; clear hb hbox hg))
 (try simp only [Act.put, List.setIfInBounds_toArray, List.set_cons_zero, List.set_cons_succ])
 go_cut [16] (fun v16 wc => ∃ (kq : Nat) (x16_1 : Bool), v16 = .bool x16_1 ∧ Aside0 (spec_l06OK.j0 kq x16_1 l0_0 l0_1 = some r) ∧ Aside0 (kq ≤ k) ∧ Aside0 (wc.heap[gb146]? = some (.cells #[(.slice A0_0 l0_0.length c0_0), (.slice A0_1 l0_1.length c0_1)] 35 (0, 0))) ∧ Aside0 (Below w.heap.size w wc))
 case first =>
  have H := HC2.out
  clear HC2
  replace H := Option.bind_eq_some_iff.mp H
  obtain ⟨t147, A40, H⟩ := H
  set_option simprocs false in try dsimp only at H
  have A4 := Aside0.mk A40
  clear A40
  by_cases c5 : t147 = true
  ·subst c5
   rw [if_pos rfl] at H
   replace H := Option.bind_eq_some_iff.mp H
   obtain ⟨t148, A60, H⟩ := H
   set_option simprocs false in try dsimp only at H
   have A6 := Aside0.mk A60
   clear A60
   by_cases c7 : t148 = true
   ·subst c7
    rw [if_pos rfl] at H
    replace H := Option.bind_eq_some_iff.mp H
    obtain ⟨t149, A80, H⟩ := H
    set_option simprocs false in try dsimp only at H
    have A8 := Aside0.mk A80
    clear A80
    have H' := Aside0.mk H
    clear H
    have hcz9_0 := (blk_cell BK146.out 0).trans rfl
    have hcz9_1 := (blk_cell BK146.out 1).trans rfl
    go_wp2_with (first | ((with_reducible refine gate_callee (f := 38) rfl ?_); refine gl (some 5) Tryz.func38 #[.agg #[.slice A0_0 l0_0.length c0_0, .slice A0_1 l0_1.length c0_1]] ?_; (with_reducible refine (spec_l06Devices.calls k _ _ l0_0 _ _ l0_1 true _ ?side1 ?side2 ?side3 ?side4 A4.out).mono ?_); (case side1 => exact (Kd.C_below HR0_0.out HB.out)); (case side2 => exact HC0_0.out); (case side3 => exact (Kd.C_below HR0_1.out HB.out)); (case side4 => exact HC0_1.out); rintro e w10 ⟨rfl, hb⟩; refine ⟨_, rfl, ?_⟩; have n0_ := Aside0.mk (blk_below (by exact BK146.out) hb); have n1_ := Aside0.mk (below_step (by repeat first | exact HB.out | apply pw_below_drewN) hb); clear BK146; clear HB; have BK146 := n0_; have HB := n1_; clear n0_ n1_; (try clear hb); (try clear hb2); (try clear hk); (try clear hi); have hcz11_0 := (blk_cell BK146.out 0).trans rfl; have hcz11_1 := (blk_cell BK146.out 1).trans rfl) | (go_at_call 39; (with_reducible refine (spec_l06Buckets.calls k _ _ l0_0 _ _ l0_1 true _ ?side1 ?side2 ?side3 ?side4 A6.out).mono ?_); (case side1 => exact (Kd.C_below HR0_0.out HB.out)); (case side2 => exact HC0_0.out); (case side3 => exact (Kd.C_below HR0_1.out HB.out)); (case side4 => exact HC0_1.out); rintro e w12 ⟨rfl, hb⟩; have n0_ := Aside0.mk (blk_below (by exact BK146.out) hb); have n1_ := Aside0.mk (below_step (by repeat first | exact HB.out | apply pw_below_drewN) hb); clear BK146; clear HB; have BK146 := n0_; have HB := n1_; clear n0_ n1_; (try clear hb); (try clear hb2); (try clear hk); (try clear hi); have hcz13_0 := (blk_cell BK146.out 0).trans rfl; have hcz13_1 := (blk_cell BK146.out 1).trans rfl) | (go_at_call 40; (with_reducible refine (spec_l06Once.calls k _ _ l0_0 _ _ l0_1 t149 _ ?side1 ?side2 ?side3 ?side4 A8.out).mono ?_); (case side1 => exact (Kd.C_below HR0_0.out HB.out)); (case side2 => exact HC0_0.out); (case side3 => exact (Kd.C_below HR0_1.out HB.out)); (case side4 => exact HC0_1.out); rintro e w14 ⟨rfl, hb⟩; have n0_ := Aside0.mk (blk_below (by exact BK146.out) hb); have n1_ := Aside0.mk (below_step (by repeat first | exact HB.out | apply pw_below_drewN) hb); clear BK146; clear HB; have BK146 := n0_; have HB := n1_; clear n0_ n1_; (try clear hb); (try clear hb2); (try clear hk); (try clear hi)))
    go_meet
    case rel => exact ⟨_, (!t149), (by first | rfl | (simp; done) | (simp [*]; done)), H', ⟨by first | omega | exact Nat.le_refl _⟩, ⟨by exact BK146.out⟩, ⟨by repeat first | exact HB.out | apply pw_below_drewN⟩⟩
   ·replace c7 := Bool.eq_false_iff.mpr c7
    subst c7
    rw [if_neg (show ¬ (false = true) by decide)] at H
    have H' := Aside0.mk H
    clear H
    have hcz15_0 := (blk_cell BK146.out 0).trans rfl
    have hcz15_1 := (blk_cell BK146.out 1).trans rfl
    go_wp2_with (first | ((with_reducible refine gate_callee (f := 38) rfl ?_); refine gl (some 5) Tryz.func38 #[.agg #[.slice A0_0 l0_0.length c0_0, .slice A0_1 l0_1.length c0_1]] ?_; (with_reducible refine (spec_l06Devices.calls k _ _ l0_0 _ _ l0_1 true _ ?side1 ?side2 ?side3 ?side4 A4.out).mono ?_); (case side1 => exact (Kd.C_below HR0_0.out HB.out)); (case side2 => exact HC0_0.out); (case side3 => exact (Kd.C_below HR0_1.out HB.out)); (case side4 => exact HC0_1.out); rintro e w16 ⟨rfl, hb⟩; refine ⟨_, rfl, ?_⟩; have n0_ := Aside0.mk (blk_below (by exact BK146.out) hb); have n1_ := Aside0.mk (below_step (by repeat first | exact HB.out | apply pw_below_drewN) hb); clear BK146; clear HB; have BK146 := n0_; have HB := n1_; clear n0_ n1_; (try clear hb); (try clear hb2); (try clear hk); (try clear hi); have hcz17_0 := (blk_cell BK146.out 0).trans rfl; have hcz17_1 := (blk_cell BK146.out 1).trans rfl) | (go_at_call 39; (with_reducible refine (spec_l06Buckets.calls k _ _ l0_0 _ _ l0_1 false _ ?side1 ?side2 ?side3 ?side4 A6.out).mono ?_); (case side1 => exact (Kd.C_below HR0_0.out HB.out)); (case side2 => exact HC0_0.out); (case side3 => exact (Kd.C_below HR0_1.out HB.out)); (case side4 => exact HC0_1.out); rintro e w18 ⟨rfl, hb⟩; have n0_ := Aside0.mk (blk_below (by exact BK146.out) hb); have n1_ := Aside0.mk (below_step (by repeat first | exact HB.out | apply pw_below_drewN) hb); clear BK146; clear HB; have BK146 := n0_; have HB := n1_; clear n0_ n1_; (try clear hb); (try clear hb2); (try clear hk); (try clear hi)))
    go_meet
    case rel => exact ⟨_, (true), (by first | rfl | (simp; done) | (simp [*]; done)), H', ⟨by first | omega | exact Nat.le_refl _⟩, ⟨by exact BK146.out⟩, ⟨by repeat first | exact HB.out | apply pw_below_drewN⟩⟩
  ·replace c5 := Bool.eq_false_iff.mpr c5
   subst c5
   rw [if_neg (show ¬ (false = true) by decide)] at H
   have H' := Aside0.mk H
   clear H
   have hcz19_0 := (blk_cell BK146.out 0).trans rfl
   have hcz19_1 := (blk_cell BK146.out 1).trans rfl
   go_wp2_with (first | ((with_reducible refine gate_callee (f := 38) rfl ?_); refine gl (some 5) Tryz.func38 #[.agg #[.slice A0_0 l0_0.length c0_0, .slice A0_1 l0_1.length c0_1]] ?_; (with_reducible refine (spec_l06Devices.calls k _ _ l0_0 _ _ l0_1 false _ ?side1 ?side2 ?side3 ?side4 A4.out).mono ?_); (case side1 => exact (Kd.C_below HR0_0.out HB.out)); (case side2 => exact HC0_0.out); (case side3 => exact (Kd.C_below HR0_1.out HB.out)); (case side4 => exact HC0_1.out); rintro e w20 ⟨rfl, hb⟩; refine ⟨_, rfl, ?_⟩; have n0_ := Aside0.mk (blk_below (by exact BK146.out) hb); have n1_ := Aside0.mk (below_step (by repeat first | exact HB.out | apply pw_below_drewN) hb); clear BK146; clear HB; have BK146 := n0_; have HB := n1_; clear n0_ n1_; (try clear hb); (try clear hb2); (try clear hk); (try clear hi)))
   go_meet
   case rel => exact ⟨_, (true), (by first | rfl | (simp; done) | (simp [*]; done)), H', ⟨by first | omega | exact Nat.le_refl _⟩, ⟨by exact BK146.out⟩, ⟨by repeat first | exact HB.out | apply pw_below_drewN⟩⟩
 case rest =>
  clear HC2
  try clear c2
  try clear p2
  try clear c3
  try clear c5
  try clear c7
  try clear c20
  try clear hcz11_0
  try clear hcz11_1
  try clear hcz13_0
  try clear hcz13_1
  try clear hcz15_0
  try clear hcz15_1
  try clear hcz17_0
  try clear hcz17_1
  try clear hcz19_0
  try clear hcz19_1
  try clear hcz9_0
  try clear hcz9_1
  obtain ⟨kq, x16_1, rfl, HA, HJ1, BK146, HB⟩ := hcut
  cases kq with
  | zero => exact absurd HA.out (by simp [spec_l06OK.j0])
  | succ kj1 =>
   have H := HA.out
   clear HA
   simp only [spec_l06OK.j0] at H
   by_cases c21 : x16_1 = true
   ·subst c21
    rw [if_pos rfl] at H
    obtain rfl := Option.some.inj H
    go_wp2
    go_ret
    exact ⟨by first | rfl | (simp [*, errW_none, errW_some] <;> rfl), by repeat first | exact HB.out | apply pw_below_drewN⟩
   ·replace c21 := Bool.eq_false_iff.mpr c21
    subst c21
    rw [if_neg (show ¬ (false = true) by decide)] at H
    have H' := Aside0.mk H
    clear H
    go_wp2
    go_loopg [3] kj1 (fun kq v3 w' => ∃ (x3_2 : Int), v3 = .int .i64 x3_2 ∧ Aside0 (spec_l06OK.l0 kq x3_2 l0_0 l0_1 = some r) ∧ Aside0 (kq ≤ kj1) ∧ Aside0 (w'.heap[gb146]? = some (.cells #[(.slice A0_0 l0_0.length c0_0), (.slice A0_1 l0_1.length c0_1)] 35 (0, 0))) ∧ Aside0 (Below w.heap.size w w'))
    case atStart => exact ⟨(0), (by first | rfl | (simp; done) | (simp [*]; done)), H', ⟨Nat.le_refl _⟩, ⟨by exact BK146.out⟩, ⟨by repeat first | exact HB.out | apply pw_below_drewN⟩⟩
    case round =>
     clear H'
     try clear c2
     try clear p2
     try clear c3
     try clear c5
     try clear c7
     try clear c20
     try clear c21
     try clear hcz11_0
     try clear hcz11_1
     try clear hcz13_0
     try clear hcz13_1
     try clear hcz15_0
     try clear hcz15_1
     try clear hcz17_0
     try clear hcz17_1
     try clear hcz19_0
     try clear hcz19_1
     try clear hcz9_0
     try clear hcz9_1
     try clear p2
     obtain ⟨x3_2, rfl, HA, HK2, BK146, HB⟩ := hrel
     cases gk with
     | zero => exact absurd HA.out (by simp [spec_l06OK.l0])
     | succ k2 =>
      have H := HA.out
      clear HA
      simp only [spec_l06OK.l0] at H
      by_cases c22 : x3_2 < (l0_1.length : Int)
      ·rw [if_pos c22] at H
       have c22b0 : decide (x3_2 < (l0_1.length : Int)) = true := decide_eq_true c22
       clear c22
       by_cases c23 : 0 ≤ x3_2
       ·rw [if_pos c23] at H
        have c23b0 : decide (0 ≤ x3_2) = true := decide_eq_true c23
        clear c23
        replace H := Option.bind_eq_some_iff.mp H
        obtain ⟨t151, A240, H⟩ := H
        set_option simprocs false in try dsimp only at H
        have A24 := Aside0.mk A240
        clear A240
        by_cases c25 : t151 = true
        ·subst c25
         rw [if_pos rfl] at H
         have H' := Aside0.mk H
         clear H
         have hcz26_0 := (blk_cell BK146.out 0).trans rfl
         have hcz26_1 := (blk_cell BK146.out 1).trans rfl
         try go_wp2
         have n0_ := Aside0.mk (blk_drew BK146.out)
         have n1_ := Aside0.mk (below_drew1 HB.out)
         clear BK146
         clear HB
         have BK146 := n0_
         have HB := n1_
         clear n0_ n1_
         have p150 : 0 ≤ (x3_2 : Int) := of_decide_eq_true (by assumption)
         have q150 : x3_2 < (l0_1.length : Int) := of_decide_eq_true (by assumption)
         obtain ⟨ad150, A150_2, c150_2, e150, hx150_0, hx150_1, hx150_2, hl150_2, hi150_2⟩ := at_T68 HR0_1.out x3_2 p150 q150
         have hw150_2 := hx150_2
         have hw150_1 := hx150_1
         have hw150_0 := hx150_0
         cases e150
         replace hx150_0 := (HB.out.cell (World.block_lt_of_cell? w _ hx150_0)).trans hx150_0
         replace hx150_1 := (HB.out.cell (World.block_lt_of_cell? w _ hx150_1)).trans hx150_1
         replace hx150_2 := (HB.out.cell (World.block_lt_of_cell? w _ hx150_2)).trans hx150_2
         have HR150_2 := Aside0.mk hi150_2
         have HC150_2 := Aside0.mk hl150_2
         clear hi150_2 hl150_2
         replace p150 := eq_true p150
         replace q150 := eq_true q150
         refine start_ (n := 8) (S := fun w' => w'.cell? ⟨gb146, 0, none⟩ = some (.slice A0_0 l0_0.length c0_0) ∧ w'.cell? ⟨gb146, 1, none⟩ = some (.slice (some ad150) l0_1.length c0_1) ∧ w'.cell? (ad150.add ((x3_2).toNat * 3)) = some (.int .i64 ((rd_T68 l0_1 x3_2).f0)) ∧ w'.cell? ⟨(ad150.add ((x3_2).toNat * 3)).block, (ad150.add ((x3_2).toNat * 3)).off + 1, none⟩ = some (.int .i64 ((rd_T68 l0_1 x3_2).f1)) ∧ w'.cell? ⟨(ad150.add ((x3_2).toNat * 3)).block, (ad150.add ((x3_2).toNat * 3)).off + 2, none⟩ = some (.slice A150_2 ((rd_T68 l0_1 x3_2).f2).length c150_2)) (ds := []) #[false, false, false, false, false, false, false, false] (by kernel_rfl) rfl rfl ⟨(blk_cell BK146.out 0).trans rfl, (blk_cell BK146.out 1).trans rfl, ((HB.out.cell (World.block_lt_of_cell? w _ hw150_0)).trans hw150_0), ((HB.out.cell (World.block_lt_of_cell? w _ hw150_1)).trans hw150_1), ((HB.out.cell (World.block_lt_of_cell? w _ hw150_2)).trans hw150_2)⟩ (fun hHeld => ?_); refine with_tabW spec_l06OK.tab6 spec_l06OK.bits6 (fun HT_ HW_ => ?_)
         generalize wr.drew = w27 at BK146 HB HR150_2 hx150_0 hx150_1 hx150_2 hHeld ⊢
         refine pu 1 (some 25) #[false, true, false, false, false, false, false, false] (any_of HT_.out (by kernel_rfl)) ?_
         refine pu 3 (some 27) #[false, true, false, true, false, false, false, false] (any_of HT_.out (by kernel_rfl)) ?_
         refine tk 0 (some 24) #[true, true, false, true, false, false, false, false] hHeld (take_ofW HT_.out HW_.out (by kernel_rfl)) ?_
         refine tk 2 (some 26) #[true, true, true, true, false, false, false, false] hHeld (take_ofW HT_.out HW_.out (by kernel_rfl)) ?_
         refine pu 4 (some 28) #[true, true, true, true, true, false, false, false] (any_of HT_.out (by kernel_rfl)) ?_
         refine tk 5 (some 29) #[true, true, true, true, true, true, false, false] hHeld (take_ofW HT_.out HW_.out (by kernel_rfl)) ?_
         refine one_ (i := 6) (N := some 30) #[true, true, true, true, true, true, true, false] rfl rfl (one_of HT_.out (by kernel_rfl)) (by decide) (fun K hK => ?_)
         refine goes_ Tryz.func41 (by kernel_rfl) rfl #[.agg #[.slice A0_0 l0_0.length c0_0, .slice (some ad150) l0_1.length c0_1], .agg #[.int .i64 ((rd_T68 l0_1 x3_2).f0), .int .i64 ((rd_T68 l0_1 x3_2).f1), .slice A150_2 ((rd_T68 l0_1 x3_2).f2).length c150_2]] (by rfl) rfl rfl (by (try simp only [List.map_toArray, List.map_cons, List.map_nil]); first | done | rfl) ?_
         with_reducible refine (spec_l06Fits.calls k2 _ _ l0_0 _ _ l0_1 ((rd_T68 l0_1 x3_2).f0) ((rd_T68 l0_1 x3_2).f1) _ _ ((rd_T68 l0_1 x3_2).f2) true _ ?side1 ?side2 ?side3 ?side4 ?side5 ?side6 A24.out).mono ?_
         (case side1 => exact (Kd.C_below HR0_0.out HB.out))
         (case side2 => exact HC0_0.out)
         (case side3 => exact (Kd.C_below HR0_1.out HB.out))
         (case side4 => exact HC0_1.out)
         (case side5 => exact (Kd.C_below HR150_2.out HB.out))
         (case side6 => exact HC150_2.out)
         rintro e w28 ⟨rfl, hb⟩
         refine ⟨_, rfl, ?_⟩
         have n0_ := Aside0.mk (blk_below (by exact BK146.out) hb)
         have n1_ := Aside0.mk (below_step (by repeat first | exact HB.out | apply pw_below_drewN) hb)
         clear BK146
         clear HB
         have BK146 := n0_
         have HB := n1_
         clear n0_ n1_
         (try clear hb)
         (try clear hb2)
         (try clear hk)
         (try clear hi)
         refine hK.out _ _ ⟨(blk_cell BK146.out 0).trans rfl, (blk_cell BK146.out 1).trans rfl, ((HB.out.cell (World.block_lt_of_cell? w _ hw150_0)).trans hw150_0), ((HB.out.cell (World.block_lt_of_cell? w _ hw150_1)).trans hw150_1), ((HB.out.cell (World.block_lt_of_cell? w _ hw150_2)).trans hw150_2)⟩ (fun hHeld => ?_)
         clear hK K
         refine norm_ (a' := ?_) ?_ ?_
         (rotate_left; ·(show Act.put _ (some 30) _ = _; simp only [Act.put, pq_z20]; rfl))
         refine pu 7 (some 31) #[true, true, true, true, true, true, true, true] (any_of HT_.out (by kernel_rfl)) ?_
         refine done_ (done_of HT_.out (by kernel_rfl)) ?_
         try go_wp2
         go_roundg k2
         case measure => have := HJ1.out; have := HK2.out; omega
         case rel => exact ⟨(wrap64 (x3_2 + 1)), (by first | rfl | (simp; done) | (simp [*]; done)), H', ⟨by have := HJ1.out; have := HK2.out; omega⟩, ⟨by exact BK146.out⟩, ⟨by repeat first | exact HB.out | apply pw_below_drewN⟩⟩
        ·replace c25 := Bool.eq_false_iff.mpr c25
         subst c25
         rw [if_neg (show ¬ (false = true) by decide)] at H
         obtain rfl := Option.some.inj H
         have hcz29_0 := (blk_cell BK146.out 0).trans rfl
         have hcz29_1 := (blk_cell BK146.out 1).trans rfl
         try go_wp2
         have n0_ := Aside0.mk (blk_drew BK146.out)
         have n1_ := Aside0.mk (below_drew1 HB.out)
         clear BK146
         clear HB
         have BK146 := n0_
         have HB := n1_
         clear n0_ n1_
         have p150 : 0 ≤ (x3_2 : Int) := of_decide_eq_true (by assumption)
         have q150 : x3_2 < (l0_1.length : Int) := of_decide_eq_true (by assumption)
         obtain ⟨ad150, A150_2, c150_2, e150, hx150_0, hx150_1, hx150_2, hl150_2, hi150_2⟩ := at_T68 HR0_1.out x3_2 p150 q150
         have hw150_2 := hx150_2
         have hw150_1 := hx150_1
         have hw150_0 := hx150_0
         cases e150
         replace hx150_0 := (HB.out.cell (World.block_lt_of_cell? w _ hx150_0)).trans hx150_0
         replace hx150_1 := (HB.out.cell (World.block_lt_of_cell? w _ hx150_1)).trans hx150_1
         replace hx150_2 := (HB.out.cell (World.block_lt_of_cell? w _ hx150_2)).trans hx150_2
         have HR150_2 := Aside0.mk hi150_2
         have HC150_2 := Aside0.mk hl150_2
         clear hi150_2 hl150_2
         replace p150 := eq_true p150
         replace q150 := eq_true q150
         refine start_ (n := 8) (S := fun w' => w'.cell? ⟨gb146, 0, none⟩ = some (.slice A0_0 l0_0.length c0_0) ∧ w'.cell? ⟨gb146, 1, none⟩ = some (.slice (some ad150) l0_1.length c0_1) ∧ w'.cell? (ad150.add ((x3_2).toNat * 3)) = some (.int .i64 ((rd_T68 l0_1 x3_2).f0)) ∧ w'.cell? ⟨(ad150.add ((x3_2).toNat * 3)).block, (ad150.add ((x3_2).toNat * 3)).off + 1, none⟩ = some (.int .i64 ((rd_T68 l0_1 x3_2).f1)) ∧ w'.cell? ⟨(ad150.add ((x3_2).toNat * 3)).block, (ad150.add ((x3_2).toNat * 3)).off + 2, none⟩ = some (.slice A150_2 ((rd_T68 l0_1 x3_2).f2).length c150_2)) (ds := []) #[false, false, false, false, false, false, false, false] (by kernel_rfl) rfl rfl ⟨(blk_cell BK146.out 0).trans rfl, (blk_cell BK146.out 1).trans rfl, ((HB.out.cell (World.block_lt_of_cell? w _ hw150_0)).trans hw150_0), ((HB.out.cell (World.block_lt_of_cell? w _ hw150_1)).trans hw150_1), ((HB.out.cell (World.block_lt_of_cell? w _ hw150_2)).trans hw150_2)⟩ (fun hHeld => ?_); refine with_tabW spec_l06OK.tab6 spec_l06OK.bits6 (fun HT_ HW_ => ?_)
         generalize wr.drew = w30 at BK146 HB HR150_2 hx150_0 hx150_1 hx150_2 hHeld ⊢
         refine pu 1 (some 25) #[false, true, false, false, false, false, false, false] (any_of HT_.out (by kernel_rfl)) ?_
         refine pu 3 (some 27) #[false, true, false, true, false, false, false, false] (any_of HT_.out (by kernel_rfl)) ?_
         refine tk 0 (some 24) #[true, true, false, true, false, false, false, false] hHeld (take_ofW HT_.out HW_.out (by kernel_rfl)) ?_
         refine tk 2 (some 26) #[true, true, true, true, false, false, false, false] hHeld (take_ofW HT_.out HW_.out (by kernel_rfl)) ?_
         refine pu 4 (some 28) #[true, true, true, true, true, false, false, false] (any_of HT_.out (by kernel_rfl)) ?_
         refine tk 5 (some 29) #[true, true, true, true, true, true, false, false] hHeld (take_ofW HT_.out HW_.out (by kernel_rfl)) ?_
         refine one_ (i := 6) (N := some 30) #[true, true, true, true, true, true, true, false] rfl rfl (one_of HT_.out (by kernel_rfl)) (by decide) (fun K hK => ?_)
         refine goes_ Tryz.func41 (by kernel_rfl) rfl #[.agg #[.slice A0_0 l0_0.length c0_0, .slice (some ad150) l0_1.length c0_1], .agg #[.int .i64 ((rd_T68 l0_1 x3_2).f0), .int .i64 ((rd_T68 l0_1 x3_2).f1), .slice A150_2 ((rd_T68 l0_1 x3_2).f2).length c150_2]] (by rfl) rfl rfl (by (try simp only [List.map_toArray, List.map_cons, List.map_nil]); first | done | rfl) ?_
         with_reducible refine (spec_l06Fits.calls k2 _ _ l0_0 _ _ l0_1 ((rd_T68 l0_1 x3_2).f0) ((rd_T68 l0_1 x3_2).f1) _ _ ((rd_T68 l0_1 x3_2).f2) false _ ?side1 ?side2 ?side3 ?side4 ?side5 ?side6 A24.out).mono ?_
         (case side1 => exact (Kd.C_below HR0_0.out HB.out))
         (case side2 => exact HC0_0.out)
         (case side3 => exact (Kd.C_below HR0_1.out HB.out))
         (case side4 => exact HC0_1.out)
         (case side5 => exact (Kd.C_below HR150_2.out HB.out))
         (case side6 => exact HC150_2.out)
         rintro e w31 ⟨rfl, hb⟩
         refine ⟨_, rfl, ?_⟩
         have n0_ := Aside0.mk (blk_below (by exact BK146.out) hb)
         have n1_ := Aside0.mk (below_step (by repeat first | exact HB.out | apply pw_below_drewN) hb)
         clear BK146
         clear HB
         have BK146 := n0_
         have HB := n1_
         clear n0_ n1_
         (try clear hb)
         (try clear hb2)
         (try clear hk)
         (try clear hi)
         refine hK.out _ _ ⟨(blk_cell BK146.out 0).trans rfl, (blk_cell BK146.out 1).trans rfl, ((HB.out.cell (World.block_lt_of_cell? w _ hw150_0)).trans hw150_0), ((HB.out.cell (World.block_lt_of_cell? w _ hw150_1)).trans hw150_1), ((HB.out.cell (World.block_lt_of_cell? w _ hw150_2)).trans hw150_2)⟩ (fun hHeld => ?_)
         clear hK K
         refine norm_ (a' := ?_) ?_ ?_
         (rotate_left; ·(show Act.put _ (some 30) _ = _; simp only [Act.put, pq_z20]; rfl))
         refine pu 7 (some 31) #[true, true, true, true, true, true, true, true] (any_of HT_.out (by kernel_rfl)) ?_
         refine done_ (done_of HT_.out (by kernel_rfl)) ?_
         try go_wp2
         go_ret
         exact ⟨by first | rfl | (simp [*, errW_none, errW_some] <;> rfl), by repeat first | exact HB.out | apply pw_below_drewN⟩
       ·rw [if_neg c23] at H
        exact absurd H (by simp)
      ·rw [if_neg c22] at H
       have c22b0 : decide (x3_2 < (l0_1.length : Int)) = false := decide_eq_false c22
       clear c22
       obtain rfl := Option.some.inj H
       have hcz32_0 := (blk_cell BK146.out 0).trans rfl
       have hcz32_1 := (blk_cell BK146.out 1).trans rfl
       go_wp2
       go_ret
       exact ⟨by first | rfl | (simp [*, errW_none, errW_some] <;> rfl), by repeat first | exact HB.out | apply pw_below_drewN⟩

/-! ### spec_l08OK: function 21 -/
def spec_l08OK.f (k : Nat) (l0_0 : List (S72)) (l0_1 : List (S68)) (a1_0 : Int) (a1_1 : Int) (a1_2 : Int) (a1_3 : Bool) : Option (Bool) := (spec_l00In.f a1_0 1 4).bind fun t154 => (if t154 = true then (if a1_1 < 0 then ((spec_l06Kind.f k l0_0 l0_1 a1_1).bind fun t155 => (if t155 = 3 then ((spec_l00In.f a1_2 0 2).bind fun t156 => (some t156)) else (some false))) else (some false)) else (some false))
set_option maxHeartbeats 8000000 in
set_option maxRecDepth 100000 in
theorem spec_l08OK.calls (k : Nat) (A0_0 : Option Addr) (c0_0 : Nat) (l0_0 : List (S72)) (A0_1 : Option Addr) (c0_1 : Nat) (l0_1 : List (S68)) (a1_0 : Int) (a1_1 : Int) (a1_2 : Int) (a1_3 : Bool) (r : Bool) (w : World) (hr0_0 : Kd.C k72 w A0_0 l0_0.length l0_0) (hc0_0 : l0_0.length ≤ c0_0) (hr0_1 : Kd.C k68 w A0_1 l0_1.length l0_1) (hc0_1 : l0_1.length ≤ c0_1) (h : spec_l08OK.f k l0_0 l0_1 a1_0 a1_1 a1_2 a1_3 = some r) :
  Calls Tryz.prog 21 #[.agg #[.slice A0_0 l0_0.length c0_0, .slice A0_1 l0_1.length c0_1], .agg #[.int .i64 a1_0, .int .i64 a1_1, .int .i64 a1_2, .bool a1_3]] w fun e w' => e = .returned (.bool r) ∧ Below w.heap.size w w' := by
 have hu35 := Tryz.underlying35
 have hu37 := Tryz.underlying37
 have HR0_0 := Aside0.mk hr0_0
 have HC0_0 := Aside0.mk hc0_0
 clear hr0_0 hc0_0
 have HR0_1 := Aside0.mk hr0_1
 have HC0_1 := Aside0.mk hc0_1
 clear hr0_1 hc0_1
 have HB := Aside0.mk (Below.refl w.heap.size w)
 have H : ((spec_l00In.f a1_0 1 4).bind fun t154 => (if t154 = true then (if a1_1 < 0 then ((spec_l06Kind.f k l0_0 l0_1 a1_1).bind fun t155 => (if t155 = 3 then ((spec_l00In.f a1_2 0 2).bind fun t156 => (some t156)) else (some false))) else (some false)) else (some false))) = some r := h
 clear h
 replace H := Option.bind_eq_some_iff.mp H
 obtain ⟨t154, A30, H⟩ := H
 set_option simprocs false in try dsimp only at H
 have A3 := Aside0.mk A30
 clear A30
 by_cases c4 : t154 = true
 ·subst c4
  rw [if_pos rfl] at H
  by_cases c5 : a1_1 < 0
  ·rw [if_pos c5] at H
   have c5b0 : decide (a1_1 < 0) = true := decide_eq_true c5
   clear c5
   replace H := Option.bind_eq_some_iff.mp H
   obtain ⟨t155, A60, H⟩ := H
   set_option simprocs false in try dsimp only at H
   have A6 := Aside0.mk A60
   clear A60
   by_cases c7 : t155 = 3
   ·rw [if_pos c7] at H
    have c7b0 : (t155 == 3) = true := beq_iff_eq.mpr c7
    have c7b1 : (t155 != 3) = false := bne_eq_false_iff_eq.mpr c7
    clear c7
    replace H := Option.bind_eq_some_iff.mp H
    obtain ⟨t156, A80, H⟩ := H
    set_option simprocs false in try dsimp only at H
    have A8 := Aside0.mk A80
    clear A80
    obtain rfl := Option.some.inj H
    go_enter Tryz.func21, Tryz.ntmps21
    go_wp2_with (first | ((with_reducible refine gate_dst (N := 2) rfl ?_); refine box_event ?hg (N := 2) ?hd (cs := #[.slice A0_0 l0_0.length c0_0, .slice A0_1 l0_1.length c0_1]) (t := 35) ?hr ?_; (case hd => rfl); (case hg => rfl); (case hr => first | (go_simp; done) | (go_simp; rfl)); intro gb152 hg w9 hbox hb; have n0_ := Aside0.mk (below_step (by repeat first | exact HB.out | apply pw_below_drewN) hb); have n1_ := Aside0.mk (hbox); clear HB; have HB := n0_; have BK152 := n1_; clear n0_ n1_; clear hb hbox hg) | ((with_reducible refine gate_dst (N := 3) rfl ?_); refine box_event ?hg (N := 3) ?hd (cs := #[.int .i64 a1_0, .int .i64 a1_1, .int .i64 a1_2, .bool a1_3]) (t := 37) ?hr ?_; (case hd => rfl); (case hg => rfl); (case hr => first | (go_simp; done) | (go_simp; rfl)); intro gb153 hg w10 hbox hb; have n0_ := Aside0.mk (blk_below (by exact BK152.out) hb); have n1_ := Aside0.mk (below_step (by repeat first | exact HB.out | apply pw_below_drewN) hb); have n2_ := Aside0.mk (hbox); clear BK152; clear HB; have BK152 := n0_; have HB := n1_; have BK153 := n2_; clear n0_ n1_ n2_; clear hb hbox hg; have hcz12_0 := (blk_cell BK153.out 0).trans rfl; have hcz12_1 := (blk_cell BK153.out 1).trans rfl; have hcz12_2 := (blk_cell BK153.out 2).trans rfl; have hcz12_3 := (blk_cell BK153.out 3).trans rfl) | ((with_reducible refine gate_callee (f := 22) rfl ?_); refine gl (some 7) Tryz.func22 #[.int .i64 a1_0, .int .i64 1, .int .i64 4] ?_; (with_reducible refine (spec_l00In.calls a1_0 1 4 true _ A3.out).mono ?_); rintro e w' ⟨rfl, ⟨nd, rfl⟩⟩; refine ⟨_, rfl, ?_⟩; have hcz13_0 := (blk_cell BK152.out 0).trans rfl; have hcz13_1 := (blk_cell BK152.out 1).trans rfl) | (go_at_call 42; (with_reducible refine (spec_l06Kind.calls k _ _ l0_0 _ _ l0_1 a1_1 t155 _ ?side1 ?side2 ?side3 ?side4 A6.out).mono ?_); (case side1 => exact (Kd.C_below HR0_0.out (by repeat first | exact HB.out | apply pw_below_drewN))); (case side2 => exact HC0_0.out); (case side3 => exact (Kd.C_below HR0_1.out (by repeat first | exact HB.out | apply pw_below_drewN))); (case side4 => exact HC0_1.out); rintro e w14 ⟨rfl, hb⟩; have n0_ := Aside0.mk (blk_below (by exact BK152.out) hb); have n1_ := Aside0.mk (blk_below (by exact BK153.out) hb); have n2_ := Aside0.mk (below_step (by repeat first | exact HB.out | apply pw_below_drewN) hb); clear BK152; clear BK153; clear HB; have BK152 := n0_; have BK153 := n1_; have HB := n2_; clear n0_ n1_ n2_; (try clear hb); (try clear hb2); (try clear hk); (try clear hi); have hcz15_0 := (blk_cell BK153.out 0).trans rfl; have hcz15_1 := (blk_cell BK153.out 1).trans rfl; have hcz15_2 := (blk_cell BK153.out 2).trans rfl; have hcz15_3 := (blk_cell BK153.out 3).trans rfl) | (go_at_call 22; (with_reducible refine (spec_l00In.calls a1_2 0 2 t156 _ A8.out).mono ?_); rintro e w' ⟨rfl, ⟨nd, rfl⟩⟩))
    go_ret
    exact ⟨by first | rfl | (simp [*, errW_none, errW_some] <;> rfl), by repeat first | exact HB.out | apply pw_below_drewN⟩
   ·rw [if_neg c7] at H
    have c7b0 : (t155 == 3) = false := beq_eq_false_iff_ne.mpr c7
    have c7b1 : (t155 != 3) = true := bne_iff_ne.mpr c7
    obtain rfl := Option.some.inj H
    go_enter Tryz.func21, Tryz.ntmps21
    go_wp2_with (first | ((with_reducible refine gate_dst (N := 2) rfl ?_); refine box_event ?hg (N := 2) ?hd (cs := #[.slice A0_0 l0_0.length c0_0, .slice A0_1 l0_1.length c0_1]) (t := 35) ?hr ?_; (case hd => rfl); (case hg => rfl); (case hr => first | (go_simp; done) | (go_simp; rfl)); intro gb152 hg w16 hbox hb; have n0_ := Aside0.mk (below_step (by repeat first | exact HB.out | apply pw_below_drewN) hb); have n1_ := Aside0.mk (hbox); clear HB; have HB := n0_; have BK152 := n1_; clear n0_ n1_; clear hb hbox hg) | ((with_reducible refine gate_dst (N := 3) rfl ?_); refine box_event ?hg (N := 3) ?hd (cs := #[.int .i64 a1_0, .int .i64 a1_1, .int .i64 a1_2, .bool a1_3]) (t := 37) ?hr ?_; (case hd => rfl); (case hg => rfl); (case hr => first | (go_simp; done) | (go_simp; rfl)); intro gb153 hg w17 hbox hb; have n0_ := Aside0.mk (blk_below (by exact BK152.out) hb); have n1_ := Aside0.mk (below_step (by repeat first | exact HB.out | apply pw_below_drewN) hb); have n2_ := Aside0.mk (hbox); clear BK152; clear HB; have BK152 := n0_; have HB := n1_; have BK153 := n2_; clear n0_ n1_ n2_; clear hb hbox hg; have hcz19_0 := (blk_cell BK153.out 0).trans rfl; have hcz19_1 := (blk_cell BK153.out 1).trans rfl; have hcz19_2 := (blk_cell BK153.out 2).trans rfl; have hcz19_3 := (blk_cell BK153.out 3).trans rfl) | ((with_reducible refine gate_callee (f := 22) rfl ?_); refine gl (some 7) Tryz.func22 #[.int .i64 a1_0, .int .i64 1, .int .i64 4] ?_; (with_reducible refine (spec_l00In.calls a1_0 1 4 true _ A3.out).mono ?_); rintro e w' ⟨rfl, ⟨nd, rfl⟩⟩; refine ⟨_, rfl, ?_⟩; have hcz20_0 := (blk_cell BK152.out 0).trans rfl; have hcz20_1 := (blk_cell BK152.out 1).trans rfl) | (go_at_call 42; (with_reducible refine (spec_l06Kind.calls k _ _ l0_0 _ _ l0_1 a1_1 t155 _ ?side1 ?side2 ?side3 ?side4 A6.out).mono ?_); (case side1 => exact (Kd.C_below HR0_0.out (by repeat first | exact HB.out | apply pw_below_drewN))); (case side2 => exact HC0_0.out); (case side3 => exact (Kd.C_below HR0_1.out (by repeat first | exact HB.out | apply pw_below_drewN))); (case side4 => exact HC0_1.out); rintro e w21 ⟨rfl, hb⟩; have n0_ := Aside0.mk (blk_below (by exact BK152.out) hb); have n1_ := Aside0.mk (blk_below (by exact BK153.out) hb); have n2_ := Aside0.mk (below_step (by repeat first | exact HB.out | apply pw_below_drewN) hb); clear BK152; clear BK153; clear HB; have BK152 := n0_; have BK153 := n1_; have HB := n2_; clear n0_ n1_ n2_; (try clear hb); (try clear hb2); (try clear hk); (try clear hi)))
    go_ret
    exact ⟨by first | rfl | (simp [*, errW_none, errW_some] <;> rfl), by repeat first | exact HB.out | apply pw_below_drewN⟩
  ·rw [if_neg c5] at H
   have c5b0 : decide (a1_1 < 0) = false := decide_eq_false c5
   clear c5
   obtain rfl := Option.some.inj H
   go_enter Tryz.func21, Tryz.ntmps21
   go_wp2_with (first | ((with_reducible refine gate_dst (N := 2) rfl ?_); refine box_event ?hg (N := 2) ?hd (cs := #[.slice A0_0 l0_0.length c0_0, .slice A0_1 l0_1.length c0_1]) (t := 35) ?hr ?_; (case hd => rfl); (case hg => rfl); (case hr => first | (go_simp; done) | (go_simp; rfl)); intro gb152 hg w22 hbox hb; have n0_ := Aside0.mk (below_step (by repeat first | exact HB.out | apply pw_below_drewN) hb); have n1_ := Aside0.mk (hbox); clear HB; have HB := n0_; have BK152 := n1_; clear n0_ n1_; clear hb hbox hg) | ((with_reducible refine gate_dst (N := 3) rfl ?_); refine box_event ?hg (N := 3) ?hd (cs := #[.int .i64 a1_0, .int .i64 a1_1, .int .i64 a1_2, .bool a1_3]) (t := 37) ?hr ?_; (case hd => rfl); (case hg => rfl); (case hr => first | (go_simp; done) | (go_simp; rfl)); intro gb153 hg w23 hbox hb; have n0_ := Aside0.mk (blk_below (by exact BK152.out) hb); have n1_ := Aside0.mk (below_step (by repeat first | exact HB.out | apply pw_below_drewN) hb); have n2_ := Aside0.mk (hbox); clear BK152; clear HB; have BK152 := n0_; have HB := n1_; have BK153 := n2_; clear n0_ n1_ n2_; clear hb hbox hg; have hcz25_0 := (blk_cell BK153.out 0).trans rfl; have hcz25_1 := (blk_cell BK153.out 1).trans rfl; have hcz25_2 := (blk_cell BK153.out 2).trans rfl; have hcz25_3 := (blk_cell BK153.out 3).trans rfl) | ((with_reducible refine gate_callee (f := 22) rfl ?_); refine gl (some 7) Tryz.func22 #[.int .i64 a1_0, .int .i64 1, .int .i64 4] ?_; (with_reducible refine (spec_l00In.calls a1_0 1 4 true _ A3.out).mono ?_); rintro e w' ⟨rfl, ⟨nd, rfl⟩⟩; refine ⟨_, rfl, ?_⟩))
   go_ret
   exact ⟨by first | rfl | (simp [*, errW_none, errW_some] <;> rfl), by repeat first | exact HB.out | apply pw_below_drewN⟩
 ·replace c4 := Bool.eq_false_iff.mpr c4
  subst c4
  rw [if_neg (show ¬ (false = true) by decide)] at H
  obtain rfl := Option.some.inj H
  go_enter Tryz.func21, Tryz.ntmps21
  go_wp2_with (first | ((with_reducible refine gate_dst (N := 2) rfl ?_); refine box_event ?hg (N := 2) ?hd (cs := #[.slice A0_0 l0_0.length c0_0, .slice A0_1 l0_1.length c0_1]) (t := 35) ?hr ?_; (case hd => rfl); (case hg => rfl); (case hr => first | (go_simp; done) | (go_simp; rfl)); intro gb152 hg w26 hbox hb; have n0_ := Aside0.mk (below_step (by repeat first | exact HB.out | apply pw_below_drewN) hb); have n1_ := Aside0.mk (hbox); clear HB; have HB := n0_; have BK152 := n1_; clear n0_ n1_; clear hb hbox hg) | ((with_reducible refine gate_dst (N := 3) rfl ?_); refine box_event ?hg (N := 3) ?hd (cs := #[.int .i64 a1_0, .int .i64 a1_1, .int .i64 a1_2, .bool a1_3]) (t := 37) ?hr ?_; (case hd => rfl); (case hg => rfl); (case hr => first | (go_simp; done) | (go_simp; rfl)); intro gb153 hg w27 hbox hb; have n0_ := Aside0.mk (blk_below (by exact BK152.out) hb); have n1_ := Aside0.mk (below_step (by repeat first | exact HB.out | apply pw_below_drewN) hb); have n2_ := Aside0.mk (hbox); clear BK152; clear HB; have BK152 := n0_; have HB := n1_; have BK153 := n2_; clear n0_ n1_ n2_; clear hb hbox hg; have hcz29_0 := (blk_cell BK153.out 0).trans rfl; have hcz29_1 := (blk_cell BK153.out 1).trans rfl; have hcz29_2 := (blk_cell BK153.out 2).trans rfl; have hcz29_3 := (blk_cell BK153.out 3).trans rfl) | ((with_reducible refine gate_callee (f := 22) rfl ?_); refine gl (some 7) Tryz.func22 #[.int .i64 a1_0, .int .i64 1, .int .i64 4] ?_; (with_reducible refine (spec_l00In.calls a1_0 1 4 false _ A3.out).mono ?_); rintro e w' ⟨rfl, ⟨nd, rfl⟩⟩; refine ⟨_, rfl, ?_⟩))
  go_ret
  exact ⟨by first | rfl | (simp [*, errW_none, errW_some] <;> rfl), by repeat first | exact HB.out | apply pw_below_drewN⟩

/-! ### spec_l00Rises: function 33 -/
def spec_l00Rises.l0 : Nat → List Int → Int → Int → Int → Option (Bool)
 | 0, _, _, _, _ => none
 | k + 1, x0, x1, x2, x7 => if x7 < (x0.length : Int) then (if 0 ≤ x7 then ((spec_l00In.f (rd x0 x7) x1 x2).bind fun t434 => (if t434 = true then (if x7 > 0 then (if 0 ≤ (wrap64 (x7 - 1)) then (if (wrap64 (x7 - 1)) < (x0.length : Int) then (if (rd x0 (wrap64 (x7 - 1))) ≥ (rd x0 x7) then (some false) else (spec_l00Rises.l0 k x0 x1 x2 (wrap64 (x7 + 1)))) else (none)) else (none)) else (spec_l00Rises.l0 k x0 x1 x2 (wrap64 (x7 + 1)))) else (some false))) else (none)) else (some true)
def spec_l00Rises.f (k : Nat) (l0 : List Int) (a1 : Int) (a2 : Int) : Option (Bool) := spec_l00Rises.l0 k l0 a1 a2 0
set_option maxHeartbeats 8000000 in
set_option maxRecDepth 100000 in
theorem spec_l00Rises.calls (k : Nat) (A0 : Option Addr) (c0 : Nat) (l0 : List Int) (a1 : Int) (a2 : Int) (r : Bool) (w : World) (hr0 : Kd.C (Kd.int .i64) w A0 l0.length l0) (hc0 : l0.length ≤ c0) (h : spec_l00Rises.f k l0 a1 a2 = some r) :
  Calls Tryz.prog 33 #[.slice A0 l0.length c0, .int .i64 a1, .int .i64 a2] w fun e w' => e = .returned (.bool r) ∧ Drawn0 w w' := by
 have HR0 := Aside0.mk hr0
 have HC0 := Aside0.mk hc0
 clear hr0 hc0
 have H : (spec_l00Rises.l0 k l0 a1 a2 0) = some r := h
 clear h
 have H' := Aside0.mk H
 clear H
 go_enter Tryz.func33, Tryz.ntmps33
 go_wp2
 repeat (go_quiet (fail); try go_wp2)
 go_loopg [7] k (fun kq v7 w' => ∃ (x7_1 : Int), v7 = .int .i64 x7_1 ∧ Aside0 (spec_l00Rises.l0 kq l0 a1 a2 x7_1 = some r) ∧ Aside0 (kq ≤ k) ∧ Drawn0 w w')
 case atStart => exact ⟨(0), (by first | rfl | (simp; done) | (simp [*]; done)), H', ⟨Nat.le_refl _⟩, by repeat (first | exact Drawn0.refl _ | apply Drawn0.step)⟩
 case round =>
  clear H'
  try clear p2
  try clear c3
  obtain ⟨x7_1, rfl, HA, HK1, ⟨m1, rfl⟩⟩ := hrel
  cases gk with
  | zero => exact absurd HA.out (by simp [spec_l00Rises.l0])
  | succ k1 =>
   have H := HA.out
   clear HA
   simp only [spec_l00Rises.l0] at H
   by_cases c4 : x7_1 < (l0.length : Int)
   ·rw [if_pos c4] at H
    have c4b0 : decide (x7_1 < (l0.length : Int)) = true := decide_eq_true c4
    clear c4
    by_cases c5 : 0 ≤ x7_1
    ·rw [if_pos c5] at H
     have c5b0 : decide (0 ≤ x7_1) = true := decide_eq_true c5
     clear c5
     replace H := Option.bind_eq_some_iff.mp H
     obtain ⟨t434, A60, H⟩ := H
     set_option simprocs false in try dsimp only at H
     have A6 := Aside0.mk A60
     clear A60
     by_cases c7 : t434 = true
     ·subst c7
      rw [if_pos rfl] at H
      by_cases c8 : x7_1 > 0
      ·rw [if_pos c8] at H
       have c8b0 : decide (0 < x7_1) = true := decide_eq_true c8
       clear c8
       obtain ⟨ji9, hji9⟩ : ∃ j_ : Int, (wrap64 (x7_1 - 1)) = j_ := ⟨_, rfl⟩
       replace H : (if 0 ≤ (ji9) then (if (ji9) < (l0.length : Int) then (if (rd l0 (ji9)) ≥ (rd l0 x7_1) then (some false) else (spec_l00Rises.l0 k1 l0 a1 a2 (wrap64 (x7_1 + 1)))) else (none)) else (none)) = some r := by first | (rw [hji9] at H; exact H) | (simp only [hji9] at H ⊢; exact H)
       (try rw [hji9] at A6)
       have hji9w : (IntKind.i64.wrap (x7_1 - 1)) = ji9 := (i64_w _).trans hji9
       by_cases c10 : 0 ≤ (ji9)
       ·rw [if_pos c10] at H
        have c10b0 : decide (0 ≤ (ji9)) = true := decide_eq_true c10
        clear c10
        by_cases c11 : (ji9) < (l0.length : Int)
        ·rw [if_pos c11] at H
         have c11b0 : decide ((ji9) < (l0.length : Int)) = true := decide_eq_true c11
         clear c11
         by_cases c12 : (rd l0 (ji9)) ≥ (rd l0 x7_1)
         ·rw [if_pos c12] at H
          have c12b0 : decide ((rd l0 x7_1) ≤ (rd l0 (ji9))) = true := decide_eq_true c12
          clear c12
          obtain rfl := Option.some.inj H
          have p433 : 0 ≤ (x7_1 : Int) := of_decide_eq_true (by assumption)
          have q433 : x7_1 < (l0.length : Int) := of_decide_eq_true (by assumption)
          obtain ⟨ad433, e433, hx433_0⟩ := Kd.at_int HR0.out x7_1 p433 q433
          cases e433
          replace p433 := eq_true p433
          replace q433 := eq_true q433
          go_wp2_with (first | (go_at_call 22; (with_reducible refine (spec_l00In.calls (rd l0 x7_1) a1 a2 true _ A6.out).mono ?_); rintro e w' ⟨rfl, ⟨nd, rfl⟩⟩; (try first | exact ⟨rfl, _, World.drewN_drewN _ _ _⟩ | exact ⟨rfl, _, Eq.trans (World.drewN_drewN _ _ _) (congrArg (World.drewN _) (Nat.add_assoc _ _ _))⟩); have p435 : 0 ≤ ((ji9) : Int) := of_decide_eq_true (by assumption); have q435 : (ji9) < (l0.length : Int) := of_decide_eq_true (by assumption); obtain ⟨ad435, e435, hx435_0⟩ := Kd.at_int HR0.out (ji9) p435 q435; obtain rfl : ad433 = ad435 := (by injection e435); replace p435 := eq_true p435; replace q435 := eq_true q435; have p436 : 0 ≤ (x7_1 : Int) := of_decide_eq_true (by assumption); have q436 : x7_1 < (l0.length : Int) := of_decide_eq_true (by assumption); obtain ⟨ad436, e436, hx436_0⟩ := Kd.at_int HR0.out x7_1 p436 q436; obtain rfl : ad433 = ad436 := (by injection e436); replace p436 := eq_true p436; replace q436 := eq_true q436))
          repeat (go_quiet (first | (go_at_call 22; (with_reducible refine (spec_l00In.calls (rd l0 x7_1) a1 a2 true _ A6.out).mono ?_); rintro e w' ⟨rfl, ⟨nd, rfl⟩⟩; (try first | exact ⟨rfl, _, World.drewN_drewN _ _ _⟩ | exact ⟨rfl, _, Eq.trans (World.drewN_drewN _ _ _) (congrArg (World.drewN _) (Nat.add_assoc _ _ _))⟩); have p435 : 0 ≤ ((ji9) : Int) := of_decide_eq_true (by assumption); have q435 : (ji9) < (l0.length : Int) := of_decide_eq_true (by assumption); obtain ⟨ad435, e435, hx435_0⟩ := Kd.at_int HR0.out (ji9) p435 q435; obtain rfl : ad433 = ad435 := (by injection e435); replace p435 := eq_true p435; replace q435 := eq_true q435; have p436 : 0 ≤ (x7_1 : Int) := of_decide_eq_true (by assumption); have q436 : x7_1 < (l0.length : Int) := of_decide_eq_true (by assumption); obtain ⟨ad436, e436, hx436_0⟩ := Kd.at_int HR0.out x7_1 p436 q436; obtain rfl : ad433 = ad436 := (by injection e436); replace p436 := eq_true p436; replace q436 := eq_true q436)); try go_wp2_with (first | (go_at_call 22; (with_reducible refine (spec_l00In.calls (rd l0 x7_1) a1 a2 true _ A6.out).mono ?_); rintro e w' ⟨rfl, ⟨nd, rfl⟩⟩; (try first | exact ⟨rfl, _, World.drewN_drewN _ _ _⟩ | exact ⟨rfl, _, Eq.trans (World.drewN_drewN _ _ _) (congrArg (World.drewN _) (Nat.add_assoc _ _ _))⟩); have p435 : 0 ≤ ((ji9) : Int) := of_decide_eq_true (by assumption); have q435 : (ji9) < (l0.length : Int) := of_decide_eq_true (by assumption); obtain ⟨ad435, e435, hx435_0⟩ := Kd.at_int HR0.out (ji9) p435 q435; obtain rfl : ad433 = ad435 := (by injection e435); replace p435 := eq_true p435; replace q435 := eq_true q435; have p436 : 0 ≤ (x7_1 : Int) := of_decide_eq_true (by assumption); have q436 : x7_1 < (l0.length : Int) := of_decide_eq_true (by assumption); obtain ⟨ad436, e436, hx436_0⟩ := Kd.at_int HR0.out x7_1 p436 q436; obtain rfl : ad433 = ad436 := (by injection e436); replace p436 := eq_true p436; replace q436 := eq_true q436)))
          go_ret
          exact ⟨by first | rfl | (simp; done) | (simp only [← hji9] <;> (first | rfl | simp)) | (simp [*]; done), by repeat (first | exact Drawn0.refl _ | apply Drawn0.step)⟩
         ·rw [if_neg c12] at H
          have c12b0 : decide ((rd l0 x7_1) ≤ (rd l0 (ji9))) = false := decide_eq_false c12
          clear c12
          have H' := Aside0.mk H
          clear H
          have p433 : 0 ≤ (x7_1 : Int) := of_decide_eq_true (by assumption)
          have q433 : x7_1 < (l0.length : Int) := of_decide_eq_true (by assumption)
          obtain ⟨ad433, e433, hx433_0⟩ := Kd.at_int HR0.out x7_1 p433 q433
          cases e433
          replace p433 := eq_true p433
          replace q433 := eq_true q433
          go_wp2_with (first | (go_at_call 22; (with_reducible refine (spec_l00In.calls (rd l0 x7_1) a1 a2 true _ A6.out).mono ?_); rintro e w' ⟨rfl, ⟨nd, rfl⟩⟩; (try first | exact ⟨rfl, _, World.drewN_drewN _ _ _⟩ | exact ⟨rfl, _, Eq.trans (World.drewN_drewN _ _ _) (congrArg (World.drewN _) (Nat.add_assoc _ _ _))⟩); have p435 : 0 ≤ ((ji9) : Int) := of_decide_eq_true (by assumption); have q435 : (ji9) < (l0.length : Int) := of_decide_eq_true (by assumption); obtain ⟨ad435, e435, hx435_0⟩ := Kd.at_int HR0.out (ji9) p435 q435; obtain rfl : ad433 = ad435 := (by injection e435); replace p435 := eq_true p435; replace q435 := eq_true q435; have p436 : 0 ≤ (x7_1 : Int) := of_decide_eq_true (by assumption); have q436 : x7_1 < (l0.length : Int) := of_decide_eq_true (by assumption); obtain ⟨ad436, e436, hx436_0⟩ := Kd.at_int HR0.out x7_1 p436 q436; obtain rfl : ad433 = ad436 := (by injection e436); replace p436 := eq_true p436; replace q436 := eq_true q436))
          repeat (go_quiet (first | (go_at_call 22; (with_reducible refine (spec_l00In.calls (rd l0 x7_1) a1 a2 true _ A6.out).mono ?_); rintro e w' ⟨rfl, ⟨nd, rfl⟩⟩; (try first | exact ⟨rfl, _, World.drewN_drewN _ _ _⟩ | exact ⟨rfl, _, Eq.trans (World.drewN_drewN _ _ _) (congrArg (World.drewN _) (Nat.add_assoc _ _ _))⟩); have p435 : 0 ≤ ((ji9) : Int) := of_decide_eq_true (by assumption); have q435 : (ji9) < (l0.length : Int) := of_decide_eq_true (by assumption); obtain ⟨ad435, e435, hx435_0⟩ := Kd.at_int HR0.out (ji9) p435 q435; obtain rfl : ad433 = ad435 := (by injection e435); replace p435 := eq_true p435; replace q435 := eq_true q435; have p436 : 0 ≤ (x7_1 : Int) := of_decide_eq_true (by assumption); have q436 : x7_1 < (l0.length : Int) := of_decide_eq_true (by assumption); obtain ⟨ad436, e436, hx436_0⟩ := Kd.at_int HR0.out x7_1 p436 q436; obtain rfl : ad433 = ad436 := (by injection e436); replace p436 := eq_true p436; replace q436 := eq_true q436)); try go_wp2_with (first | (go_at_call 22; (with_reducible refine (spec_l00In.calls (rd l0 x7_1) a1 a2 true _ A6.out).mono ?_); rintro e w' ⟨rfl, ⟨nd, rfl⟩⟩; (try first | exact ⟨rfl, _, World.drewN_drewN _ _ _⟩ | exact ⟨rfl, _, Eq.trans (World.drewN_drewN _ _ _) (congrArg (World.drewN _) (Nat.add_assoc _ _ _))⟩); have p435 : 0 ≤ ((ji9) : Int) := of_decide_eq_true (by assumption); have q435 : (ji9) < (l0.length : Int) := of_decide_eq_true (by assumption); obtain ⟨ad435, e435, hx435_0⟩ := Kd.at_int HR0.out (ji9) p435 q435; obtain rfl : ad433 = ad435 := (by injection e435); replace p435 := eq_true p435; replace q435 := eq_true q435; have p436 : 0 ≤ (x7_1 : Int) := of_decide_eq_true (by assumption); have q436 : x7_1 < (l0.length : Int) := of_decide_eq_true (by assumption); obtain ⟨ad436, e436, hx436_0⟩ := Kd.at_int HR0.out x7_1 p436 q436; obtain rfl : ad433 = ad436 := (by injection e436); replace p436 := eq_true p436; replace q436 := eq_true q436)))
          go_roundg k1
          case measure => have := HK1.out; omega
          case rel => exact ⟨(wrap64 (x7_1 + 1)), (by first | rfl | (simp; done) | (simp [*]; done)), H', ⟨by have := HK1.out; omega⟩, by repeat (first | exact Drawn0.refl _ | apply Drawn0.step)⟩
        ·rw [if_neg c11] at H
         exact absurd H (by simp)
       ·rw [if_neg c10] at H
        exact absurd H (by simp)
      ·rw [if_neg c8] at H
       have c8b0 : decide (0 < x7_1) = false := decide_eq_false c8
       clear c8
       have H' := Aside0.mk H
       clear H
       have p433 : 0 ≤ (x7_1 : Int) := of_decide_eq_true (by assumption)
       have q433 : x7_1 < (l0.length : Int) := of_decide_eq_true (by assumption)
       obtain ⟨ad433, e433, hx433_0⟩ := Kd.at_int HR0.out x7_1 p433 q433
       cases e433
       replace p433 := eq_true p433
       replace q433 := eq_true q433
       go_wp2_with (first | (go_at_call 22; (with_reducible refine (spec_l00In.calls (rd l0 x7_1) a1 a2 true _ A6.out).mono ?_); rintro e w' ⟨rfl, ⟨nd, rfl⟩⟩; (try first | exact ⟨rfl, _, World.drewN_drewN _ _ _⟩ | exact ⟨rfl, _, Eq.trans (World.drewN_drewN _ _ _) (congrArg (World.drewN _) (Nat.add_assoc _ _ _))⟩)))
       repeat (go_quiet (first | (go_at_call 22; (with_reducible refine (spec_l00In.calls (rd l0 x7_1) a1 a2 true _ A6.out).mono ?_); rintro e w' ⟨rfl, ⟨nd, rfl⟩⟩; (try first | exact ⟨rfl, _, World.drewN_drewN _ _ _⟩ | exact ⟨rfl, _, Eq.trans (World.drewN_drewN _ _ _) (congrArg (World.drewN _) (Nat.add_assoc _ _ _))⟩))); try go_wp2_with (first | (go_at_call 22; (with_reducible refine (spec_l00In.calls (rd l0 x7_1) a1 a2 true _ A6.out).mono ?_); rintro e w' ⟨rfl, ⟨nd, rfl⟩⟩; (try first | exact ⟨rfl, _, World.drewN_drewN _ _ _⟩ | exact ⟨rfl, _, Eq.trans (World.drewN_drewN _ _ _) (congrArg (World.drewN _) (Nat.add_assoc _ _ _))⟩))))
       go_roundg k1
       case measure => have := HK1.out; omega
       case rel => exact ⟨(wrap64 (x7_1 + 1)), (by first | rfl | (simp; done) | (simp [*]; done)), H', ⟨by have := HK1.out; omega⟩, by repeat (first | exact Drawn0.refl _ | apply Drawn0.step)⟩
     ·replace c7 := Bool.eq_false_iff.mpr c7
      subst c7
      rw [if_neg (show ¬ (false = true) by decide)] at H
      obtain rfl := Option.some.inj H
      have p433 : 0 ≤ (x7_1 : Int) := of_decide_eq_true (by assumption)
      have q433 : x7_1 < (l0.length : Int) := of_decide_eq_true (by assumption)
      obtain ⟨ad433, e433, hx433_0⟩ := Kd.at_int HR0.out x7_1 p433 q433
      cases e433
      replace p433 := eq_true p433
      replace q433 := eq_true q433
      go_wp2_with (first | (go_at_call 22; (with_reducible refine (spec_l00In.calls (rd l0 x7_1) a1 a2 false _ A6.out).mono ?_); rintro e w' ⟨rfl, ⟨nd, rfl⟩⟩; (try first | exact ⟨rfl, _, World.drewN_drewN _ _ _⟩ | exact ⟨rfl, _, Eq.trans (World.drewN_drewN _ _ _) (congrArg (World.drewN _) (Nat.add_assoc _ _ _))⟩)))
      repeat (go_quiet (first | (go_at_call 22; (with_reducible refine (spec_l00In.calls (rd l0 x7_1) a1 a2 false _ A6.out).mono ?_); rintro e w' ⟨rfl, ⟨nd, rfl⟩⟩; (try first | exact ⟨rfl, _, World.drewN_drewN _ _ _⟩ | exact ⟨rfl, _, Eq.trans (World.drewN_drewN _ _ _) (congrArg (World.drewN _) (Nat.add_assoc _ _ _))⟩))); try go_wp2_with (first | (go_at_call 22; (with_reducible refine (spec_l00In.calls (rd l0 x7_1) a1 a2 false _ A6.out).mono ?_); rintro e w' ⟨rfl, ⟨nd, rfl⟩⟩; (try first | exact ⟨rfl, _, World.drewN_drewN _ _ _⟩ | exact ⟨rfl, _, Eq.trans (World.drewN_drewN _ _ _) (congrArg (World.drewN _) (Nat.add_assoc _ _ _))⟩))))
      go_ret
      exact ⟨by first | rfl | (simp; done) | (simp [*]; done), by repeat (first | exact Drawn0.refl _ | apply Drawn0.step)⟩
    ·rw [if_neg c5] at H
     exact absurd H (by simp)
   ·rw [if_neg c4] at H
    have c4b0 : decide (x7_1 < (l0.length : Int)) = false := decide_eq_false c4
    clear c4
    obtain rfl := Option.some.inj H
    go_wp2
    repeat (go_quiet (fail); try go_wp2)
    go_ret
    exact ⟨by first | rfl | (simp; done) | (simp [*]; done), by repeat (first | exact Drawn0.refl _ | apply Drawn0.step)⟩

/-! ### spec_l00Put: function 100 -/
mutual
def spec_l00Put.l0 : Nat → List Int → Int → List Int → Bool → Int → Option (List Int)
 | 0, _, _, _, _, _ => none
 | k + 1, x0, x1, x5, x6, x7 => if x7 < (x0.length : Int) then (if x6 = true then (spec_l00Put.j1 k x0 x1 x5 x6 x7 false) else (if 0 ≤ x7 then (spec_l00Put.j1 k x0 x1 x5 x6 x7 (decide ((rd x0 x7) ≥ x1))) else (none))) else (if x6 = true then (some x5) else (if x5.length < 17592186044416 then (some (x5 ++ [x1])) else (none)))
def spec_l00Put.j1 : Nat → List Int → Int → List Int → Bool → Int → Bool → Option (List Int)
 | 0, _, _, _, _, _, _ => none
 | k + 1, x0, x1, x5, x6, x7, x24 => if x24 = true then (if 0 ≤ x7 then (if x7 < (x0.length : Int) then (if (rd x0 x7) > x1 then (if x5.length < 17592186044416 then ((some (x5 ++ [x1] : List Int)).bind fun y165 => (if y165.length < 17592186044416 then (spec_l00Put.l0 k x0 x1 (y165 ++ [rd x0 x7]) true (wrap64 (x7 + 1))) else (none))) else (none)) else (if x5.length < 17592186044416 then (spec_l00Put.l0 k x0 x1 (x5 ++ [rd x0 x7]) true (wrap64 (x7 + 1))) else (none))) else (none)) else (none)) else (if 0 ≤ x7 then (if x7 < (x0.length : Int) then (if x5.length < 17592186044416 then (spec_l00Put.l0 k x0 x1 (x5 ++ [rd x0 x7]) x6 (wrap64 (x7 + 1))) else (none)) else (none)) else (none))
end
def spec_l00Put.f (k : Nat) (l0 : List Int) (a1 : Int) : Option (List Int) := spec_l00Put.l0 k l0 a1 (([] : List Int)) false 0
set_option maxHeartbeats 8000000 in
set_option maxRecDepth 100000 in
theorem spec_l00Put.calls (k : Nat) (A0 : Option Addr) (c0 : Nat) (l0 : List Int) (a1 : Int) (r : List Int) (w : World) (hr0 : Kd.C (Kd.int .i64) w A0 l0.length l0) (hc0 : l0.length ≤ c0) (h : spec_l00Put.f k l0 a1 = some r) :
  Calls Tryz.prog 100 #[.slice A0 l0.length c0, .int .i64 a1] w fun e w' => ∃ v0_ : Value, e = .returned (v0_) ∧ Kd.R (Kd.int .i64) 2 w' w.heap.size (fun _ => True) v0_ r ∧ Below w.heap.size w w' := by
 have HR0 := Aside0.mk hr0
 have HC0 := Aside0.mk hc0
 clear hr0 hc0
 have HB := Aside0.mk (Below.refl w.heap.size w)
 have H : (spec_l00Put.l0 k l0 a1 (([] : List Int)) false 0) = some r := h
 clear h
 obtain ⟨y157, hy157⟩ : ∃ y_ : List Int, y_ = (([] : List Int)) := ⟨_, rfl⟩
 replace H : (spec_l00Put.l0 k l0 a1 y157 false 0) = some r := by first | (rw [hy157]; with_reducible exact H) | (have H2_ := (Option.bind_some _ _).symm.trans H; rw [hy157]; with_reducible exact H2_) | (have H2_ := (Option.bind_some _ _).symm.trans H; with_reducible exact H2_) | with_reducible exact H | (rw [hy157]; exact H) | exact H
 have Ny157 := Aside0.mk hy157
 clear hy157
 have H' := Aside0.mk H
 clear H
 go_enter Tryz.func100, Tryz.ntmps100
 go_wp2_with (first | ((with_reducible refine gate_dst (N := 8) rfl ?_); refine Kd.R_lit (Kd.int .i64) _ 2 ?hg (N := 8) ?hd (xs := ([] : List Int)) (inner := []) (ok := fun _ => True) (okp := fun _ => True) ?hr ?hp (fun _ hk => hk) trivial (Below.refl _ _) (Nat.le_refl _) (by simp) ?_; (case hd => rfl); (case hg => rfl); (case hr => first | (go_simp; done) | (go_simp; rfl)); (case hp => exact (Reps.none _ _)); intro v158 w3 ho4 hb hg_ hnew_; clear hg_ hnew_; (first | rw [← Ny157.out] at ho4 | (simp only [Int.reduceToNat] at ho4; rw [← Ny157.out] at ho4)); have n0_ := Aside0.mk (Kd.R_lower ho4 (below_size (by repeat first | exact HB.out | apply pw_below_drewN))); have n1_ := Aside0.mk (below_step (by repeat first | exact HB.out | apply pw_below_drewN) hb); clear HB; have HO159 := n0_; have HB := n1_; clear n0_ n1_; clear hb ho4))
 go_loopg [5, 6, 7] k (fun kq v5 v6 v7 w' => ∃ (x5_1 : List Int) (x6_1 : Bool) (x7_1 : Int), v6 = .bool x6_1 ∧ v7 = .int .i64 x7_1 ∧ Aside0 (spec_l00Put.l0 kq l0 a1 x5_1 x6_1 x7_1 = some r) ∧ Aside0 (kq ≤ k) ∧ Aside0 (Kd.R (Kd.int .i64) 2 w' w.heap.size (fun _ => True) v5 x5_1) ∧ Aside0 (Below w.heap.size w w'))
 case atStart => exact ⟨(y157), (false), (0), (by first | rfl | (simp; done) | (simp [*]; done)), (by first | rfl | (simp; done) | (simp [*]; done)), H', ⟨Nat.le_refl _⟩, ⟨by (with_reducible repeat (first | apply Kd.R_alloc | apply Kd.R_drewN | apply Kd.R_drew)); exact HO159.out⟩, ⟨by repeat first | exact HB.out | apply pw_below_drewN⟩⟩
 case round =>
  clear H'
  try clear c1
  try clear p2
  obtain ⟨x5_1, x6_1, x7_1, rfl, rfl, HA, HK1, HO_5, HB⟩ := hrel
  cases gk with
  | zero => exact absurd HA.out (by simp [spec_l00Put.l0])
  | succ k1 =>
   have H := HA.out
   clear HA
   simp only [spec_l00Put.l0] at H
   by_cases c5 : x7_1 < (l0.length : Int)
   ·rw [if_pos c5] at H
    have c5b0 : decide (x7_1 < (l0.length : Int)) = true := decide_eq_true c5
    clear c5
    have HC6 := Aside0.mk H
    clear H
    go_upto_region 6 with (fail)
    go_cut [24] (fun v24 wc => ∃ (kq : Nat) (x24_5 : Bool), v24 = .bool x24_5 ∧ Aside0 (spec_l00Put.j1 kq l0 a1 x5_1 x6_1 x7_1 x24_5 = some r) ∧ Aside0 (kq ≤ k1) ∧ Aside0 (Kd.R (Kd.int .i64) 2 wc w.heap.size (fun _ => True) u5 x5_1) ∧ Aside0 (Below w.heap.size w wc))
    case first =>
     have H := HC6.out
     clear HC6
     by_cases c7 : x6_1 = true
     ·subst c7
      rw [if_pos rfl] at H
      have H' := Aside0.mk H
      clear H
      go_wp2
      go_meet
      case rel => exact ⟨_, (false), (by first | rfl | (simp; done) | (simp [*]; done)), H', ⟨by have := HK1.out; first | omega | exact Nat.le_refl _⟩, ⟨by (with_reducible repeat (first | apply Kd.R_alloc | apply Kd.R_drewN | apply Kd.R_drew)); exact HO_5.out⟩, ⟨by repeat first | exact HB.out | apply pw_below_drewN⟩⟩
     ·replace c7 := Bool.eq_false_iff.mpr c7
      subst c7
      rw [if_neg (show ¬ (false = true) by decide)] at H
      by_cases c8 : 0 ≤ x7_1
      ·rw [if_pos c8] at H
       have c8b0 : decide (0 ≤ x7_1) = true := decide_eq_true c8
       clear c8
       (first | rw [c8b0] | (simp only [i64_w, i32_w]; rw [c8b0]) | skip)
       have H' := Aside0.mk H
       clear H
       have p163 : 0 ≤ (x7_1 : Int) := of_decide_eq_true (by assumption)
       have q163 : x7_1 < (l0.length : Int) := of_decide_eq_true (by assumption)
       obtain ⟨ad163, e163, hx163_0⟩ := Kd.at_int HR0.out x7_1 p163 q163
       cases e163
       replace hx163_0 := (HB.out.cell (World.block_lt_of_cell? w _ hx163_0)).trans hx163_0
       replace p163 := eq_true p163
       replace q163 := eq_true q163
       go_wp2
       go_meet
       case rel => exact ⟨_, (decide ((rd l0 x7_1) ≥ a1)), (by first | rfl | (simp; done) | (simp [*]; done)), H', ⟨by have := HK1.out; first | omega | exact Nat.le_refl _⟩, ⟨by (with_reducible repeat (first | apply Kd.R_alloc | apply Kd.R_drewN | apply Kd.R_drew)); exact HO_5.out⟩, ⟨by repeat first | exact HB.out | apply pw_below_drewN⟩⟩
      ·rw [if_neg c8] at H
       exact absurd H (by simp)
    case rest =>
     clear HC6
     try clear c1
     try clear p1
     try clear q1
     try clear hx1
     try clear p2
     try clear c5
     try clear c5b0
     try clear c7
     try clear c8
     try clear c8b0
     try clear hx163_0
     try clear p163
     try clear p2
     try clear q163
     obtain ⟨kq, x24_5, rfl, HA, HJ5, HO_5, HB⟩ := hcut
     cases kq with
     | zero => exact absurd HA.out (by simp [spec_l00Put.j1])
     | succ kj5 =>
      have H := HA.out
      clear HA
      simp only [spec_l00Put.j1] at H
      by_cases c9 : x24_5 = true
      ·subst c9
       rw [if_pos rfl] at H
       by_cases c10 : 0 ≤ x7_1
       ·rw [if_pos c10] at H
        have c10b0 : decide (0 ≤ x7_1) = true := decide_eq_true c10
        clear c10
        by_cases c11 : x7_1 < (l0.length : Int)
        ·rw [if_pos c11] at H
         have c11b0 : decide (x7_1 < (l0.length : Int)) = true := decide_eq_true c11
         clear c11
         by_cases c12 : (rd l0 x7_1) > a1
         ·rw [if_pos c12] at H
          have c12b0 : decide (a1 < (rd l0 x7_1)) = true := decide_eq_true c12
          clear c12
          by_cases c13 : x5_1.length < 17592186044416
          ·rw [if_pos c13] at H
           have LMc13 := Aside0.mk c13
           clear c13
           obtain ⟨y165, hy165⟩ : ∃ y_ : List Int, y_ = (x5_1 ++ [a1]) := ⟨_, rfl⟩
           replace H : (if y165.length < 17592186044416 then (spec_l00Put.l0 kj5 l0 a1 (y165 ++ [rd l0 x7_1]) true (wrap64 (x7_1 + 1))) else (none)) = some r := by first | (rw [hy165]; with_reducible exact H) | (have H2_ := (Option.bind_some _ _).symm.trans H; rw [hy165]; with_reducible exact H2_) | (have H2_ := (Option.bind_some _ _).symm.trans H; with_reducible exact H2_) | with_reducible exact H | (rw [hy165]; exact H) | exact H
           have Ny165 := Aside0.mk hy165
           clear hy165
           by_cases c14 : y165.length < 17592186044416
           ·rw [if_pos c14] at H
            have LMc14 := Aside0.mk c14
            clear c14
            obtain ⟨y169, hy169⟩ : ∃ y_ : List Int, y_ = (y165 ++ [rd l0 x7_1]) := ⟨_, rfl⟩
            replace H : (spec_l00Put.l0 kj5 l0 a1 y169 true (wrap64 (x7_1 + 1))) = some r := by first | (rw [hy169]; with_reducible exact H) | (have H2_ := (Option.bind_some _ _).symm.trans H; rw [hy169]; with_reducible exact H2_) | (have H2_ := (Option.bind_some _ _).symm.trans H; with_reducible exact H2_) | with_reducible exact H | (rw [hy169]; exact H) | exact H
            have Ny169 := Aside0.mk hy169
            clear hy169
            have H' := Aside0.mk H
            clear H
            have p164 : 0 ≤ (x7_1 : Int) := of_decide_eq_true (by assumption)
            have q164 : x7_1 < (l0.length : Int) := of_decide_eq_true (by assumption)
            obtain ⟨ad164, e164, hx164_0⟩ := Kd.at_int HR0.out x7_1 p164 q164
            cases e164
            replace hx164_0 := (HB.out.cell (World.block_lt_of_cell? w _ hx164_0)).trans hx164_0
            replace p164 := eq_true p164
            replace q164 := eq_true q164
            go_wp2_with (first | ((with_reducible refine gate_builtin (b := .append) (xs := #[.tmp 31, .tmp 33]) rfl ?_); at_builtin; refine Kd.R_append (Kd.int .i64) (w0 := w) w.heap.size rfl (.tmp 31) (.tmp 33) 29 2 (.int .i64 0) 8 rfl Tryz.underlying29 info2 rfl (by decide) (by omega) u5 x5_1 a1 [.int .i64 a1] (fun _ => True) (fun _ => False) rfl rfl ?aP (fun _ hk => hk.elim) ?aF ?aO ?aB ?aS ?aL ?_; (case aP => exact rfl); (case aB => exact (by repeat first | exact HB.out | apply pw_below_drewN)); (case aF => exact (fun _ _ => trivial)); (case aO => exact (by (with_reducible repeat (first | apply Kd.R_alloc | apply Kd.R_drewN | apply Kd.R_drew)); exact HO_5.out)); (case aS => exact (below_size (by repeat first | exact HB.out | apply pw_below_drewN))); (case aL => have := LMc13.out; omega); intro v166 w15 ho hb hg hat; rw [← Ny165.out] at ho; have n0_ := Aside0.mk (hb); have n1_ := Aside0.mk (ho); clear HB; clear HO_5; have HB := n0_; have HO167 := n1_; clear n0_ n1_; clear ho hb hg hat; have p168 : 0 ≤ (x7_1 : Int) := of_decide_eq_true (by assumption); have q168 : x7_1 < (l0.length : Int) := of_decide_eq_true (by assumption); obtain ⟨ad168, e168, hx168_0⟩ := Kd.at_int HR0.out x7_1 p168 q168; obtain rfl : ad164 = ad168 := (by injection e168); replace hx168_0 := (HB.out.cell (World.block_lt_of_cell? w _ hx168_0)).trans hx168_0; replace p168 := eq_true p168; replace q168 := eq_true q168) | ((with_reducible refine gate_builtin (b := .append) (xs := #[.tmp 35, .tmp 40]) rfl ?_); at_builtin; refine Kd.R_append (Kd.int .i64) (w0 := w) w.heap.size rfl (.tmp 35) (.tmp 40) 29 2 (.int .i64 0) 8 rfl Tryz.underlying29 info2 rfl (by decide) (by omega) v166 y165 (rd l0 x7_1) [.int .i64 (rd l0 x7_1)] (fun _ => True) (fun _ => False) rfl rfl ?aP (fun _ hk => hk.elim) ?aF ?aO ?aB ?aS ?aL ?_; (case aP => exact rfl); (case aB => exact (by repeat first | exact HB.out | apply pw_below_drewN)); (case aF => exact (fun _ _ => trivial)); (case aO => exact (by (with_reducible repeat (first | apply Kd.R_alloc | apply Kd.R_drewN | apply Kd.R_drew)); exact HO167.out)); (case aS => exact (below_size (by repeat first | exact HB.out | apply pw_below_drewN))); (case aL => have := LMc14.out; omega); intro v170 w16 ho hb hg hat; rw [← Ny169.out] at ho; have n0_ := Aside0.mk (hb); have n1_ := Aside0.mk (ho); clear HB; clear HO167; have HB := n0_; have HO171 := n1_; clear n0_ n1_; clear ho hb hg hat))
            go_roundg kj5
            case measure => have := HK1.out; have := HJ5.out; omega
            case rel => exact ⟨(y169), (true), (wrap64 (x7_1 + 1)), (by first | rfl | (simp; done) | (simp [*]; done)), (by first | rfl | (simp; done) | (simp [*]; done)), H', ⟨by have := HK1.out; have := HJ5.out; omega⟩, ⟨by (with_reducible repeat (first | apply Kd.R_alloc | apply Kd.R_drewN | apply Kd.R_drew)); exact HO171.out⟩, ⟨by repeat first | exact HB.out | apply pw_below_drewN⟩⟩
           ·rw [if_neg c14] at H
            exact absurd H (by simp)
          ·rw [if_neg c13] at H
           exact absurd H (by simp)
         ·rw [if_neg c12] at H
          have c12b0 : decide (a1 < (rd l0 x7_1)) = false := decide_eq_false c12
          clear c12
          by_cases c17 : x5_1.length < 17592186044416
          ·rw [if_pos c17] at H
           have LMc17 := Aside0.mk c17
           clear c17
           obtain ⟨y173, hy173⟩ : ∃ y_ : List Int, y_ = (x5_1 ++ [rd l0 x7_1]) := ⟨_, rfl⟩
           replace H : (spec_l00Put.l0 kj5 l0 a1 y173 true (wrap64 (x7_1 + 1))) = some r := by first | (rw [hy173]; with_reducible exact H) | (have H2_ := (Option.bind_some _ _).symm.trans H; rw [hy173]; with_reducible exact H2_) | (have H2_ := (Option.bind_some _ _).symm.trans H; with_reducible exact H2_) | with_reducible exact H | (rw [hy173]; exact H) | exact H
           have Ny173 := Aside0.mk hy173
           clear hy173
           have H' := Aside0.mk H
           clear H
           have p164 : 0 ≤ (x7_1 : Int) := of_decide_eq_true (by assumption)
           have q164 : x7_1 < (l0.length : Int) := of_decide_eq_true (by assumption)
           obtain ⟨ad164, e164, hx164_0⟩ := Kd.at_int HR0.out x7_1 p164 q164
           cases e164
           replace hx164_0 := (HB.out.cell (World.block_lt_of_cell? w _ hx164_0)).trans hx164_0
           replace p164 := eq_true p164
           replace q164 := eq_true q164
           have p172 : 0 ≤ (x7_1 : Int) := of_decide_eq_true (by assumption)
           have q172 : x7_1 < (l0.length : Int) := of_decide_eq_true (by assumption)
           obtain ⟨ad172, e172, hx172_0⟩ := Kd.at_int HR0.out x7_1 p172 q172
           obtain rfl : ad164 = ad172 := (by injection e172)
           replace hx172_0 := (HB.out.cell (World.block_lt_of_cell? w _ hx172_0)).trans hx172_0
           replace p172 := eq_true p172
           replace q172 := eq_true q172
           go_wp2_with (first | ((with_reducible refine gate_builtin (b := .append) (xs := #[.tmp 35, .tmp 40]) rfl ?_); at_builtin; refine Kd.R_append (Kd.int .i64) (w0 := w) w.heap.size rfl (.tmp 35) (.tmp 40) 29 2 (.int .i64 0) 8 rfl Tryz.underlying29 info2 rfl (by decide) (by omega) u5 x5_1 (rd l0 x7_1) [.int .i64 (rd l0 x7_1)] (fun _ => True) (fun _ => False) rfl rfl ?aP (fun _ hk => hk.elim) ?aF ?aO ?aB ?aS ?aL ?_; (case aP => exact rfl); (case aB => exact (by repeat first | exact HB.out | apply pw_below_drewN)); (case aF => exact (fun _ _ => trivial)); (case aO => exact (by (with_reducible repeat (first | apply Kd.R_alloc | apply Kd.R_drewN | apply Kd.R_drew)); exact HO_5.out)); (case aS => exact (below_size (by repeat first | exact HB.out | apply pw_below_drewN))); (case aL => have := LMc17.out; omega); intro v174 w18 ho hb hg hat; rw [← Ny173.out] at ho; have n0_ := Aside0.mk (hb); have n1_ := Aside0.mk (ho); clear HB; clear HO_5; have HB := n0_; have HO175 := n1_; clear n0_ n1_; clear ho hb hg hat))
           go_roundg kj5
           case measure => have := HK1.out; have := HJ5.out; omega
           case rel => exact ⟨(y173), (true), (wrap64 (x7_1 + 1)), (by first | rfl | (simp; done) | (simp [*]; done)), (by first | rfl | (simp; done) | (simp [*]; done)), H', ⟨by have := HK1.out; have := HJ5.out; omega⟩, ⟨by (with_reducible repeat (first | apply Kd.R_alloc | apply Kd.R_drewN | apply Kd.R_drew)); exact HO175.out⟩, ⟨by repeat first | exact HB.out | apply pw_below_drewN⟩⟩
          ·rw [if_neg c17] at H
           exact absurd H (by simp)
        ·rw [if_neg c11] at H
         exact absurd H (by simp)
       ·rw [if_neg c10] at H
        exact absurd H (by simp)
      ·replace c9 := Bool.eq_false_iff.mpr c9
       subst c9
       rw [if_neg (show ¬ (false = true) by decide)] at H
       by_cases c19 : 0 ≤ x7_1
       ·rw [if_pos c19] at H
        have c19b0 : decide (0 ≤ x7_1) = true := decide_eq_true c19
        clear c19
        by_cases c20 : x7_1 < (l0.length : Int)
        ·rw [if_pos c20] at H
         have c20b0 : decide (x7_1 < (l0.length : Int)) = true := decide_eq_true c20
         clear c20
         by_cases c21 : x5_1.length < 17592186044416
         ·rw [if_pos c21] at H
          have LMc21 := Aside0.mk c21
          clear c21
          obtain ⟨y177, hy177⟩ : ∃ y_ : List Int, y_ = (x5_1 ++ [rd l0 x7_1]) := ⟨_, rfl⟩
          replace H : (spec_l00Put.l0 kj5 l0 a1 y177 x6_1 (wrap64 (x7_1 + 1))) = some r := by first | (rw [hy177]; with_reducible exact H) | (have H2_ := (Option.bind_some _ _).symm.trans H; rw [hy177]; with_reducible exact H2_) | (have H2_ := (Option.bind_some _ _).symm.trans H; with_reducible exact H2_) | with_reducible exact H | (rw [hy177]; exact H) | exact H
          have Ny177 := Aside0.mk hy177
          clear hy177
          have H' := Aside0.mk H
          clear H
          have p176 : 0 ≤ (x7_1 : Int) := of_decide_eq_true (by assumption)
          have q176 : x7_1 < (l0.length : Int) := of_decide_eq_true (by assumption)
          obtain ⟨ad176, e176, hx176_0⟩ := Kd.at_int HR0.out x7_1 p176 q176
          cases e176
          replace hx176_0 := (HB.out.cell (World.block_lt_of_cell? w _ hx176_0)).trans hx176_0
          replace p176 := eq_true p176
          replace q176 := eq_true q176
          go_wp2_with (first | ((with_reducible refine gate_builtin (b := .append) (xs := #[.tmp 35, .tmp 40]) rfl ?_); at_builtin; refine Kd.R_append (Kd.int .i64) (w0 := w) w.heap.size rfl (.tmp 35) (.tmp 40) 29 2 (.int .i64 0) 8 rfl Tryz.underlying29 info2 rfl (by decide) (by omega) u5 x5_1 (rd l0 x7_1) [.int .i64 (rd l0 x7_1)] (fun _ => True) (fun _ => False) rfl rfl ?aP (fun _ hk => hk.elim) ?aF ?aO ?aB ?aS ?aL ?_; (case aP => exact rfl); (case aB => exact (by repeat first | exact HB.out | apply pw_below_drewN)); (case aF => exact (fun _ _ => trivial)); (case aO => exact (by (with_reducible repeat (first | apply Kd.R_alloc | apply Kd.R_drewN | apply Kd.R_drew)); exact HO_5.out)); (case aS => exact (below_size (by repeat first | exact HB.out | apply pw_below_drewN))); (case aL => have := LMc21.out; omega); intro v178 w22 ho hb hg hat; rw [← Ny177.out] at ho; have n0_ := Aside0.mk (hb); have n1_ := Aside0.mk (ho); clear HB; clear HO_5; have HB := n0_; have HO179 := n1_; clear n0_ n1_; clear ho hb hg hat))
          go_roundg kj5
          case measure => have := HK1.out; have := HJ5.out; omega
          case rel => exact ⟨(y177), (x6_1), (wrap64 (x7_1 + 1)), (by first | rfl | (simp; done) | (simp [*]; done)), (by first | rfl | (simp; done) | (simp [*]; done)), H', ⟨by have := HK1.out; have := HJ5.out; omega⟩, ⟨by (with_reducible repeat (first | apply Kd.R_alloc | apply Kd.R_drewN | apply Kd.R_drew)); exact HO179.out⟩, ⟨by repeat first | exact HB.out | apply pw_below_drewN⟩⟩
         ·rw [if_neg c21] at H
          exact absurd H (by simp)
        ·rw [if_neg c20] at H
         exact absurd H (by simp)
       ·rw [if_neg c19] at H
        exact absurd H (by simp)
   ·rw [if_neg c5] at H
    have c5b0 : decide (x7_1 < (l0.length : Int)) = false := decide_eq_false c5
    clear c5
    by_cases c23 : x6_1 = true
    ·subst c23
     rw [if_pos rfl] at H
     obtain rfl := Option.some.inj H
     go_wp2
     go_ret
     exact ⟨_, by first | rfl | (simp [*, errW_none, errW_some] <;> rfl), by (with_reducible repeat (first | apply Kd.R_alloc | apply Kd.R_drewN | apply Kd.R_drew)); exact HO_5.out, by repeat first | exact HB.out | apply pw_below_drewN⟩
    ·replace c23 := Bool.eq_false_iff.mpr c23
     subst c23
     rw [if_neg (show ¬ (false = true) by decide)] at H
     by_cases c24 : x5_1.length < 17592186044416
     ·rw [if_pos c24] at H
      have LMc24 := Aside0.mk c24
      clear c24
      obtain ⟨y160, hy160⟩ : ∃ y_ : List Int, y_ = (x5_1 ++ [a1]) := ⟨_, rfl⟩
      replace H : (some y160) = some r := by first | (rw [hy160]; with_reducible exact H) | (have H2_ := (Option.bind_some _ _).symm.trans H; rw [hy160]; with_reducible exact H2_) | (have H2_ := (Option.bind_some _ _).symm.trans H; with_reducible exact H2_) | with_reducible exact H | (rw [hy160]; exact H) | exact H
      have Ny160 := Aside0.mk hy160
      clear hy160
      obtain rfl := Option.some.inj H
      go_wp2_with (first | ((with_reducible refine gate_builtin (b := .append) (xs := #[.tmp 44, .tmp 46]) rfl ?_); at_builtin; refine Kd.R_append (Kd.int .i64) (w0 := w) w.heap.size rfl (.tmp 44) (.tmp 46) 29 2 (.int .i64 0) 8 rfl Tryz.underlying29 info2 rfl (by decide) (by omega) u5 x5_1 a1 [.int .i64 a1] (fun _ => True) (fun _ => False) rfl rfl ?aP (fun _ hk => hk.elim) ?aF ?aO ?aB ?aS ?aL ?_; (case aP => exact rfl); (case aB => exact (by repeat first | exact HB.out | apply pw_below_drewN)); (case aF => exact (fun _ _ => trivial)); (case aO => exact (by (with_reducible repeat (first | apply Kd.R_alloc | apply Kd.R_drewN | apply Kd.R_drew)); exact HO_5.out)); (case aS => exact (below_size (by repeat first | exact HB.out | apply pw_below_drewN))); (case aL => have := LMc24.out; omega); intro v161 w25 ho hb hg hat; rw [← Ny160.out] at ho; have n0_ := Aside0.mk (hb); have n1_ := Aside0.mk (ho); clear HB; clear HO_5; have HB := n0_; have HO162 := n1_; clear n0_ n1_; clear ho hb hg hat))
      go_ret
      exact ⟨_, by first | rfl | (simp [*, errW_none, errW_some] <;> rfl), by (with_reducible repeat (first | apply Kd.R_alloc | apply Kd.R_drewN | apply Kd.R_drew)); exact HO162.out, by repeat first | exact HB.out | apply pw_below_drewN⟩
     ·rw [if_neg c24] at H
      exact absurd H (by simp)

/-! ### spec_l06Under: function 96 -/
mutual
def spec_l06Under.l0 : Nat → Int → List Int → Int → List (S72) → List (S68) → Option (List Int)
  | 0, _, _, _, _, _ => none
  | k + 1, x5, x6, x7, x181000, x181001 => if 0 ≤ x5 then (if x5 < (x181001.length : Int) then (if x7 < (((rd_T68 x181001 x5).f2).length : Int) then (if 0 ≤ x7 then ((spec_l06Under.f k x181000 x181001 (rd ((rd_T68 x181001 x5).f2) x7)).bind fun t191 => (spec_l06Under.l1 k x5 x6 x7 t191 0 x181000 x181001)) else (none)) else (some x6)) else (none)) else (none)
def spec_l06Under.l1 : Nat → Int → List Int → Int → List Int → Int → List (S72) → List (S68) → Option (List Int)
  | 0, _, _, _, _, _, _, _ => none
  | k + 1, x5, x6, x7, x8, x9, x181000, x181001 => if x9 < (x8.length : Int) then (if 0 ≤ x9 then ((spec_l00Put.f k x6 (rd x8 x9)).bind fun t195 => (spec_l06Under.l1 k x5 t195 x7 x8 (wrap64 (x9 + 1)) x181000 x181001)) else (none)) else (spec_l06Under.l0 k x5 x6 (wrap64 (x7 + 1)) x181000 x181001)
def spec_l06Under.f : Nat → List (S72) → List (S68) → Int → Option (List Int)
  | 0, _, _, _ => none
  | k + 1, l0_0, l0_1, a1 => (spec_l06Bucket.f k l0_0 l0_1 a1).bind fun t181 => (if t181 < 0 then (some (([a1] : List Int))) else (spec_l06Under.l0 k t181 (([] : List Int)) 0 l0_0 l0_1))
end
def spec_l06Under.T8 : Bool × List (List Nat × List Nat) := (true, [([], []), ([], []), ([1], [1]), ([], []), ([2, 3], [2, 3]), ([4], [4]), ([5], [5]), ([], []), ([6, 7], [6, 7]), ([8], [8]), ([0, 9], [0, 9]), ([10, 10, 0, 1, 2, 3, 4, 5, 6, 7, 8, 9, 10], [10])])
def spec_l06Under.B8 : List Nat := [0, 0, 2, 0, 14, 30, 62, 0, 254, 510, 1023, 2047]
theorem spec_l06Under.tab8 : rtab .any (opsOf Tryz.f96 8) = spec_l06Under.T8 := by kernel_rfl
theorem spec_l06Under.bits8 : waitsOk spec_l06Under.T8.2 spec_l06Under.B8 = true := by kernel_rfl
def az_z96 (n m : Nat) : Array Bool := (List.replicate n true ++ List.replicate m false).toArray
def mz96_0 : Array Bool := az_z96 0 12
def mz96_1 : Array Bool := #[false, true, false, false, false, false, false, false, false, false, false, false]
def mz96_2 : Array Bool := #[false, true, false, true, false, false, false, false, false, false, false, false]
def mz96_3 : Array Bool := #[false, true, false, true, false, false, false, true, false, false, false, false]
def mz96_4 : Array Bool := #[true, true, false, true, false, false, false, true, false, false, false, false]
def mz96_5 : Array Bool := #[true, true, true, true, false, false, false, true, false, false, false, false]
def mz96_6 : Array Bool := #[true, true, true, true, true, false, false, true, false, false, false, false]
def mz96_7 : Array Bool := #[true, true, true, true, true, true, false, true, false, false, false, false]
def mz96_8 : Array Bool := az_z96 8 4
def mz96_9 : Array Bool := az_z96 9 3
def mz96_10 : Array Bool := az_z96 10 2
def mz96_11 : Array Bool := az_z96 11 1
def mz96_12 : Array Bool := az_z96 12 0
theorem pu_z96 {P : Program} {ops : Array Oper} {Q : Exit → Act → World → Prop} {md : Region.Mode} {S : World → Prop} {ds : List Nat} {oi : Oper} {fuel : Nat} {l : Array Bool} {a : Act} {w : World} (i : Nat) (N : Option Tmp) (v : Value) (l' : Array Bool) (hi : ops[i]? = some oi) (hN : oi.dst = N) (hc : anyB md ops l l' i = true)
    (hQ : ∀ c a w, Q (.panic c) (a.put oi.dst v) w → Q (.panic c) a w) (hy : Yields P ops oi v a) (a' : Act) (ha : a.put N v = a')
    (h : wpAnyLast P md ops Q S ds fuel l' a' w) : wpAnyLast P md ops Q S ds (fuel + 1) l a w := pure_ l' hi hN hc hQ hy ha h
theorem pq_z96 : (∀ (l : List Value) (i : Nat) (v : Value), l.toArray.setIfInBounds i v = (l.set i v).toArray) ∧ (∀ (x v : Value) (xs : List Value), (x :: xs).set 0 v = v :: xs) ∧ (∀ (x v : Value) (xs : List Value) (n : Nat), (x :: xs).set (n + 1) v = x :: xs.set n v) ∧ (∀ n : Int, IntKind.i64.wrap n = Go.RowKit.wrap64 n) ∧ (∀ n : Int, IntKind.i32.wrap n = Go.RowKit.wrap32 n) :=
  ⟨fun l i v => List.setIfInBounds_toArray l i v, fun _ _ _ => rfl, fun _ _ _ _ => rfl, i64_w, i32_w⟩
set_option maxHeartbeats 8000000 in
set_option maxRecDepth 100000 in
theorem spec_l06Under.calls (k : Nat) : ∀ (A0_0 : Option Addr) (c0_0 : Nat) (l0_0 : List (S72)) (A0_1 : Option Addr) (c0_1 : Nat) (l0_1 : List (S68)) (a1 : Int) (r : List Int) (w : World) (hr0_0 : Kd.C k72 w A0_0 l0_0.length l0_0) (hc0_0 : l0_0.length ≤ c0_0) (hr0_1 : Kd.C k68 w A0_1 l0_1.length l0_1) (hc0_1 : l0_1.length ≤ c0_1) (h : spec_l06Under.f k l0_0 l0_1 a1 = some r),
  Calls Tryz.prog 96 #[.agg #[.slice A0_0 l0_0.length c0_0, .slice A0_1 l0_1.length c0_1], .int .i64 a1] w fun e w' => ∃ v0_ : Value, e = .returned (v0_) ∧ Kd.R (Kd.int .i64) 2 w' w.heap.size (fun _ => True) v0_ r ∧ Below w.heap.size w w' := by
 induction k using Nat.strongRecOn with
 | _ k ih =>
 intro A0_0 c0_0 l0_0 A0_1 c0_1 l0_1 a1 r w hr0_0 hc0_0 hr0_1 hc0_1 h
 cases k with
 | zero => exact absurd h (by simp [spec_l06Under.f])
 | succ k =>
 simp only [spec_l06Under.f] at h
 have hu35 := Tryz.underlying35
 have HR0_0 := Aside0.mk hr0_0
 have HC0_0 := Aside0.mk hc0_0
 clear hr0_0 hc0_0
 have HR0_1 := Aside0.mk hr0_1
 have HC0_1 := Aside0.mk hc0_1
 clear hr0_1 hc0_1
 have HB := Aside0.mk (Below.refl w.heap.size w)
 have H : ((spec_l06Bucket.f k l0_0 l0_1 a1).bind fun t181 => (if t181 < 0 then (some (([a1] : List Int))) else (spec_l06Under.l0 k t181 (([] : List Int)) 0 l0_0 l0_1))) = some r := h
 clear h
 replace H := Option.bind_eq_some_iff.mp H
 obtain ⟨t181, A30, H⟩ := H
 set_option simprocs false in try dsimp only at H
 have A3 := Aside0.mk A30
 clear A30
 by_cases c4 : t181 < 0
 ·rw [if_pos c4] at H
  have c4b0 : decide (t181 < 0) = true := decide_eq_true c4
  clear c4
  obtain ⟨y182, hy182⟩ : ∃ y_ : List Int, y_ = (([a1] : List Int)) := ⟨_, rfl⟩
  replace H : (some y182) = some r := by first | (rw [hy182]; with_reducible exact H) | (have H2_ := (Option.bind_some _ _).symm.trans H; rw [hy182]; with_reducible exact H2_) | (have H2_ := (Option.bind_some _ _).symm.trans H; with_reducible exact H2_) | with_reducible exact H | (rw [hy182]; exact H) | exact H
  have Ny182 := Aside0.mk hy182
  clear hy182
  obtain rfl := Option.some.inj H
  go_enter Tryz.func96, Tryz.ntmps96
  go_wp2_with (first | ((with_reducible refine gate_dst (N := 2) rfl ?_); refine box_event ?hg (N := 2) ?hd (cs := #[.slice A0_0 l0_0.length c0_0, .slice A0_1 l0_1.length c0_1]) (t := 35) ?hr ?_; (case hd => rfl); (case hg => rfl); (case hr => first | (go_simp; done) | (go_simp; rfl)); intro gb180 hg w5 hbox hb; have n0_ := Aside0.mk (below_step (by repeat first | exact HB.out | apply pw_below_drewN) hb); have n1_ := Aside0.mk (hbox); clear HB; have HB := n0_; have BK180 := n1_; clear n0_ n1_; clear hb hbox hg; have hcz6_0 := (blk_cell BK180.out 0).trans rfl; have hcz6_1 := (blk_cell BK180.out 1).trans rfl) | ((with_reducible refine gate_callee (f := 62) rfl ?_); refine gl (some 12) Tryz.func62 #[.agg #[.slice A0_0 l0_0.length c0_0, .slice A0_1 l0_1.length c0_1], .int .i64 a1] ?_; (with_reducible refine (spec_l06Bucket.calls k _ _ l0_0 _ _ l0_1 a1 t181 _ ?side1 ?side2 ?side3 ?side4 A3.out).mono ?_); (case side1 => exact (Kd.C_below HR0_0.out HB.out)); (case side2 => exact HC0_0.out); (case side3 => exact (Kd.C_below HR0_1.out HB.out)); (case side4 => exact HC0_1.out); rintro e w7 ⟨rfl, hb⟩; refine ⟨_, rfl, ?_⟩; have n0_ := Aside0.mk (blk_below (by exact BK180.out) hb); have n1_ := Aside0.mk (below_step (by repeat first | exact HB.out | apply pw_below_drewN) hb); clear BK180; clear HB; have BK180 := n0_; have HB := n1_; clear n0_ n1_; (try clear hb); (try clear hb2); (try clear hk); (try clear hi)) | ((with_reducible refine gate_dst (N := 16) rfl ?_); refine Kd.R_lit (Kd.int .i64) _ 2 ?hg (N := 16) ?hd (xs := ([a1] : List Int)) (inner := [.int .i64 a1]) (ok := fun _ => True) (okp := fun _ => True) ?hr ?hp (fun _ hk => hk) trivial (Below.refl _ _) (Nat.le_refl _) (by simp) ?_; (case hd => rfl); (case hg => rfl); (case hr => first | (go_simp; done) | (go_simp; rfl)); (case hp => exact (Reps.one (show Kd.M (Kd.int .i64) _ _ _ a1 [.int .i64 a1] from rfl) (Reps.none _ _))); intro v183 w8 ho9 hb hg_ hnew_; clear hg_ hnew_; (first | rw [← Ny182.out] at ho9 | (simp only [Int.reduceToNat] at ho9; rw [← Ny182.out] at ho9)); have n0_ := Aside0.mk (Kd.R_lower ho9 (below_size (by repeat first | exact HB.out | apply pw_below_drewN))); have n1_ := Aside0.mk (blk_below (by exact BK180.out) hb); have n2_ := Aside0.mk (below_step (by repeat first | exact HB.out | apply pw_below_drewN) hb); clear BK180; clear HB; have HO184 := n0_; have BK180 := n1_; have HB := n2_; clear n0_ n1_ n2_; clear hb ho9))
  go_ret
  exact ⟨_, by first | rfl | (simp [*, errW_none, errW_some] <;> rfl), by (with_reducible repeat (first | apply Kd.R_alloc | apply Kd.R_drewN | apply Kd.R_drew)); exact HO184.out, by repeat first | exact HB.out | apply pw_below_drewN⟩
 ·rw [if_neg c4] at H
  have c4b0 : decide (t181 < 0) = false := decide_eq_false c4
  clear c4
  obtain ⟨y185, hy185⟩ : ∃ y_ : List Int, y_ = (([] : List Int)) := ⟨_, rfl⟩
  replace H : (spec_l06Under.l0 k t181 y185 0 l0_0 l0_1) = some r := by first | (rw [hy185]; with_reducible exact H) | (have H2_ := (Option.bind_some _ _).symm.trans H; rw [hy185]; with_reducible exact H2_) | (have H2_ := (Option.bind_some _ _).symm.trans H; with_reducible exact H2_) | with_reducible exact H | (rw [hy185]; exact H) | exact H
  have Ny185 := Aside0.mk hy185
  clear hy185
  have H' := Aside0.mk H
  clear H
  go_enter Tryz.func96, Tryz.ntmps96
  go_wp2_with (first | ((with_reducible refine gate_dst (N := 2) rfl ?_); refine box_event ?hg (N := 2) ?hd (cs := #[.slice A0_0 l0_0.length c0_0, .slice A0_1 l0_1.length c0_1]) (t := 35) ?hr ?_; (case hd => rfl); (case hg => rfl); (case hr => first | (go_simp; done) | (go_simp; rfl)); intro gb180 hg w10 hbox hb; have n0_ := Aside0.mk (below_step (by repeat first | exact HB.out | apply pw_below_drewN) hb); have n1_ := Aside0.mk (hbox); clear HB; have HB := n0_; have BK180 := n1_; clear n0_ n1_; clear hb hbox hg; have hcz11_0 := (blk_cell BK180.out 0).trans rfl; have hcz11_1 := (blk_cell BK180.out 1).trans rfl) | ((with_reducible refine gate_callee (f := 62) rfl ?_); refine gl (some 12) Tryz.func62 #[.agg #[.slice A0_0 l0_0.length c0_0, .slice A0_1 l0_1.length c0_1], .int .i64 a1] ?_; (with_reducible refine (spec_l06Bucket.calls k _ _ l0_0 _ _ l0_1 a1 t181 _ ?side1 ?side2 ?side3 ?side4 A3.out).mono ?_); (case side1 => exact (Kd.C_below HR0_0.out HB.out)); (case side2 => exact HC0_0.out); (case side3 => exact (Kd.C_below HR0_1.out HB.out)); (case side4 => exact HC0_1.out); rintro e w12 ⟨rfl, hb⟩; refine ⟨_, rfl, ?_⟩; have n0_ := Aside0.mk (blk_below (by exact BK180.out) hb); have n1_ := Aside0.mk (below_step (by repeat first | exact HB.out | apply pw_below_drewN) hb); clear BK180; clear HB; have BK180 := n0_; have HB := n1_; clear n0_ n1_; (try clear hb); (try clear hb2); (try clear hk); (try clear hi)) | ((with_reducible refine gate_dst (N := 17) rfl ?_); refine Kd.R_lit (Kd.int .i64) _ 2 ?hg (N := 17) ?hd (xs := ([] : List Int)) (inner := []) (ok := fun _ => True) (okp := fun _ => True) ?hr ?hp (fun _ hk => hk) trivial (Below.refl _ _) (Nat.le_refl _) (by simp) ?_; (case hd => rfl); (case hg => rfl); (case hr => first | (go_simp; done) | (go_simp; rfl)); (case hp => exact (Reps.none _ _)); intro v186 w13 ho14 hb hg_ hnew_; clear hg_ hnew_; (first | rw [← Ny185.out] at ho14 | (simp only [Int.reduceToNat] at ho14; rw [← Ny185.out] at ho14)); have n0_ := Aside0.mk (Kd.R_lower ho14 (below_size (by repeat first | exact HB.out | apply pw_below_drewN))); have n1_ := Aside0.mk (blk_below (by exact BK180.out) hb); have n2_ := Aside0.mk (below_step (by repeat first | exact HB.out | apply pw_below_drewN) hb); clear BK180; clear HB; have HO187 := n0_; have BK180 := n1_; have HB := n2_; clear n0_ n1_ n2_; clear hb ho14))
  go_loopg [6, 7] k (fun kq v6 v7 w' => ∃ (x6_1 : List Int) (x7_1 : Int), v7 = .int .i64 x7_1 ∧ Aside0 (spec_l06Under.l0 kq t181 x6_1 x7_1 l0_0 l0_1 = some r) ∧ Aside0 (kq ≤ k) ∧ Aside0 (Kd.R (Kd.int .i64) 2 w' w.heap.size (fun _ => True) v6 x6_1) ∧ Aside0 (w'.heap[gb180]? = some (.cells #[(.slice A0_0 l0_0.length c0_0), (.slice A0_1 l0_1.length c0_1)] 35 (0, 0))) ∧ Aside0 (Below w.heap.size w w'))
  case atStart => exact ⟨(y185), (0), (by first | rfl | (simp; done) | (simp [*]; done)), H', ⟨Nat.le_refl _⟩, ⟨by (with_reducible repeat (first | apply Kd.R_alloc | apply Kd.R_drewN | apply Kd.R_drew)); exact HO187.out⟩, ⟨by exact BK180.out⟩, ⟨by repeat first | exact HB.out | apply pw_below_drewN⟩⟩
  case round =>
   clear H'
   try clear p2
   try clear c4
   try clear c4b0
   try clear c6
   try clear c9
   try clear hcz11_0
   try clear hcz11_1
   try clear hcz6_0
   try clear hcz6_1
   obtain ⟨x6_1, x7_1, rfl, HA, HK1, HO_6, BK180, HB⟩ := hrel
   cases gk with
   | zero => exact absurd HA.out (by simp [spec_l06Under.l0])
   | succ k1 =>
    have H := HA.out
    clear HA
    simp only [spec_l06Under.l0] at H
    by_cases c15 : 0 ≤ t181
    ·rw [if_pos c15] at H
     have c15b0 : decide (0 ≤ t181) = true := decide_eq_true c15
     clear c15
     by_cases c16 : t181 < (l0_1.length : Int)
     ·rw [if_pos c16] at H
      have c16b0 : decide (t181 < (l0_1.length : Int)) = true := decide_eq_true c16
      clear c16
      by_cases c17 : x7_1 < (((rd_T68 l0_1 t181).f2).length : Int)
      ·rw [if_pos c17] at H
       have c17b0 : decide (x7_1 < (((rd_T68 l0_1 t181).f2).length : Int)) = true := decide_eq_true c17
       clear c17
       by_cases c18 : 0 ≤ x7_1
       ·rw [if_pos c18] at H
        have c18b0 : decide (0 ≤ x7_1) = true := decide_eq_true c18
        clear c18
        replace H := Option.bind_eq_some_iff.mp H
        obtain ⟨t191, A190, H⟩ := H
        set_option simprocs false in try dsimp only at H
        have A19 := Aside0.mk A190
        clear A190
        have H' := Aside0.mk H
        clear H
        have hcz20_0 := (blk_cell BK180.out 0).trans rfl
        have hcz20_1 := (blk_cell BK180.out 1).trans rfl
        have p188 : 0 ≤ (t181 : Int) := of_decide_eq_true (by assumption)
        have q188 : t181 < (l0_1.length : Int) := of_decide_eq_true (by assumption)
        obtain ⟨ad188, A188_2, c188_2, e188, hx188_0, hx188_1, hx188_2, hl188_2, hi188_2⟩ := at_T68 HR0_1.out t181 p188 q188
        cases e188
        replace hx188_0 := (HB.out.cell (World.block_lt_of_cell? w _ hx188_0)).trans hx188_0
        replace hx188_1 := (HB.out.cell (World.block_lt_of_cell? w _ hx188_1)).trans hx188_1
        replace hx188_2 := (HB.out.cell (World.block_lt_of_cell? w _ hx188_2)).trans hx188_2
        have HR188_2 := Aside0.mk hi188_2
        have HC188_2 := Aside0.mk hl188_2
        clear hi188_2 hl188_2
        replace p188 := eq_true p188
        replace q188 := eq_true q188
        try go_wp2
        have n0_ := Aside0.mk (Kd.R_drew HO_6.out)
        have n1_ := Aside0.mk (blk_drew BK180.out)
        have n2_ := Aside0.mk (below_drew1 HB.out)
        clear HO_6
        clear BK180
        clear HB
        have HO_6 := n0_
        have BK180 := n1_
        have HB := n2_
        clear n0_ n1_ n2_
        have p189 : 0 ≤ (t181 : Int) := of_decide_eq_true (by assumption)
        have q189 : t181 < (l0_1.length : Int) := of_decide_eq_true (by assumption)
        obtain ⟨ad189, A189_2, c189_2, e189, hx189_0, hx189_1, hx189_2, hl189_2, hi189_2⟩ := at_T68 HR0_1.out t181 p189 q189
        have hw189_2 := hx189_2
        have hw189_1 := hx189_1
        have hw189_0 := hx189_0
        obtain rfl : ad188 = ad189 := (by injection e189)
        replace hx189_0 := (HB.out.cell (World.block_lt_of_cell? w _ hx189_0)).trans hx189_0
        replace hx189_1 := (HB.out.cell (World.block_lt_of_cell? w _ hx189_1)).trans hx189_1
        replace hx189_2 := (HB.out.cell (World.block_lt_of_cell? w _ hx189_2)).trans hx189_2
        have HR189_2 := Aside0.mk hi189_2
        have HC189_2 := Aside0.mk hl189_2
        clear hi189_2 hl189_2
        replace p189 := eq_true p189
        replace q189 := eq_true q189
        have p190 : 0 ≤ (x7_1 : Int) := of_decide_eq_true (by assumption)
        have q190 : x7_1 < (((rd_T68 l0_1 t181).f2).length : Int) := of_decide_eq_true (by assumption)
        obtain ⟨ad190, e190, hx190_0⟩ := Kd.at_int HR189_2.out x7_1 p190 q190
        have hw190_0 := hx190_0
        cases e190
        replace hx190_0 := (HB.out.cell (World.block_lt_of_cell? w _ hx190_0)).trans hx190_0
        replace p190 := eq_true p190
        replace q190 := eq_true q190
        refine start_ (n := 12) (S := fun w' => w'.cell? ⟨gb180, 0, none⟩ = some (.slice A0_0 l0_0.length c0_0) ∧ w'.cell? ⟨gb180, 1, none⟩ = some (.slice (some ad188) l0_1.length c0_1) ∧ w'.cell? (ad188.add ((t181).toNat * 3)) = some (.int .i64 ((rd_T68 l0_1 t181).f0)) ∧ w'.cell? ⟨(ad188.add ((t181).toNat * 3)).block, (ad188.add ((t181).toNat * 3)).off + 1, none⟩ = some (.int .i64 ((rd_T68 l0_1 t181).f1)) ∧ w'.cell? ⟨(ad188.add ((t181).toNat * 3)).block, (ad188.add ((t181).toNat * 3)).off + 2, none⟩ = some (.slice (some ad190) ((rd_T68 l0_1 t181).f2).length c189_2) ∧ w'.cell? (ad190.add (x7_1).toNat) = some (.int .i64 (rd ((rd_T68 l0_1 t181).f2) x7_1))) (ds := []) mz96_0 (by kernel_rfl) rfl rfl ⟨(blk_cell BK180.out 0).trans rfl, (blk_cell BK180.out 1).trans rfl, ((HB.out.cell (World.block_lt_of_cell? w _ hw189_0)).trans hw189_0), ((HB.out.cell (World.block_lt_of_cell? w _ hw189_1)).trans hw189_1), ((HB.out.cell (World.block_lt_of_cell? w _ hw189_2)).trans hw189_2), ((HB.out.cell (World.block_lt_of_cell? w _ hw190_0)).trans hw190_0)⟩ (fun hHeld => ?_); refine with_tabW spec_l06Under.tab8 spec_l06Under.bits8 (fun HT_ HW_ => ?_)
        generalize wr.drew = w21 at HO_6 BK180 HB HR189_2 hx189_0 hx189_1 hx189_2 hx190_0 hHeld ⊢
        refine pu 1 (some 30) mz96_1 (any_of HT_.out (by kernel_rfl)) ?_
        refine pu 3 (some 32) mz96_2 (any_of HT_.out (by kernel_rfl)) ?_
        refine pu 7 (some 36) mz96_3 (any_of HT_.out (by kernel_rfl)) ?_
        refine tk 0 (some 29) mz96_4 hHeld (take_ofW HT_.out HW_.out (by kernel_rfl)) ?_
        refine tk 2 (some 31) mz96_5 hHeld (take_ofW HT_.out HW_.out (by kernel_rfl)) ?_
        refine pu 4 (some 33) mz96_6 (any_of HT_.out (by kernel_rfl)) ?_
        refine pu 5 (some 34) mz96_7 (any_of HT_.out (by kernel_rfl)) ?_
        refine tk 6 (some 35) mz96_8 hHeld (take_ofW HT_.out HW_.out (by kernel_rfl)) ?_
        refine pu 8 (some 37) mz96_9 (any_of HT_.out (by kernel_rfl)) ?_
        refine tk 9 (some 38) mz96_10 hHeld (take_ofW HT_.out HW_.out (by kernel_rfl)) ?_
        refine one_ (i := 10) (N := some 39) mz96_11 rfl rfl (one_of HT_.out (by kernel_rfl)) (by decide) (fun K hK => ?_)
        refine goes_ Tryz.func96 (by kernel_rfl) rfl #[.agg #[.slice A0_0 l0_0.length c0_0, .slice (some ad188) l0_1.length c0_1], .int .i64 (rd ((rd_T68 l0_1 t181).f2) x7_1)] (by rfl) rfl rfl (by (try simp only [List.map_toArray, List.map_cons, List.map_nil]); first | done | rfl) ?_
        with_reducible refine (ih k1 (by have := HK1.out; omega) _ _ l0_0 _ _ l0_1 (rd ((rd_T68 l0_1 t181).f2) x7_1) t191 _ ?side1 ?side2 ?side3 ?side4 A19.out).mono ?_
        (case side1 => exact (Kd.C_below HR0_0.out HB.out))
        (case side2 => exact HC0_0.out)
        (case side3 => exact (Kd.C_below HR0_1.out HB.out))
        (case side4 => exact HC0_1.out)
        rintro e w22 ⟨v192, rfl, ho0, hb⟩
        refine ⟨_, rfl, ?_⟩
        have n0_ := Aside0.mk (Kd.R_elder' (by (with_reducible repeat (first | apply Kd.R_alloc | apply Kd.R_drewN | apply Kd.R_drew)); exact HO_6.out) (Kd.R_base ho0) hb)
        have n1_ := Aside0.mk (Kd.R_lower (Kd.R_new' ho0 (Kd.R_lt (by (with_reducible repeat (first | apply Kd.R_alloc | apply Kd.R_drewN | apply Kd.R_drew)); exact HO_6.out))) (below_size (by repeat first | exact HB.out | apply pw_below_drewN)))
        have n2_ := Aside0.mk (blk_below (by exact BK180.out) hb)
        have n3_ := Aside0.mk (below_step (by repeat first | exact HB.out | apply pw_below_drewN) hb)
        clear HO_6
        clear BK180
        clear HB
        have HO_6 := n0_
        have HO193 := n1_
        have BK180 := n2_
        have HB := n3_
        clear n0_ n1_ n2_ n3_
        (try clear hb)
        (try clear hb2)
        (try clear hk)
        (try clear hi)
        (try clear ho0)
        refine hK.out _ _ ⟨(blk_cell BK180.out 0).trans rfl, (blk_cell BK180.out 1).trans rfl, ((HB.out.cell (World.block_lt_of_cell? w _ hw189_0)).trans hw189_0), ((HB.out.cell (World.block_lt_of_cell? w _ hw189_1)).trans hw189_1), ((HB.out.cell (World.block_lt_of_cell? w _ hw189_2)).trans hw189_2), ((HB.out.cell (World.block_lt_of_cell? w _ hw190_0)).trans hw190_0)⟩ (fun hHeld => ?_)
        clear hK K
        refine norm_ (a' := ?_) ?_ ?_
        (rotate_left; ·(show Act.put _ (some 39) _ = _; simp only [Act.put, pq_z96]; rfl))
        refine pu 11 (some 8) mz96_12 (any_of HT_.out (by kernel_rfl)) ?_
        refine done_ (done_of HT_.out (by kernel_rfl)) ?_
        try go_wp2
        go_loopg [6, 9] k1 (fun kq v6 v9 w' => ∃ (x6_2 : List Int) (x9_2 : Int), v9 = .int .i64 x9_2 ∧ Aside0 (spec_l06Under.l1 kq t181 x6_2 x7_1 t191 x9_2 l0_0 l0_1 = some r) ∧ Aside0 (kq ≤ k1) ∧ Aside0 (Kd.R (Kd.int .i64) 2 w' w.heap.size (fun k_ => some k_ ≠ (v192 : Value).ownBlock) v6 x6_2) ∧ Aside0 (Kd.R (Kd.int .i64) 2 w' w.heap.size (fun k_ => some k_ ≠ (v6 : Value).ownBlock) v192 t191) ∧ Aside0 (w'.heap[gb180]? = some (.cells #[(.slice A0_0 l0_0.length c0_0), (.slice (some ad188) l0_1.length c0_1)] 35 (0, 0))) ∧ Aside0 (Below w.heap.size w w'))
        case atStart => exact ⟨(x6_1), (0), (by first | rfl | (simp; done) | (simp [*]; done)), H', ⟨Nat.le_refl _⟩, ⟨by (with_reducible repeat (first | apply Kd.R_alloc | apply Kd.R_drewN | apply Kd.R_drew)); exact Kd.R_mono HO_6.out (fun _ hk => hk.2)⟩, ⟨by (with_reducible repeat (first | apply Kd.R_alloc | apply Kd.R_drewN | apply Kd.R_drew)); exact Kd.R_mono HO193.out (fun _ hk => hk.2)⟩, ⟨by exact BK180.out⟩, ⟨by repeat first | exact HB.out | apply pw_below_drewN⟩⟩
        case round =>
         clear H'
         try clear c1
         try clear p1
         try clear q1
         try clear hx1
         try clear p2
         try clear c4
         try clear c4b0
         try clear c6
         try clear c9
         try clear c15
         try clear c15b0
         try clear c16
         try clear c16b0
         try clear c17
         try clear c17b0
         try clear c18
         try clear c18b0
         try clear p18
         try clear q18
         try clear hx18
         try clear p19
         try clear q19
         try clear hx19
         try clear hcz11_0
         try clear hcz11_1
         try clear hcz20_0
         try clear hcz20_1
         try clear hcz6_0
         try clear hcz6_1
         try clear hx188_0
         try clear hx188_1
         try clear hx188_2
         try clear hx189_0
         try clear hx189_1
         try clear hx189_2
         try clear hx190_0
         try clear p188
         try clear p189
         try clear p190
         try clear p2
         try clear q188
         try clear q189
         try clear q190
         obtain ⟨x6_2, x9_2, rfl, HA, HK2, HO_6, HO_8, BK180, HB⟩ := hrel
         cases gk with
         | zero => exact absurd HA.out (by simp [spec_l06Under.l1])
         | succ k2 =>
          have H := HA.out
          clear HA
          simp only [spec_l06Under.l1] at H
          by_cases c23 : x9_2 < (t191.length : Int)
          ·rw [if_pos c23] at H
           have c23b0 : decide (x9_2 < (t191.length : Int)) = true := decide_eq_true c23
           clear c23
           by_cases c24 : 0 ≤ x9_2
           ·rw [if_pos c24] at H
            have c24b0 : decide (0 ≤ x9_2) = true := decide_eq_true c24
            clear c24
            replace H := Option.bind_eq_some_iff.mp H
            obtain ⟨t195, A250, H⟩ := H
            set_option simprocs false in try dsimp only at H
            have A25 := Aside0.mk A250
            clear A250
            have H' := Aside0.mk H
            clear H
            obtain ⟨Ao26, co26, eo26⟩ := Kd.R_slice HO_8.out
            subst eo26
            have p194 : 0 ≤ (x9_2 : Int) := of_decide_eq_true (by assumption)
            have q194 : x9_2 < (t191.length : Int) := of_decide_eq_true (by assumption)
            obtain ⟨ad194, e194, hx194_0⟩ := Kd.at_int (Kd.R_reads' HO_8.out).2.2 x9_2 p194 q194
            cases e194
            replace p194 := eq_true p194
            replace q194 := eq_true q194
            obtain ⟨Ao27, co27, eo27⟩ := Kd.R_slice HO_6.out
            subst eo27
            go_wp2_with (first | ((with_reducible refine gate_callee (f := 100) rfl ?_); refine gl (some 51) Tryz.func100 #[.slice Ao27 x6_2.length co27, .int .i64 (rd t191 x9_2)] ?_; (with_reducible refine (spec_l00Put.calls k2 _ _ x6_2 (rd t191 x9_2) t195 _ ?side1 ?side2 A25.out).mono ?_); (case side1 => exact (Kd.R_reads' HO_6.out).2.2); (case side2 => exact (Kd.R_reads' HO_6.out).2.1); rintro e w28 ⟨v196, rfl, ho0, hb⟩; refine ⟨_, rfl, ?_⟩; have n0_ := Aside0.mk (Kd.R_elder' (by (with_reducible repeat (first | apply Kd.R_alloc | apply Kd.R_drewN | apply Kd.R_drew)); exact HO_6.out) (Kd.R_base ho0) hb); have n1_ := Aside0.mk (Kd.R_elder' (by (with_reducible repeat (first | apply Kd.R_alloc | apply Kd.R_drewN | apply Kd.R_drew)); exact HO_8.out) (Kd.R_base ho0) hb); have n2_ := Aside0.mk (Kd.R_lower (Kd.R_new' (Kd.R_new' ho0 (Kd.R_lt (by (with_reducible repeat (first | apply Kd.R_alloc | apply Kd.R_drewN | apply Kd.R_drew)); exact HO_6.out))) (Kd.R_lt (by (with_reducible repeat (first | apply Kd.R_alloc | apply Kd.R_drewN | apply Kd.R_drew)); exact HO_8.out))) (below_size (by repeat first | exact HB.out | apply pw_below_drewN))); have n3_ := Aside0.mk (blk_below (by exact BK180.out) hb); have n4_ := Aside0.mk (below_step (by repeat first | exact HB.out | apply pw_below_drewN) hb); clear HO_6; clear HO_8; clear BK180; clear HB; have HO_6 := n0_; have HO_8 := n1_; have HO197 := n2_; have BK180 := n3_; have HB := n4_; clear n0_ n1_ n2_ n3_ n4_; (try clear hb); (try clear hb2); (try clear hk); (try clear hi); (try clear ho0)))
            go_roundg k2
            case measure => have := HK1.out; have := HK2.out; omega
            case rel => exact ⟨(t195), (wrap64 (x9_2 + 1)), (by first | rfl | (simp; done) | (simp [*]; done)), H', ⟨by have := HK1.out; have := HK2.out; omega⟩, ⟨by (with_reducible repeat (first | apply Kd.R_alloc | apply Kd.R_drewN | apply Kd.R_drew)); exact Kd.R_mono HO197.out (fun _ hk => hk.2)⟩, ⟨by (with_reducible repeat (first | apply Kd.R_alloc | apply Kd.R_drewN | apply Kd.R_drew)); exact Kd.R_mono HO_8.out (fun _ hk => hk.2)⟩, ⟨by exact BK180.out⟩, ⟨by repeat first | exact HB.out | apply pw_below_drewN⟩⟩
           ·rw [if_neg c24] at H
            exact absurd H (by simp)
          ·rw [if_neg c23] at H
           have c23b0 : decide (x9_2 < (t191.length : Int)) = false := decide_eq_false c23
           clear c23
           have H' := Aside0.mk H
           clear H
           obtain ⟨Ao29, co29, eo29⟩ := Kd.R_slice HO_8.out
           subst eo29
           go_wp2
           go_roundg k2
           case measure => have := HK1.out; have := HK2.out; omega
           case rel => exact ⟨(x6_2), (wrap64 (x7_1 + 1)), (by first | rfl | (simp; done) | (simp [*]; done)), H', ⟨by have := HK1.out; have := HK2.out; omega⟩, ⟨by (with_reducible repeat (first | apply Kd.R_alloc | apply Kd.R_drewN | apply Kd.R_drew)); exact Kd.R_mono HO_6.out (fun _ hk => trivial)⟩, ⟨by exact BK180.out⟩, ⟨by repeat first | exact HB.out | apply pw_below_drewN⟩⟩
       ·rw [if_neg c18] at H
        exact absurd H (by simp)
      ·rw [if_neg c17] at H
       have c17b0 : decide (x7_1 < (((rd_T68 l0_1 t181).f2).length : Int)) = false := decide_eq_false c17
       clear c17
       obtain rfl := Option.some.inj H
       have hcz30_0 := (blk_cell BK180.out 0).trans rfl
       have hcz30_1 := (blk_cell BK180.out 1).trans rfl
       have p188 : 0 ≤ (t181 : Int) := of_decide_eq_true (by assumption)
       have q188 : t181 < (l0_1.length : Int) := of_decide_eq_true (by assumption)
       obtain ⟨ad188, A188_2, c188_2, e188, hx188_0, hx188_1, hx188_2, hl188_2, hi188_2⟩ := at_T68 HR0_1.out t181 p188 q188
       cases e188
       replace hx188_0 := (HB.out.cell (World.block_lt_of_cell? w _ hx188_0)).trans hx188_0
       replace hx188_1 := (HB.out.cell (World.block_lt_of_cell? w _ hx188_1)).trans hx188_1
       replace hx188_2 := (HB.out.cell (World.block_lt_of_cell? w _ hx188_2)).trans hx188_2
       have HR188_2 := Aside0.mk hi188_2
       have HC188_2 := Aside0.mk hl188_2
       clear hi188_2 hl188_2
       replace p188 := eq_true p188
       replace q188 := eq_true q188
       go_wp2
       go_ret
       exact ⟨_, by first | rfl | (simp [*, errW_none, errW_some] <;> rfl), by (with_reducible repeat (first | apply Kd.R_alloc | apply Kd.R_drewN | apply Kd.R_drew)); exact HO_6.out, by repeat first | exact HB.out | apply pw_below_drewN⟩
     ·rw [if_neg c16] at H
      exact absurd H (by simp)
    ·rw [if_neg c15] at H
     exact absurd H (by simp)

/-! ### spec_l06Weight: function 84 -/
def spec_l06Weight.l0 : Nat → List Int → Int → Int → List (S72) → List (S68) → Option (Int)
 | 0, _, _, _, _, _ => none
 | k + 1, x5, x6, x7, x199000, x199001 => if x7 < (x5.length : Int) then (if 0 ≤ x7 then ((spec_l06Device.f k x199000 x199001 (rd x5 x7)).bind fun t203 => (if 0 ≤ t203 then (if t203 < (x199000.length : Int) then (spec_l06Weight.l0 k x5 (wrap64 (x6 + ((rd_T72 x199000 t203).f1))) (wrap64 (x7 + 1)) x199000 x199001) else (none)) else (none))) else (none)) else (some x6)
def spec_l06Weight.f (k : Nat) (l0_0 : List (S72)) (l0_1 : List (S68)) (a1 : Int) : Option (Int) := (spec_l06Under.f k l0_0 l0_1 a1).bind fun t199 => (spec_l06Weight.l0 k t199 0 0 l0_0 l0_1)
def spec_l06Weight.T6 : Bool × List (List Nat × List Nat) := (true, [([], []), ([], []), ([1], [1]), ([], []), ([], []), ([], []), ([4, 5], [4, 5]), ([6], [6]), ([3, 7], [3, 7]), ([2, 8], [2, 8]), ([9], [9]), ([10], [10]), ([0, 11], [0, 11]), ([12, 8, 0, 1, 2, 3, 4, 5, 6, 7, 8, 9, 10, 11, 12], [0, 12])])
def spec_l06Weight.B6 : List Nat := [0, 0, 2, 0, 0, 0, 48, 112, 248, 510, 1022, 2046, 4095, 8191]
theorem spec_l06Weight.tab6 : rtab .any (opsOf Tryz.f84 6) = spec_l06Weight.T6 := by kernel_rfl
theorem spec_l06Weight.bits6 : waitsOk spec_l06Weight.T6.2 spec_l06Weight.B6 = true := by kernel_rfl
set_option maxHeartbeats 8000000 in
set_option maxRecDepth 100000 in
theorem spec_l06Weight.calls (k : Nat) (A0_0 : Option Addr) (c0_0 : Nat) (l0_0 : List (S72)) (A0_1 : Option Addr) (c0_1 : Nat) (l0_1 : List (S68)) (a1 : Int) (r : Int) (w : World) (hr0_0 : Kd.C k72 w A0_0 l0_0.length l0_0) (hc0_0 : l0_0.length ≤ c0_0) (hr0_1 : Kd.C k68 w A0_1 l0_1.length l0_1) (hc0_1 : l0_1.length ≤ c0_1) (h : spec_l06Weight.f k l0_0 l0_1 a1 = some r) :
  Calls Tryz.prog 84 #[.agg #[.slice A0_0 l0_0.length c0_0, .slice A0_1 l0_1.length c0_1], .int .i64 a1] w fun e w' => e = .returned (.int .i64 r) ∧ Below w.heap.size w w' := by
 have hu35 := Tryz.underlying35
 have HR0_0 := Aside0.mk hr0_0
 have HC0_0 := Aside0.mk hc0_0
 clear hr0_0 hc0_0
 have HR0_1 := Aside0.mk hr0_1
 have HC0_1 := Aside0.mk hc0_1
 clear hr0_1 hc0_1
 have HB := Aside0.mk (Below.refl w.heap.size w)
 have H : ((spec_l06Under.f k l0_0 l0_1 a1).bind fun t199 => (spec_l06Weight.l0 k t199 0 0 l0_0 l0_1)) = some r := h
 clear h
 replace H := Option.bind_eq_some_iff.mp H
 obtain ⟨t199, A30, H⟩ := H
 set_option simprocs false in try dsimp only at H
 have A3 := Aside0.mk A30
 clear A30
 have H' := Aside0.mk H
 clear H
 go_enter Tryz.func84, Tryz.ntmps84
 go_wp2_with (first | ((with_reducible refine gate_dst (N := 2) rfl ?_); refine box_event ?hg (N := 2) ?hd (cs := #[.slice A0_0 l0_0.length c0_0, .slice A0_1 l0_1.length c0_1]) (t := 35) ?hr ?_; (case hd => rfl); (case hg => rfl); (case hr => first | (go_simp; done) | (go_simp; rfl)); intro gb198 hg w4 hbox hb; have n0_ := Aside0.mk (below_step (by repeat first | exact HB.out | apply pw_below_drewN) hb); have n1_ := Aside0.mk (hbox); clear HB; have HB := n0_; have BK198 := n1_; clear n0_ n1_; clear hb hbox hg; have hcz5_0 := (blk_cell BK198.out 0).trans rfl; have hcz5_1 := (blk_cell BK198.out 1).trans rfl) | ((with_reducible refine gate_callee (f := 96) rfl ?_); refine gl (some 10) Tryz.func96 #[.agg #[.slice A0_0 l0_0.length c0_0, .slice A0_1 l0_1.length c0_1], .int .i64 a1] ?_; (with_reducible refine (spec_l06Under.calls k _ _ l0_0 _ _ l0_1 a1 t199 _ ?side1 ?side2 ?side3 ?side4 A3.out).mono ?_); (case side1 => exact (Kd.C_below HR0_0.out HB.out)); (case side2 => exact HC0_0.out); (case side3 => exact (Kd.C_below HR0_1.out HB.out)); (case side4 => exact HC0_1.out); rintro e w6 ⟨v200, rfl, ho0, hb⟩; refine ⟨_, rfl, ?_⟩; have n0_ := Aside0.mk (Kd.R_lower ho0 (below_size (by repeat first | exact HB.out | apply pw_below_drewN))); have n1_ := Aside0.mk (blk_below (by exact BK198.out) hb); have n2_ := Aside0.mk (below_step (by repeat first | exact HB.out | apply pw_below_drewN) hb); clear BK198; clear HB; have HO201 := n0_; have BK198 := n1_; have HB := n2_; clear n0_ n1_ n2_; (try clear hb); (try clear hb2); (try clear hk); (try clear hi); (try clear ho0)))
 go_loopg [6, 7] k (fun kq v6 v7 w' => ∃ (x6_1 : Int) (x7_1 : Int), v6 = .int .i64 x6_1 ∧ v7 = .int .i64 x7_1 ∧ Aside0 (spec_l06Weight.l0 kq t199 x6_1 x7_1 l0_0 l0_1 = some r) ∧ Aside0 (kq ≤ k) ∧ Aside0 (Kd.R (Kd.int .i64) 2 w' w.heap.size (fun _ => True) v200 t199) ∧ Aside0 (w'.heap[gb198]? = some (.cells #[(.slice A0_0 l0_0.length c0_0), (.slice A0_1 l0_1.length c0_1)] 35 (0, 0))) ∧ Aside0 (Below w.heap.size w w'))
 case atStart => exact ⟨(0), (0), (by first | rfl | (simp; done) | (simp [*]; done)), (by first | rfl | (simp; done) | (simp [*]; done)), H', ⟨Nat.le_refl _⟩, ⟨by (with_reducible repeat (first | apply Kd.R_alloc | apply Kd.R_drewN | apply Kd.R_drew)); exact HO201.out⟩, ⟨by exact BK198.out⟩, ⟨by repeat first | exact HB.out | apply pw_below_drewN⟩⟩
 case round =>
  clear H'
  try clear p2
  try clear hcz5_0
  try clear hcz5_1
  obtain ⟨x6_1, x7_1, rfl, rfl, HA, HK1, HO_5, BK198, HB⟩ := hrel
  cases gk with
  | zero => exact absurd HA.out (by simp [spec_l06Weight.l0])
  | succ k1 =>
   have H := HA.out
   clear HA
   simp only [spec_l06Weight.l0] at H
   by_cases c7 : x7_1 < (t199.length : Int)
   ·rw [if_pos c7] at H
    have c7b0 : decide (x7_1 < (t199.length : Int)) = true := decide_eq_true c7
    clear c7
    by_cases c8 : 0 ≤ x7_1
    ·rw [if_pos c8] at H
     have c8b0 : decide (0 ≤ x7_1) = true := decide_eq_true c8
     clear c8
     replace H := Option.bind_eq_some_iff.mp H
     obtain ⟨t203, A90, H⟩ := H
     set_option simprocs false in try dsimp only at H
     have A9 := Aside0.mk A90
     clear A90
     by_cases c10 : 0 ≤ t203
     ·rw [if_pos c10] at H
      have c10b0 : decide (0 ≤ t203) = true := decide_eq_true c10
      clear c10
      by_cases c11 : t203 < (l0_0.length : Int)
      ·rw [if_pos c11] at H
       have c11b0 : decide (t203 < (l0_0.length : Int)) = true := decide_eq_true c11
       clear c11
       have H' := Aside0.mk H
       clear H
       obtain ⟨Ao12, co12, eo12⟩ := Kd.R_slice HO_5.out
       subst eo12
       try go_wp2
       have n0_ := Aside0.mk (Kd.R_drew HO_5.out)
       have n1_ := Aside0.mk (blk_drew BK198.out)
       have n2_ := Aside0.mk (below_drew1 HB.out)
       clear HO_5
       clear BK198
       clear HB
       have HO_5 := n0_
       have BK198 := n1_
       have HB := n2_
       clear n0_ n1_ n2_
       have p202 : 0 ≤ (x7_1 : Int) := of_decide_eq_true (by assumption)
       have q202 : x7_1 < (t199.length : Int) := of_decide_eq_true (by assumption)
       obtain ⟨ad202, e202, hx202_0⟩ := Kd.at_int (Kd.R_reads' HO_5.out).2.2 x7_1 p202 q202
       cases e202
       replace p202 := eq_true p202
       replace q202 := eq_true q202
       have p204 : 0 ≤ (t203 : Int) := of_decide_eq_true (by assumption)
       have q204 : t203 < (l0_0.length : Int) := of_decide_eq_true (by assumption)
       obtain ⟨ad204, e204, hx204_0, hx204_1⟩ := at_T72 HR0_0.out t203 p204 q204
       have hw204_1 := hx204_1
       have hw204_0 := hx204_0
       cases e204
       replace hx204_0 := (HB.out.cell (World.block_lt_of_cell? w _ hx204_0)).trans hx204_0
       replace hx204_1 := (HB.out.cell (World.block_lt_of_cell? w _ hx204_1)).trans hx204_1
       replace p204 := eq_true p204
       replace q204 := eq_true q204
       refine start_ (n := 14) (S := fun w' => w'.cell? ⟨gb198, 0, none⟩ = some (.slice (some ad204) l0_0.length c0_0) ∧ w'.cell? ⟨gb198, 1, none⟩ = some (.slice A0_1 l0_1.length c0_1) ∧ w'.cell? (ad202.add (x7_1).toNat) = some (.int .i64 (rd t199 x7_1)) ∧ w'.cell? (ad204.add ((t203).toNat * 2)) = some (.int .i64 ((rd_T72 l0_0 t203).f0)) ∧ w'.cell? ⟨(ad204.add ((t203).toNat * 2)).block, (ad204.add ((t203).toNat * 2)).off + 1, none⟩ = some (.int .i64 ((rd_T72 l0_0 t203).f1))) (ds := []) #[false, false, false, false, false, false, false, false, false, false, false, false, false, false] (by kernel_rfl) rfl rfl ⟨(blk_cell BK198.out 0).trans rfl, (blk_cell BK198.out 1).trans rfl, hx202_0, ((HB.out.cell (World.block_lt_of_cell? w _ hw204_0)).trans hw204_0), ((HB.out.cell (World.block_lt_of_cell? w _ hw204_1)).trans hw204_1)⟩ (fun hHeld => ?_); refine with_tabW spec_l06Weight.tab6 spec_l06Weight.bits6 (fun HT_ HW_ => ?_)
       generalize wr.drew = w13 at HO_5 BK198 HB hx202_0 hx204_0 hx204_1 hHeld ⊢
       refine pure_ (i := 0) (N := some 17) (v := ?_) (a' := ?_) #[true, false, false, false, false, false, false, false, false, false, false, false, false, false] rfl rfl (any_of HT_.out (by kernel_rfl)) (fun _ _ _ h => h) (Or.inl ⟨by rfl, ?_⟩) ?_ ?_
       rotate_left
       ·intro w'
        go_simp
        with_reducible rfl
       rotate_left
       ·simp only [Act.put, List.setIfInBounds_toArray, List.set_cons_zero, List.set_cons_succ, i64_w, i32_w]
        rfl
       refine pure_ (i := 1) (N := some 18) (v := ?_) (a' := ?_) #[true, true, false, false, false, false, false, false, false, false, false, false, false, false] rfl rfl (any_of HT_.out (by kernel_rfl)) (fun _ _ _ h => h) (Or.inl ⟨by rfl, ?_⟩) ?_ ?_
       rotate_left
       ·intro w'
        go_simp
        with_reducible rfl
       rotate_left
       ·simp only [Act.put, List.setIfInBounds_toArray, List.set_cons_zero, List.set_cons_succ, i64_w, i32_w]
        rfl
       refine pure_ (i := 4) (N := some 21) (v := ?_) (a' := ?_) #[true, true, false, false, true, false, false, false, false, false, false, false, false, false] rfl rfl (any_of HT_.out (by kernel_rfl)) (fun _ _ _ h => h) (Or.inl ⟨by rfl, ?_⟩) ?_ ?_
       rotate_left
       ·intro w'
        go_simp
        with_reducible rfl
       rotate_left
       ·simp only [Act.put, List.setIfInBounds_toArray, List.set_cons_zero, List.set_cons_succ, i64_w, i32_w]
        rfl
       refine pure_ (i := 5) (N := some 22) (v := ?_) (a' := ?_) #[true, true, false, false, true, true, false, false, false, false, false, false, false, false] rfl rfl (any_of HT_.out (by kernel_rfl)) (fun _ _ _ h => h) (Or.inl ⟨by rfl, ?_⟩) ?_ ?_
       rotate_left
       ·intro w'
        go_simp
        with_reducible rfl
       rotate_left
       ·simp only [Act.put, List.setIfInBounds_toArray, List.set_cons_zero, List.set_cons_succ, i64_w, i32_w]
        rfl
       refine pure_ (i := 6) (N := some 23) (v := ?_) (a' := ?_) #[true, true, false, false, true, true, true, false, false, false, false, false, false, false] rfl rfl (any_of HT_.out (by kernel_rfl)) (fun _ _ _ h => h) (Or.inl ⟨by rfl, ?_⟩) ?_ ?_
       rotate_left
       ·intro w'
        go_simp
        with_reducible rfl
       rotate_left
       ·simp only [Act.put, List.setIfInBounds_toArray, List.set_cons_zero, List.set_cons_succ, i64_w, i32_w]
        rfl
       refine take_ (i := 2) (N := some 19) (v := ?_) (a' := ?_) #[true, true, true, false, true, true, true, false, false, false, false, false, false, false] rfl rfl (take_ofW HT_.out HW_.out (by kernel_rfl)) (fun _ _ _ h => h) (Or.inl ⟨by rfl, ?_⟩) hHeld ?_ ?_
       rotate_left
       ·rintro w' ⟨s0, s1, s2, s3, s4⟩
        go_simp
        with_reducible rfl
       rotate_left
       ·simp only [Act.put, List.setIfInBounds_toArray, List.set_cons_zero, List.set_cons_succ, i64_w, i32_w]
        rfl
       refine take_ (i := 3) (N := some 20) (v := ?_) (a' := ?_) #[true, true, true, true, true, true, true, false, false, false, false, false, false, false] rfl rfl (take_ofW HT_.out HW_.out (by kernel_rfl)) (fun _ _ _ h => h) (Or.inl ⟨by rfl, ?_⟩) hHeld ?_ ?_
       rotate_left
       ·rintro w' ⟨s0, s1, s2, s3, s4⟩
        go_simp
        with_reducible rfl
       rotate_left
       ·simp only [Act.put, List.setIfInBounds_toArray, List.set_cons_zero, List.set_cons_succ, i64_w, i32_w]
        rfl
       refine take_ (i := 7) (N := some 24) (v := ?_) (a' := ?_) #[true, true, true, true, true, true, true, true, false, false, false, false, false, false] rfl rfl (take_ofW HT_.out HW_.out (by kernel_rfl)) (fun _ _ _ h => h) (Or.inl ⟨by rfl, ?_⟩) hHeld ?_ ?_
       rotate_left
       ·rintro w' ⟨s0, s1, s2, s3, s4⟩
        go_simp
        with_reducible rfl
       rotate_left
       ·simp only [Act.put, List.setIfInBounds_toArray, List.set_cons_zero, List.set_cons_succ, i64_w, i32_w]
        rfl
       refine one_ (i := 8) (N := some 25) #[true, true, true, true, true, true, true, true, true, false, false, false, false, false] rfl rfl (one_of HT_.out (by kernel_rfl)) (by decide) (fun K hK => ?_)
       refine goes_ Tryz.func61 (by kernel_rfl) rfl #[.agg #[.slice (some ad204) l0_0.length c0_0, .slice A0_1 l0_1.length c0_1], .int .i64 (rd t199 x7_1)] (by rfl) rfl rfl (by (try simp only [List.map_toArray, List.map_cons, List.map_nil]); first | done | rfl) ?_
       with_reducible refine (spec_l06Device.calls k1 _ _ l0_0 _ _ l0_1 (rd t199 x7_1) t203 _ ?side1 ?side2 ?side3 ?side4 A9.out).mono ?_
       (case side1 => exact (Kd.C_below HR0_0.out HB.out))
       (case side2 => exact HC0_0.out)
       (case side3 => exact (Kd.C_below HR0_1.out HB.out))
       (case side4 => exact HC0_1.out)
       rintro e w14 ⟨rfl, hb⟩
       have HS2_ := (hb.cell (World.block_lt_of_cell? _ _ (hHeld.2.2.1))).trans (hHeld.2.2.1)
       refine ⟨_, rfl, ?_⟩
       have n0_ := Aside0.mk (Kd.R_below (by (with_reducible repeat (first | apply Kd.R_alloc | apply Kd.R_drewN | apply Kd.R_drew)); exact HO_5.out) hb)
       have n1_ := Aside0.mk (blk_below (by exact BK198.out) hb)
       have n2_ := Aside0.mk (below_step (by repeat first | exact HB.out | apply pw_below_drewN) hb)
       clear HO_5
       clear BK198
       clear HB
       have HO_5 := n0_
       have BK198 := n1_
       have HB := n2_
       clear n0_ n1_ n2_
       (try clear hb)
       (try clear hb2)
       (try clear hk)
       (try clear hi)
       refine hK.out _ _ ⟨(blk_cell BK198.out 0).trans rfl, (blk_cell BK198.out 1).trans rfl, HS2_, ((HB.out.cell (World.block_lt_of_cell? w _ hw204_0)).trans hw204_0), ((HB.out.cell (World.block_lt_of_cell? w _ hw204_1)).trans hw204_1)⟩ (fun hHeld => ?_)
       clear hK K
       refine norm_ (a' := ?_) ?_ ?_
       rotate_left
       ·show Act.put _ (some 25) _ = _
        simp only [Act.put, List.setIfInBounds_toArray, List.set_cons_zero, List.set_cons_succ, i64_w, i32_w]
        rfl
       refine pure_ (i := 9) (N := some 26) (v := ?_) (a' := ?_) #[true, true, true, true, true, true, true, true, true, true, false, false, false, false] rfl rfl (any_of HT_.out (by kernel_rfl)) (fun _ _ _ h => h) (Or.inl ⟨by rfl, ?_⟩) ?_ ?_
       rotate_left
       ·intro w'
        go_simp
        with_reducible rfl
       rotate_left
       ·simp only [Act.put, List.setIfInBounds_toArray, List.set_cons_zero, List.set_cons_succ, i64_w, i32_w]
        rfl
       refine pure_ (i := 10) (N := some 27) (v := ?_) (a' := ?_) #[true, true, true, true, true, true, true, true, true, true, true, false, false, false] rfl rfl (any_of HT_.out (by kernel_rfl)) (fun _ _ _ h => h) (Or.inl ⟨by rfl, ?_⟩) ?_ ?_
       rotate_left
       ·intro w'
        go_simp
        with_reducible rfl
       rotate_left
       ·simp only [Act.put, List.setIfInBounds_toArray, List.set_cons_zero, List.set_cons_succ, i64_w, i32_w]
        rfl
       refine take_ (i := 11) (N := some 28) (v := ?_) (a' := ?_) #[true, true, true, true, true, true, true, true, true, true, true, true, false, false] rfl rfl (take_ofW HT_.out HW_.out (by kernel_rfl)) (fun _ _ _ h => h) (Or.inl ⟨by rfl, ?_⟩) hHeld ?_ ?_
       rotate_left
       ·rintro w' ⟨s0, s1, s2, s3, s4⟩
        go_simp
        with_reducible rfl
       rotate_left
       ·simp only [Act.put, List.setIfInBounds_toArray, List.set_cons_zero, List.set_cons_succ, i64_w, i32_w]
        rfl
       refine pure_ (i := 12) (N := some 29) (v := ?_) (a' := ?_) #[true, true, true, true, true, true, true, true, true, true, true, true, true, false] rfl rfl (any_of HT_.out (by kernel_rfl)) (fun _ _ _ h => h) (Or.inl ⟨by rfl, ?_⟩) ?_ ?_
       rotate_left
       ·intro w'
        go_simp
        with_reducible rfl
       rotate_left
       ·simp only [Act.put, List.setIfInBounds_toArray, List.set_cons_zero, List.set_cons_succ, i64_w, i32_w]
        rfl
       refine pure_ (i := 13) (N := some 6) (v := ?_) (a' := ?_) #[true, true, true, true, true, true, true, true, true, true, true, true, true, true] rfl rfl (any_of HT_.out (by kernel_rfl)) (fun _ _ _ h => h) (Or.inl ⟨by rfl, ?_⟩) ?_ ?_
       rotate_left
       ·intro w'
        go_simp
        with_reducible rfl
       rotate_left
       ·simp only [Act.put, List.setIfInBounds_toArray, List.set_cons_zero, List.set_cons_succ, i64_w, i32_w]
        rfl
       refine done_ (done_of HT_.out (by kernel_rfl)) ?_
       try go_wp2
       go_roundg k1
       case measure => have := HK1.out; omega
       case rel => exact ⟨(wrap64 (x6_1 + ((rd_T72 l0_0 t203).f1))), (wrap64 (x7_1 + 1)), (by first | rfl | (simp; done) | (simp [*]; done)), (by first | rfl | (simp; done) | (simp [*]; done)), H', ⟨by have := HK1.out; omega⟩, ⟨by (with_reducible repeat (first | apply Kd.R_alloc | apply Kd.R_drewN | apply Kd.R_drew)); exact HO_5.out⟩, ⟨by exact BK198.out⟩, ⟨by repeat first | exact HB.out | apply pw_below_drewN⟩⟩
      ·rw [if_neg c11] at H
       exact absurd H (by simp)
     ·rw [if_neg c10] at H
      exact absurd H (by simp)
    ·rw [if_neg c8] at H
     exact absurd H (by simp)
   ·rw [if_neg c7] at H
    have c7b0 : decide (x7_1 < (t199.length : Int)) = false := decide_eq_false c7
    clear c7
    obtain rfl := Option.some.inj H
    obtain ⟨Ao15, co15, eo15⟩ := Kd.R_slice HO_5.out
    subst eo15
    go_wp2
    go_ret
    exact ⟨by first | rfl | (simp [*, errW_none, errW_some] <;> rfl), by repeat first | exact HB.out | apply pw_below_drewN⟩

/-! ### spec_l00Max: function 101 -/
def spec_l00Max.f (a0 : Int) (a1 : Int) : Option (Int) := if a0 > a1 then (some a0) else (some a1)
set_option maxHeartbeats 8000000 in
set_option maxRecDepth 100000 in
theorem spec_l00Max.calls (a0 : Int) (a1 : Int) (r : Int) (w : World) (h : spec_l00Max.f a0 a1 = some r) :
  Calls Tryz.prog 101 #[.int .i64 a0, .int .i64 a1] w fun e w' => e = .returned (.int .i64 r) ∧ Drawn0 w w' := by
 have H : (if a0 > a1 then (some a0) else (some a1)) = some r := h
 clear h
 by_cases c3 : a0 > a1
 ·rw [if_pos c3] at H
  have c3b0 : decide (a1 < a0) = true := decide_eq_true c3
  clear c3
  obtain rfl := Option.some.inj H
  go_enter Tryz.func101, Tryz.ntmps101
  go_wp2
  go_ret
  exact ⟨by first | rfl | (simp; done) | (simp [*]; done), by repeat (first | exact Drawn0.refl _ | apply Drawn0.step)⟩
 ·rw [if_neg c3] at H
  have c3b0 : decide (a1 < a0) = false := decide_eq_false c3
  clear c3
  obtain rfl := Option.some.inj H
  go_enter Tryz.func101, Tryz.ntmps101
  go_wp2
  go_ret
  exact ⟨by first | rfl | (simp; done) | (simp [*]; done), by repeat (first | exact Drawn0.refl _ | apply Drawn0.step)⟩

/-! ### spec_l01Low: function 109 -/
def spec_l01Low.f (a0 : Int) : Option (Int) := some (Go.bits .and .i64 a0 4294967295)
set_option maxHeartbeats 8000000 in
set_option maxRecDepth 100000 in
theorem spec_l01Low.calls (a0 : Int) (r : Int) (w : World) (h : spec_l01Low.f a0 = some r) :
  Calls Tryz.prog 109 #[.int .i64 a0] w fun e w' => e = .returned (.int .i64 r) ∧ Drawn0 w w' := by
 have H : (some (Go.bits .and .i64 a0 4294967295)) = some r := h
 clear h
 obtain rfl := Option.some.inj H
 go_enter Tryz.func109, Tryz.ntmps109
 go_wp2
 go_ret
 exact ⟨by first | rfl | (simp; done) | (simp [*]; done), by repeat (first | exact Drawn0.refl _ | apply Drawn0.step)⟩

/-! ### spec_l01Mix: function 105 -/
def spec_l01Mix.l0 : Nat → List Int → Int → Int → Option (Int)
 | 0, _, _, _ => none
 | k + 1, x0, x3, x4 => if x4 < (x0.length : Int) then (if 0 ≤ x4 then ((spec_l01Low.f (rd x0 x4)).bind fun t206 => ((spec_l01Low.f (wrap64 ((Go.bits .xor .i64 x3 t206) * 16777619))).bind fun t207 => ((spec_l01Low.f (wrap64 ((Go.bits .xor .i64 t207 (t207 / 32768)) * 1540483477))).bind fun t208 => (spec_l01Mix.l0 k x0 (Go.bits .xor .i64 t208 (t208 / 8192)) (wrap64 (x4 + 1)))))) else (none)) else (some x3)
def spec_l01Mix.f (k : Nat) (l0 : List Int) : Option (Int) := spec_l01Mix.l0 k l0 2166136261 0
set_option maxHeartbeats 8000000 in
set_option maxRecDepth 100000 in
theorem spec_l01Mix.calls (k : Nat) (A0 : Option Addr) (c0 : Nat) (l0 : List Int) (r : Int) (w : World) (hr0 : Kd.C (Kd.int .i64) w A0 l0.length l0) (hc0 : l0.length ≤ c0) (h : spec_l01Mix.f k l0 = some r) :
  Calls Tryz.prog 105 #[.slice A0 l0.length c0] w fun e w' => e = .returned (.int .i64 r) ∧ Drawn0 w w' := by
 have HR0 := Aside0.mk hr0
 have HC0 := Aside0.mk hc0
 clear hr0 hc0
 have H : (spec_l01Mix.l0 k l0 2166136261 0) = some r := h
 clear h
 have H' := Aside0.mk H
 clear H
 go_enter Tryz.func105, Tryz.ntmps105
 go_wp2
 go_loopg [3, 4] k (fun kq v3 v4 w' => ∃ (x3_1 : Int) (x4_1 : Int), v3 = .int .i64 x3_1 ∧ v4 = .int .i64 x4_1 ∧ Aside0 (spec_l01Mix.l0 kq l0 x3_1 x4_1 = some r) ∧ Aside0 (kq ≤ k) ∧ Drawn0 w w')
 case atStart => exact ⟨(2166136261), (0), (by first | rfl | (simp; done) | (simp [*]; done)), (by first | rfl | (simp; done) | (simp [*]; done)), H', ⟨Nat.le_refl _⟩, by repeat (first | exact Drawn0.refl _ | apply Drawn0.step)⟩
 case round =>
  clear H'
  try clear c1
  obtain ⟨x3_1, x4_1, rfl, rfl, HA, HK1, ⟨m1, rfl⟩⟩ := hrel
  cases gk with
  | zero => exact absurd HA.out (by simp [spec_l01Mix.l0])
  | succ k1 =>
   have H := HA.out
   clear HA
   simp only [spec_l01Mix.l0] at H
   by_cases c2 : x4_1 < (l0.length : Int)
   ·rw [if_pos c2] at H
    have c2b0 : decide (x4_1 < (l0.length : Int)) = true := decide_eq_true c2
    clear c2
    by_cases c3 : 0 ≤ x4_1
    ·rw [if_pos c3] at H
     have c3b0 : decide (0 ≤ x4_1) = true := decide_eq_true c3
     clear c3
     replace H := Option.bind_eq_some_iff.mp H
     obtain ⟨t206, A40, H⟩ := H
     set_option simprocs false in try dsimp only at H
     have A4 := Aside0.mk A40
     clear A40
     replace H := Option.bind_eq_some_iff.mp H
     obtain ⟨t207, A50, H⟩ := H
     set_option simprocs false in try dsimp only at H
     have A5 := Aside0.mk A50
     clear A50
     replace H := Option.bind_eq_some_iff.mp H
     obtain ⟨t208, A60, H⟩ := H
     set_option simprocs false in try dsimp only at H
     have A6 := Aside0.mk A60
     clear A60
     have H' := Aside0.mk H
     clear H
     have p205 : 0 ≤ (x4_1 : Int) := of_decide_eq_true (by assumption)
     have q205 : x4_1 < (l0.length : Int) := of_decide_eq_true (by assumption)
     obtain ⟨ad205, e205, hx205_0⟩ := Kd.at_int HR0.out x4_1 p205 q205
     cases e205
     replace p205 := eq_true p205
     replace q205 := eq_true q205
     go_wp2_with (first | ((with_reducible refine gate_callee (f := 109) rfl ?_); refine gl (some 16) Tryz.func109 #[.int .i64 (rd l0 x4_1)] ?_; (with_reducible refine (spec_l01Low.calls (rd l0 x4_1) t206 _ A4.out).mono ?_); rintro e w' ⟨rfl, ⟨nd, rfl⟩⟩; refine ⟨_, rfl, ?_⟩) | ((with_reducible refine gate_callee (f := 109) rfl ?_); refine gl (some 19) Tryz.func109 #[.int .i64 (wrap64 ((Go.bits .xor .i64 x3_1 t206) * 16777619))] ?_; (with_reducible refine (spec_l01Low.calls (wrap64 ((Go.bits .xor .i64 x3_1 t206) * 16777619)) t207 _ A5.out).mono ?_); rintro e w' ⟨rfl, ⟨nd, rfl⟩⟩; refine ⟨_, rfl, ?_⟩) | ((with_reducible refine gate_callee (f := 109) rfl ?_); refine gl (some 26) Tryz.func109 #[.int .i64 (wrap64 ((Go.bits .xor .i64 t207 (t207 / 32768)) * 1540483477))] ?_; (with_reducible refine (spec_l01Low.calls (wrap64 ((Go.bits .xor .i64 t207 (t207 / 32768)) * 1540483477)) t208 _ A6.out).mono ?_); rintro e w' ⟨rfl, ⟨nd, rfl⟩⟩; refine ⟨_, rfl, ?_⟩))
     go_roundg k1
     case measure => have := HK1.out; omega
     case rel => exact ⟨(Go.bits .xor .i64 t208 (t208 / 8192)), (wrap64 (x4_1 + 1)), (by first | rfl | (simp; done) | (simp [*]; done)), (by first | rfl | (simp; done) | (simp [*]; done)), H', ⟨by have := HK1.out; omega⟩, by repeat (first | exact Drawn0.refl _ | apply Drawn0.step)⟩
    ·rw [if_neg c3] at H
     exact absurd H (by simp)
   ·rw [if_neg c2] at H
    have c2b0 : decide (x4_1 < (l0.length : Int)) = false := decide_eq_false c2
    clear c2
    obtain rfl := Option.some.inj H
    go_wp2
    go_ret
    exact ⟨by first | rfl | (simp; done) | (simp [*]; done), by repeat (first | exact Drawn0.refl _ | apply Drawn0.step)⟩

/-! ### spec_l07Ticket: function 102 -/
def spec_l07Ticket.f (k : Nat) (a0 : Int) (a1 : Int) (a2 : Int) (a3 : Int) : Option (Int) := (spec_l01Mix.f k (([a2, a3, a0, a1] : List Int))).bind fun t212 => (some t212)
set_option maxHeartbeats 8000000 in
set_option maxRecDepth 100000 in
theorem spec_l07Ticket.calls (k : Nat) (a0 : Int) (a1 : Int) (a2 : Int) (a3 : Int) (r : Int) (w : World) (h : spec_l07Ticket.f k a0 a1 a2 a3 = some r) :
  Calls Tryz.prog 102 #[.int .i64 a0, .int .i64 a1, .int .i64 a2, .int .i64 a3] w fun e w' => e = .returned (.int .i64 r) ∧ Below w.heap.size w w' := by
 have HB := Aside0.mk (Below.refl w.heap.size w)
 have H : ((spec_l01Mix.f k (([a2, a3, a0, a1] : List Int))).bind fun t212 => (some t212)) = some r := h
 clear h
 obtain ⟨y209, hy209⟩ : ∃ y_ : List Int, y_ = (([a2, a3, a0, a1] : List Int)) := ⟨_, rfl⟩
 replace H : ((spec_l01Mix.f k y209).bind fun t212 => (some t212)) = some r := by first | (rw [hy209]; with_reducible exact H) | (have H2_ := (Option.bind_some _ _).symm.trans H; rw [hy209]; with_reducible exact H2_) | (have H2_ := (Option.bind_some _ _).symm.trans H; with_reducible exact H2_) | with_reducible exact H | (rw [hy209]; exact H) | exact H
 have Ny209 := Aside0.mk hy209
 clear hy209
 replace H := Option.bind_eq_some_iff.mp H
 obtain ⟨t212, A50, H⟩ := H
 set_option simprocs false in try dsimp only at H
 have A5 := Aside0.mk A50
 clear A50
 obtain rfl := Option.some.inj H
 go_enter Tryz.func102, Tryz.ntmps102
 go_wp2_with (first | ((with_reducible refine gate_dst (N := 13) rfl ?_); refine Kd.R_lit (Kd.int .i64) _ 2 ?hg (N := 13) ?hd (xs := ([a2, a3, a0, a1] : List Int)) (inner := [.int .i64 a2, .int .i64 a3, .int .i64 a0, .int .i64 a1]) (ok := fun _ => True) (okp := fun _ => True) ?hr ?hp (fun _ hk => hk) trivial (Below.refl _ _) (Nat.le_refl _) (by simp) ?_; (case hd => rfl); (case hg => rfl); (case hr => first | (go_simp; done) | (go_simp; rfl)); (case hp => exact (Reps.one (show Kd.M (Kd.int .i64) _ _ _ a2 [.int .i64 a2] from rfl) (Reps.one (show Kd.M (Kd.int .i64) _ _ _ a3 [.int .i64 a3] from rfl) (Reps.one (show Kd.M (Kd.int .i64) _ _ _ a0 [.int .i64 a0] from rfl) (Reps.one (show Kd.M (Kd.int .i64) _ _ _ a1 [.int .i64 a1] from rfl) (Reps.none _ _)))))); intro v210 w6 ho7 hb hg_ hnew_; clear hg_ hnew_; (first | rw [← Ny209.out] at ho7 | (simp only [Int.reduceToNat] at ho7; rw [← Ny209.out] at ho7)); have n0_ := Aside0.mk (Kd.R_lower ho7 (below_size (by repeat first | exact HB.out | apply pw_below_drewN))); have n1_ := Aside0.mk (below_step (by repeat first | exact HB.out | apply pw_below_drewN) hb); clear HB; have HO211 := n0_; have HB := n1_; clear n0_ n1_; clear hb ho7; obtain ⟨Ao8, co8, eo8⟩ := Kd.R_slice HO211.out; subst eo8) | ((with_reducible refine gate_callee (f := 105) rfl ?_); refine gl (some 14) Tryz.func105 #[.slice Ao8 y209.length co8] ?_; (with_reducible refine (spec_l01Mix.calls k _ _ y209 t212 _ ?side1 ?side2 A5.out).mono ?_); (case side1 => exact (Kd.R_reads' HO211.out).2.2); (case side2 => exact (Kd.R_reads' HO211.out).2.1); rintro e w' ⟨rfl, ⟨nd, rfl⟩⟩; refine ⟨_, rfl, ?_⟩))
 go_ret
 exact ⟨by first | rfl | (simp [*, errW_none, errW_some] <;> rfl), by repeat first | exact HB.out | apply pw_below_drewN⟩

/-! ### spec_l07Best: function 97 -/
def spec_l07Best.l0 : Nat → Int → Int → Int → Int → Int → Int → Option (Int)
 | 0, _, _, _, _, _, _ => none
 | k + 1, x1, x2, x7, x8, x214000, x214001 => if x8 < x214001 then ((spec_l07Ticket.f k x214000 x8 x1 x2).bind fun t214 => ((spec_l00Max.f x7 t214).bind fun t215 => (spec_l07Best.l0 k x1 x2 t215 (wrap64 (x8 + 1)) x214000 x214001))) else (some x7)
def spec_l07Best.f (k : Nat) (a0_0 : Int) (a0_1 : Int) (a1 : Int) (a2 : Int) : Option (Int) := spec_l07Best.l0 k a1 a2 (-1) 0 a0_0 a0_1
set_option maxHeartbeats 8000000 in
set_option maxRecDepth 100000 in
theorem spec_l07Best.calls (k : Nat) (a0_0 : Int) (a0_1 : Int) (a1 : Int) (a2 : Int) (r : Int) (w : World) (h : spec_l07Best.f k a0_0 a0_1 a1 a2 = some r) :
  Calls Tryz.prog 97 #[.agg #[.int .i64 a0_0, .int .i64 a0_1], .int .i64 a1, .int .i64 a2] w fun e w' => e = .returned (.int .i64 r) ∧ Below w.heap.size w w' := by
 have hu109 := Tryz.underlying109
 have HB := Aside0.mk (Below.refl w.heap.size w)
 have H : (spec_l07Best.l0 k a1 a2 (-1) 0 a0_0 a0_1) = some r := h
 clear h
 have H' := Aside0.mk H
 clear H
 go_enter Tryz.func97, Tryz.ntmps97
 go_wp2_with (first | ((with_reducible refine gate_dst (N := 3) rfl ?_); refine box_event ?hg (N := 3) ?hd (cs := #[.int .i64 a0_0, .int .i64 a0_1]) (t := 109) ?hr ?_; (case hd => rfl); (case hg => rfl); (case hr => first | (go_simp; done) | (go_simp; rfl)); intro gb213 hg w4 hbox hb; have n0_ := Aside0.mk (below_step (by repeat first | exact HB.out | apply pw_below_drewN) hb); have n1_ := Aside0.mk (hbox); clear HB; have HB := n0_; have BK213 := n1_; clear n0_ n1_; clear hb hbox hg))
 go_loopg [7, 8] k (fun kq v7 v8 w' => ∃ (x7_1 : Int) (x8_1 : Int), v7 = .int .i64 x7_1 ∧ v8 = .int .i64 x8_1 ∧ Aside0 (spec_l07Best.l0 kq a1 a2 x7_1 x8_1 a0_0 a0_1 = some r) ∧ Aside0 (kq ≤ k) ∧ Aside0 (w'.heap[gb213]? = some (.cells #[.int .i64 a0_0, .int .i64 a0_1] 109 (0, 0))) ∧ Aside0 (Below w.heap.size w w'))
 case atStart => exact ⟨((-1)), (0), (by first | rfl | (simp; done) | (simp [*]; done)), (by first | rfl | (simp; done) | (simp [*]; done)), H', ⟨Nat.le_refl _⟩, ⟨by exact BK213.out⟩, ⟨by repeat first | exact HB.out | apply pw_below_drewN⟩⟩
 case round =>
  clear H'
  try clear p2
  obtain ⟨x7_1, x8_1, rfl, rfl, HA, HK1, BK213, HB⟩ := hrel
  cases gk with
  | zero => exact absurd HA.out (by simp [spec_l07Best.l0])
  | succ k1 =>
   have H := HA.out
   clear HA
   simp only [spec_l07Best.l0] at H
   by_cases c5 : x8_1 < a0_1
   ·rw [if_pos c5] at H
    have c5b0 : decide (x8_1 < a0_1) = true := decide_eq_true c5
    clear c5
    replace H := Option.bind_eq_some_iff.mp H
    obtain ⟨t214, A60, H⟩ := H
    set_option simprocs false in try dsimp only at H
    have A6 := Aside0.mk A60
    clear A60
    replace H := Option.bind_eq_some_iff.mp H
    obtain ⟨t215, A70, H⟩ := H
    set_option simprocs false in try dsimp only at H
    have A7 := Aside0.mk A70
    clear A70
    have H' := Aside0.mk H
    clear H
    have hcz8_0 := (blk_cell BK213.out 0).trans rfl
    have hcz8_1 := (blk_cell BK213.out 1).trans rfl
    go_wp2_with (first | ((with_reducible refine gate_callee (f := 102) rfl ?_); refine gl (some 21) Tryz.func102 #[.int .i64 a0_0, .int .i64 x8_1, .int .i64 a1, .int .i64 a2] ?_; (with_reducible refine (spec_l07Ticket.calls k1 a0_0 x8_1 a1 a2 t214 _ A6.out).mono ?_); rintro e w9 ⟨rfl, hb⟩; refine ⟨_, rfl, ?_⟩; have n0_ := Aside0.mk (blk_below (by exact BK213.out) hb); have n1_ := Aside0.mk (below_step (by repeat first | exact HB.out | apply pw_below_drewN) hb); clear BK213; clear HB; have BK213 := n0_; have HB := n1_; clear n0_ n1_; (try clear hb); (try clear hb2); (try clear hk); (try clear hi)) | ((with_reducible refine gate_callee (f := 101) rfl ?_); refine gl (some 22) Tryz.func101 #[.int .i64 x7_1, .int .i64 t214] ?_; (with_reducible refine (spec_l00Max.calls x7_1 t214 t215 _ A7.out).mono ?_); rintro e w' ⟨rfl, ⟨nd, rfl⟩⟩; refine ⟨_, rfl, ?_⟩))
    go_roundg k1
    case measure => have := HK1.out; omega
    case rel => exact ⟨(t215), (wrap64 (x8_1 + 1)), (by first | rfl | (simp; done) | (simp [*]; done)), (by first | rfl | (simp; done) | (simp [*]; done)), H', ⟨by have := HK1.out; omega⟩, ⟨by exact BK213.out⟩, ⟨by repeat first | exact HB.out | apply pw_below_drewN⟩⟩
   ·rw [if_neg c5] at H
    have c5b0 : decide (x8_1 < a0_1) = false := decide_eq_false c5
    clear c5
    obtain rfl := Option.some.inj H
    have hcz10_0 := (blk_cell BK213.out 0).trans rfl
    have hcz10_1 := (blk_cell BK213.out 1).trans rfl
    go_wp2
    go_ret
    exact ⟨by first | rfl | (simp [*, errW_none, errW_some] <;> rfl), by repeat first | exact HB.out | apply pw_below_drewN⟩

/-! ### spec_l07Choose: function 85 -/
def spec_l07Choose.l0 : Nat → List (S109) → Int → Int → Int → Int → Int → Option (Int × Bool)
 | 0, _, _, _, _, _, _ => none
 | k + 1, x0, x1, x2, x8, x9, x10 => if x10 < (x0.length : Int) then (if 0 ≤ x10 then ((spec_l07Best.f k ((rd_T109 x0 x10).f0) ((rd_T109 x0 x10).f1) x1 x2).bind fun t217 => (if t217 > x8 then (spec_l07Choose.l0 k x0 x1 x2 t217 ((rd_T109 x0 x10).f0) (wrap64 (x10 + 1))) else (spec_l07Choose.l0 k x0 x1 x2 x8 x9 (wrap64 (x10 + 1))))) else (none)) else (some (x9, decide (x8 ≥ 0)))
def spec_l07Choose.f (k : Nat) (l0 : List (S109)) (a1 : Int) (a2 : Int) : Option (Int × Bool) := spec_l07Choose.l0 k l0 a1 a2 (-1) 0 0
set_option maxHeartbeats 8000000 in
set_option maxRecDepth 100000 in
theorem spec_l07Choose.calls (k : Nat) (A0 : Option Addr) (c0 : Nat) (l0 : List (S109)) (a1 : Int) (a2 : Int) (r1 : Int) (r2 : Bool) (w : World) (hr0 : Kd.C k109 w A0 l0.length l0) (hc0 : l0.length ≤ c0) (h : spec_l07Choose.f k l0 a1 a2 = some (r1, r2)) :
  Calls Tryz.prog 85 #[.slice A0 l0.length c0, .int .i64 a1, .int .i64 a2] w fun e w' => e = .returned (.tuple #[.int .i64 r1, .bool r2]) ∧ Below w.heap.size w w' := by
 have hu109 := Tryz.underlying109
 have HR0 := Aside0.mk hr0
 have HC0 := Aside0.mk hc0
 clear hr0 hc0
 have HB := Aside0.mk (Below.refl w.heap.size w)
 have H : (spec_l07Choose.l0 k l0 a1 a2 (-1) 0 0) = some (r1, r2) := h
 clear h
 have H' := Aside0.mk H
 clear H
 go_enter Tryz.func85, Tryz.ntmps85
 go_wp2
 go_loopg [8, 9, 10] k (fun kq v8 v9 v10 w' => ∃ (x8_1 : Int) (x9_1 : Int) (x10_1 : Int), v8 = .int .i64 x8_1 ∧ v9 = .int .i64 x9_1 ∧ v10 = .int .i64 x10_1 ∧ Aside0 (spec_l07Choose.l0 kq l0 a1 a2 x8_1 x9_1 x10_1 = some (r1, r2)) ∧ Aside0 (kq ≤ k) ∧ Aside0 (Below w.heap.size w w'))
 case atStart => exact ⟨((-1)), (0), (0), (by first | rfl | (simp; done) | (simp [*]; done)), (by first | rfl | (simp; done) | (simp [*]; done)), (by first | rfl | (simp; done) | (simp [*]; done)), H', ⟨Nat.le_refl _⟩, ⟨by repeat first | exact HB.out | apply pw_below_drewN⟩⟩
 case round =>
  clear H'
  try clear p2
  obtain ⟨x8_1, x9_1, x10_1, rfl, rfl, rfl, HA, HK1, HB⟩ := hrel
  cases gk with
  | zero => exact absurd HA.out (by simp [spec_l07Choose.l0])
  | succ k1 =>
   have H := HA.out
   clear HA
   simp only [spec_l07Choose.l0] at H
   by_cases c4 : x10_1 < (l0.length : Int)
   ·rw [if_pos c4] at H
    have c4b0 : decide (x10_1 < (l0.length : Int)) = true := decide_eq_true c4
    clear c4
    by_cases c5 : 0 ≤ x10_1
    ·rw [if_pos c5] at H
     have c5b0 : decide (0 ≤ x10_1) = true := decide_eq_true c5
     clear c5
     replace H := Option.bind_eq_some_iff.mp H
     obtain ⟨t217, A60, H⟩ := H
     set_option simprocs false in try dsimp only at H
     have A6 := Aside0.mk A60
     clear A60
     by_cases c7 : t217 > x8_1
     ·rw [if_pos c7] at H
      have c7b0 : decide (x8_1 < t217) = true := decide_eq_true c7
      clear c7
      have H' := Aside0.mk H
      clear H
      have p216 : 0 ≤ (x10_1 : Int) := of_decide_eq_true (by assumption)
      have q216 : x10_1 < (l0.length : Int) := of_decide_eq_true (by assumption)
      obtain ⟨ad216, e216, hx216_0, hx216_1⟩ := at_T109 HR0.out x10_1 p216 q216
      cases e216
      replace hx216_0 := (HB.out.cell (World.block_lt_of_cell? w _ hx216_0)).trans hx216_0
      replace hx216_1 := (HB.out.cell (World.block_lt_of_cell? w _ hx216_1)).trans hx216_1
      replace p216 := eq_true p216
      replace q216 := eq_true q216
      go_wp2_with (first | ((with_reducible refine gate_callee (f := 97) rfl ?_); refine gl (some 24) Tryz.func97 #[.agg #[.int .i64 ((rd_T109 l0 x10_1).f0), .int .i64 ((rd_T109 l0 x10_1).f1)], .int .i64 a1, .int .i64 a2] ?_; (with_reducible refine (spec_l07Best.calls k1 ((rd_T109 l0 x10_1).f0) ((rd_T109 l0 x10_1).f1) a1 a2 t217 _ A6.out).mono ?_); rintro e w8 ⟨rfl, hb⟩; refine ⟨_, rfl, ?_⟩; have n0_ := Aside0.mk (below_step (by repeat first | exact HB.out | apply pw_below_drewN) hb); clear HB; have HB := n0_; clear n0_; (try clear hb); (try clear hb2); (try clear hk); (try clear hi); have p218 : 0 ≤ (x10_1 : Int) := of_decide_eq_true (by assumption); have q218 : x10_1 < (l0.length : Int) := of_decide_eq_true (by assumption); obtain ⟨ad218, e218, hx218_0, hx218_1⟩ := at_T109 HR0.out x10_1 p218 q218; obtain rfl : ad216 = ad218 := (by injection e218); replace hx218_0 := (HB.out.cell (World.block_lt_of_cell? w _ hx218_0)).trans hx218_0; replace hx218_1 := (HB.out.cell (World.block_lt_of_cell? w _ hx218_1)).trans hx218_1; replace p218 := eq_true p218; replace q218 := eq_true q218))
      go_roundg k1
      case measure => have := HK1.out; omega
      case rel => exact ⟨(t217), ((rd_T109 l0 x10_1).f0), (wrap64 (x10_1 + 1)), (by first | rfl | (simp; done) | (simp [*]; done)), (by first | rfl | (simp; done) | (simp [*]; done)), (by first | rfl | (simp; done) | (simp [*]; done)), H', ⟨by have := HK1.out; omega⟩, ⟨by repeat first | exact HB.out | apply pw_below_drewN⟩⟩
     ·rw [if_neg c7] at H
      have c7b0 : decide (x8_1 < t217) = false := decide_eq_false c7
      clear c7
      have H' := Aside0.mk H
      clear H
      have p216 : 0 ≤ (x10_1 : Int) := of_decide_eq_true (by assumption)
      have q216 : x10_1 < (l0.length : Int) := of_decide_eq_true (by assumption)
      obtain ⟨ad216, e216, hx216_0, hx216_1⟩ := at_T109 HR0.out x10_1 p216 q216
      cases e216
      replace hx216_0 := (HB.out.cell (World.block_lt_of_cell? w _ hx216_0)).trans hx216_0
      replace hx216_1 := (HB.out.cell (World.block_lt_of_cell? w _ hx216_1)).trans hx216_1
      replace p216 := eq_true p216
      replace q216 := eq_true q216
      go_wp2_with (first | ((with_reducible refine gate_callee (f := 97) rfl ?_); refine gl (some 24) Tryz.func97 #[.agg #[.int .i64 ((rd_T109 l0 x10_1).f0), .int .i64 ((rd_T109 l0 x10_1).f1)], .int .i64 a1, .int .i64 a2] ?_; (with_reducible refine (spec_l07Best.calls k1 ((rd_T109 l0 x10_1).f0) ((rd_T109 l0 x10_1).f1) a1 a2 t217 _ A6.out).mono ?_); rintro e w9 ⟨rfl, hb⟩; refine ⟨_, rfl, ?_⟩; have n0_ := Aside0.mk (below_step (by repeat first | exact HB.out | apply pw_below_drewN) hb); clear HB; have HB := n0_; clear n0_; (try clear hb); (try clear hb2); (try clear hk); (try clear hi)))
      go_roundg k1
      case measure => have := HK1.out; omega
      case rel => exact ⟨(x8_1), (x9_1), (wrap64 (x10_1 + 1)), (by first | rfl | (simp; done) | (simp [*]; done)), (by first | rfl | (simp; done) | (simp [*]; done)), (by first | rfl | (simp; done) | (simp [*]; done)), H', ⟨by have := HK1.out; omega⟩, ⟨by repeat first | exact HB.out | apply pw_below_drewN⟩⟩
    ·rw [if_neg c5] at H
     exact absurd H (by simp)
   ·rw [if_neg c4] at H
    have c4b0 : decide (x10_1 < (l0.length : Int)) = false := decide_eq_false c4
    clear c4
    simp only [Option.some.injEq, Prod.mk.injEq] at H
    obtain ⟨rfl, rfl⟩ := H
    go_wp2
    go_ret2
    exact ⟨by first | rfl | (simp [*, errW_none, errW_some] <;> rfl), by repeat first | exact HB.out | apply pw_below_drewN⟩

/-! ### spec_l07In: function 76 -/
def spec_l07In.l0 : Nat → Int → Int → Int → List (S109) → Int → List (S72) → List (S68) → Option (Int × Bool)
 | 0, _, _, _, _, _, _, _ => none
 | k + 1, x2, x3, x10, x11, x12, x220000, x220001 => if 0 ≤ x10 then (if x10 < (x220001.length : Int) then (if x12 < (((rd_T68 x220001 x10).f2).length : Int) then (if 0 ≤ x12 then ((spec_l06Weight.f k x220000 x220001 (rd ((rd_T68 x220001 x10).f2) x12)).bind fun t227 => (if x11.length < 8796093022208 then (spec_l07In.l0 k x2 x3 x10 (x11 ++ [(⟨rd ((rd_T68 x220001 x10).f2) x12, t227⟩ : S109)]) (wrap64 (x12 + 1)) x220000 x220001) else (none))) else (none)) else ((spec_l07Choose.f k x11 x2 x3).bind fun bt231 => (some (bt231.1, bt231.2)))) else (none)) else (none)
def spec_l07In.f (k : Nat) (l0_0 : List (S72)) (l0_1 : List (S68)) (a1 : Int) (a2 : Int) (a3 : Int) : Option (Int × Bool) := (spec_l06Bucket.f k l0_0 l0_1 a1).bind fun t220 => (if t220 < 0 then (some (0, false)) else (spec_l07In.l0 k a2 a3 t220 (([] : List (S109))) 0 l0_0 l0_1))
set_option maxHeartbeats 8000000 in
set_option maxRecDepth 100000 in
theorem spec_l07In.calls (k : Nat) (A0_0 : Option Addr) (c0_0 : Nat) (l0_0 : List (S72)) (A0_1 : Option Addr) (c0_1 : Nat) (l0_1 : List (S68)) (a1 : Int) (a2 : Int) (a3 : Int) (r1 : Int) (r2 : Bool) (w : World) (hr0_0 : Kd.C k72 w A0_0 l0_0.length l0_0) (hc0_0 : l0_0.length ≤ c0_0) (hr0_1 : Kd.C k68 w A0_1 l0_1.length l0_1) (hc0_1 : l0_1.length ≤ c0_1) (h : spec_l07In.f k l0_0 l0_1 a1 a2 a3 = some (r1, r2)) :
  Calls Tryz.prog 76 #[.agg #[.slice A0_0 l0_0.length c0_0, .slice A0_1 l0_1.length c0_1], .int .i64 a1, .int .i64 a2, .int .i64 a3] w fun e w' => e = .returned (.tuple #[.int .i64 r1, .bool r2]) ∧ Below w.heap.size w w' := by
 have hu35 := Tryz.underlying35
 have hu109 := Tryz.underlying109
 have HR0_0 := Aside0.mk hr0_0
 have HC0_0 := Aside0.mk hc0_0
 clear hr0_0 hc0_0
 have HR0_1 := Aside0.mk hr0_1
 have HC0_1 := Aside0.mk hc0_1
 clear hr0_1 hc0_1
 have HB := Aside0.mk (Below.refl w.heap.size w)
 have H : ((spec_l06Bucket.f k l0_0 l0_1 a1).bind fun t220 => (if t220 < 0 then (some (0, false)) else (spec_l07In.l0 k a2 a3 t220 (([] : List (S109))) 0 l0_0 l0_1))) = some (r1, r2) := h
 clear h
 replace H := Option.bind_eq_some_iff.mp H
 obtain ⟨t220, A50, H⟩ := H
 set_option simprocs false in try dsimp only at H
 have A5 := Aside0.mk A50
 clear A50
 by_cases c6 : t220 < 0
 ·rw [if_pos c6] at H
  have c6b0 : decide (t220 < 0) = true := decide_eq_true c6
  clear c6
  simp only [Option.some.injEq, Prod.mk.injEq] at H
  obtain ⟨rfl, rfl⟩ := H
  go_enter Tryz.func76, Tryz.ntmps76
  go_wp2_with (first | ((with_reducible refine gate_dst (N := 4) rfl ?_); refine box_event ?hg (N := 4) ?hd (cs := #[.slice A0_0 l0_0.length c0_0, .slice A0_1 l0_1.length c0_1]) (t := 35) ?hr ?_; (case hd => rfl); (case hg => rfl); (case hr => first | (go_simp; done) | (go_simp; rfl)); intro gb219 hg w7 hbox hb; have n0_ := Aside0.mk (below_step (by repeat first | exact HB.out | apply pw_below_drewN) hb); have n1_ := Aside0.mk (hbox); clear HB; have HB := n0_; have BK219 := n1_; clear n0_ n1_; clear hb hbox hg; have hcz8_0 := (blk_cell BK219.out 0).trans rfl; have hcz8_1 := (blk_cell BK219.out 1).trans rfl) | ((with_reducible refine gate_callee (f := 62) rfl ?_); refine gl (some 16) Tryz.func62 #[.agg #[.slice A0_0 l0_0.length c0_0, .slice A0_1 l0_1.length c0_1], .int .i64 a1] ?_; (with_reducible refine (spec_l06Bucket.calls k _ _ l0_0 _ _ l0_1 a1 t220 _ ?side1 ?side2 ?side3 ?side4 A5.out).mono ?_); (case side1 => exact (Kd.C_below HR0_0.out HB.out)); (case side2 => exact HC0_0.out); (case side3 => exact (Kd.C_below HR0_1.out HB.out)); (case side4 => exact HC0_1.out); rintro e w9 ⟨rfl, hb⟩; refine ⟨_, rfl, ?_⟩; have n0_ := Aside0.mk (blk_below (by exact BK219.out) hb); have n1_ := Aside0.mk (below_step (by repeat first | exact HB.out | apply pw_below_drewN) hb); clear BK219; clear HB; have BK219 := n0_; have HB := n1_; clear n0_ n1_; (try clear hb); (try clear hb2); (try clear hk); (try clear hi)))
  go_ret2
  exact ⟨by first | rfl | (simp [*, errW_none, errW_some] <;> rfl), by repeat first | exact HB.out | apply pw_below_drewN⟩
 ·rw [if_neg c6] at H
  have c6b0 : decide (t220 < 0) = false := decide_eq_false c6
  clear c6
  obtain ⟨y221, hy221⟩ : ∃ y_ : List (S109), y_ = (([] : List (S109))) := ⟨_, rfl⟩
  replace H : (spec_l07In.l0 k a2 a3 t220 y221 0 l0_0 l0_1) = some (r1, r2) := by first | (rw [hy221]; with_reducible exact H) | (have H2_ := (Option.bind_some _ _).symm.trans H; rw [hy221]; with_reducible exact H2_) | (have H2_ := (Option.bind_some _ _).symm.trans H; with_reducible exact H2_) | with_reducible exact H | (rw [hy221]; exact H) | exact H
  have Ny221 := Aside0.mk hy221
  clear hy221
  have H' := Aside0.mk H
  clear H
  go_enter Tryz.func76, Tryz.ntmps76
  go_wp2_with (first | ((with_reducible refine gate_dst (N := 4) rfl ?_); refine box_event ?hg (N := 4) ?hd (cs := #[.slice A0_0 l0_0.length c0_0, .slice A0_1 l0_1.length c0_1]) (t := 35) ?hr ?_; (case hd => rfl); (case hg => rfl); (case hr => first | (go_simp; done) | (go_simp; rfl)); intro gb219 hg w10 hbox hb; have n0_ := Aside0.mk (below_step (by repeat first | exact HB.out | apply pw_below_drewN) hb); have n1_ := Aside0.mk (hbox); clear HB; have HB := n0_; have BK219 := n1_; clear n0_ n1_; clear hb hbox hg; have hcz11_0 := (blk_cell BK219.out 0).trans rfl; have hcz11_1 := (blk_cell BK219.out 1).trans rfl) | ((with_reducible refine gate_callee (f := 62) rfl ?_); refine gl (some 16) Tryz.func62 #[.agg #[.slice A0_0 l0_0.length c0_0, .slice A0_1 l0_1.length c0_1], .int .i64 a1] ?_; (with_reducible refine (spec_l06Bucket.calls k _ _ l0_0 _ _ l0_1 a1 t220 _ ?side1 ?side2 ?side3 ?side4 A5.out).mono ?_); (case side1 => exact (Kd.C_below HR0_0.out HB.out)); (case side2 => exact HC0_0.out); (case side3 => exact (Kd.C_below HR0_1.out HB.out)); (case side4 => exact HC0_1.out); rintro e w12 ⟨rfl, hb⟩; refine ⟨_, rfl, ?_⟩; have n0_ := Aside0.mk (blk_below (by exact BK219.out) hb); have n1_ := Aside0.mk (below_step (by repeat first | exact HB.out | apply pw_below_drewN) hb); clear BK219; clear HB; have BK219 := n0_; have HB := n1_; clear n0_ n1_; (try clear hb); (try clear hb2); (try clear hk); (try clear hi)) | ((with_reducible refine gate_dst (N := 19) rfl ?_); refine Kd.R_lit k109 _ 109 ?hg (N := 19) ?hd (xs := ([] : List (S109))) (inner := []) (ok := fun _ => True) (okp := fun _ => True) ?hr ?hp (fun _ hk => hk) trivial (Below.refl _ _) (Nat.le_refl _) (by simp) ?_; (case hd => rfl); (case hg => rfl); (case hr => first | (go_simp; done) | (go_simp; rfl)); (case hp => exact (Reps.none _ _)); intro v222 w13 ho14 hb hg_ hnew_; clear hg_ hnew_; (first | rw [← Ny221.out] at ho14 | (simp only [Int.reduceToNat] at ho14; rw [← Ny221.out] at ho14)); have n0_ := Aside0.mk (Kd.R_lower ho14 (below_size (by repeat first | exact HB.out | apply pw_below_drewN))); have n1_ := Aside0.mk (blk_below (by exact BK219.out) hb); have n2_ := Aside0.mk (below_step (by repeat first | exact HB.out | apply pw_below_drewN) hb); clear BK219; clear HB; have HO223 := n0_; have BK219 := n1_; have HB := n2_; clear n0_ n1_ n2_; clear hb ho14))
  go_loopg [11, 12] k (fun kq v11 v12 w' => ∃ (x11_1 : List (S109)) (x12_1 : Int), v12 = .int .i64 x12_1 ∧ Aside0 (spec_l07In.l0 kq a2 a3 t220 x11_1 x12_1 l0_0 l0_1 = some (r1, r2)) ∧ Aside0 (kq ≤ k) ∧ Aside0 (Kd.R k109 109 w' w.heap.size (fun _ => True) v11 x11_1) ∧ Aside0 (w'.heap[gb219]? = some (.cells #[(.slice A0_0 l0_0.length c0_0), (.slice A0_1 l0_1.length c0_1)] 35 (0, 0))) ∧ Aside0 (Below w.heap.size w w'))
  case atStart => exact ⟨(y221), (0), (by first | rfl | (simp; done) | (simp [*]; done)), H', ⟨Nat.le_refl _⟩, ⟨by (with_reducible repeat (first | apply Kd.R_alloc | apply Kd.R_drewN | apply Kd.R_drew)); exact HO223.out⟩, ⟨by exact BK219.out⟩, ⟨by repeat first | exact HB.out | apply pw_below_drewN⟩⟩
  case round =>
   clear H'
   try clear p2
   try clear c6
   try clear c6b0
   try clear c7
   try clear hcz11_0
   try clear hcz11_1
   try clear hcz8_0
   try clear hcz8_1
   obtain ⟨x11_1, x12_1, rfl, HA, HK1, HO_11, BK219, HB⟩ := hrel
   cases gk with
   | zero => exact absurd HA.out (by simp [spec_l07In.l0])
   | succ k1 =>
    have H := HA.out
    clear HA
    simp only [spec_l07In.l0] at H
    by_cases c15 : 0 ≤ t220
    ·rw [if_pos c15] at H
     have c15b0 : decide (0 ≤ t220) = true := decide_eq_true c15
     clear c15
     by_cases c16 : t220 < (l0_1.length : Int)
     ·rw [if_pos c16] at H
      have c16b0 : decide (t220 < (l0_1.length : Int)) = true := decide_eq_true c16
      clear c16
      by_cases c17 : x12_1 < (((rd_T68 l0_1 t220).f2).length : Int)
      ·rw [if_pos c17] at H
       have c17b0 : decide (x12_1 < (((rd_T68 l0_1 t220).f2).length : Int)) = true := decide_eq_true c17
       clear c17
       by_cases c18 : 0 ≤ x12_1
       ·rw [if_pos c18] at H
        have c18b0 : decide (0 ≤ x12_1) = true := decide_eq_true c18
        clear c18
        replace H := Option.bind_eq_some_iff.mp H
        obtain ⟨t227, A190, H⟩ := H
        set_option simprocs false in try dsimp only at H
        have A19 := Aside0.mk A190
        clear A190
        by_cases c20 : x11_1.length < 8796093022208
        ·rw [if_pos c20] at H
         have LMc20 := Aside0.mk c20
         clear c20
         obtain ⟨y228, hy228⟩ : ∃ y_ : List (S109), y_ = (x11_1 ++ [(⟨rd ((rd_T68 l0_1 t220).f2) x12_1, t227⟩ : S109)]) := ⟨_, rfl⟩
         replace H : (spec_l07In.l0 k1 a2 a3 t220 y228 (wrap64 (x12_1 + 1)) l0_0 l0_1) = some (r1, r2) := by first | (rw [hy228]; with_reducible exact H) | (have H2_ := (Option.bind_some _ _).symm.trans H; rw [hy228]; with_reducible exact H2_) | (have H2_ := (Option.bind_some _ _).symm.trans H; with_reducible exact H2_) | with_reducible exact H | (rw [hy228]; exact H) | exact H
         have Ny228 := Aside0.mk hy228
         clear hy228
         have H' := Aside0.mk H
         clear H
         have hcz21_0 := (blk_cell BK219.out 0).trans rfl
         have hcz21_1 := (blk_cell BK219.out 1).trans rfl
         have p224 : 0 ≤ (t220 : Int) := of_decide_eq_true (by assumption)
         have q224 : t220 < (l0_1.length : Int) := of_decide_eq_true (by assumption)
         obtain ⟨ad224, A224_2, c224_2, e224, hx224_0, hx224_1, hx224_2, hl224_2, hi224_2⟩ := at_T68 HR0_1.out t220 p224 q224
         cases e224
         replace hx224_0 := (HB.out.cell (World.block_lt_of_cell? w _ hx224_0)).trans hx224_0
         replace hx224_1 := (HB.out.cell (World.block_lt_of_cell? w _ hx224_1)).trans hx224_1
         replace hx224_2 := (HB.out.cell (World.block_lt_of_cell? w _ hx224_2)).trans hx224_2
         have HR224_2 := Aside0.mk hi224_2
         have HC224_2 := Aside0.mk hl224_2
         clear hi224_2 hl224_2
         replace p224 := eq_true p224
         replace q224 := eq_true q224
         have p225 : 0 ≤ (t220 : Int) := of_decide_eq_true (by assumption)
         have q225 : t220 < (l0_1.length : Int) := of_decide_eq_true (by assumption)
         obtain ⟨ad225, A225_2, c225_2, e225, hx225_0, hx225_1, hx225_2, hl225_2, hi225_2⟩ := at_T68 HR0_1.out t220 p225 q225
         obtain rfl : ad224 = ad225 := (by injection e225)
         replace hx225_0 := (HB.out.cell (World.block_lt_of_cell? w _ hx225_0)).trans hx225_0
         replace hx225_1 := (HB.out.cell (World.block_lt_of_cell? w _ hx225_1)).trans hx225_1
         replace hx225_2 := (HB.out.cell (World.block_lt_of_cell? w _ hx225_2)).trans hx225_2
         have HR225_2 := Aside0.mk hi225_2
         have HC225_2 := Aside0.mk hl225_2
         clear hi225_2 hl225_2
         replace p225 := eq_true p225
         replace q225 := eq_true q225
         have ea_ := Option.some.inj (hx224_2.symm.trans hx225_2)
         injection ea_ with ea_ en_ ec_
         subst ea_
         subst ec_
         clear en_
         have p226 : 0 ≤ (x12_1 : Int) := of_decide_eq_true (by assumption)
         have q226 : x12_1 < (((rd_T68 l0_1 t220).f2).length : Int) := of_decide_eq_true (by assumption)
         obtain ⟨ad226, e226, hx226_0⟩ := Kd.at_int HR225_2.out x12_1 p226 q226
         cases e226
         replace hx226_0 := (HB.out.cell (World.block_lt_of_cell? w _ hx226_0)).trans hx226_0
         replace p226 := eq_true p226
         replace q226 := eq_true q226
         go_wp2_with (first | ((with_reducible refine gate_callee (f := 84) rfl ?_); refine gl (some 44) Tryz.func84 #[.agg #[.slice A0_0 l0_0.length c0_0, .slice (some ad224) l0_1.length c0_1], .int .i64 (rd ((rd_T68 l0_1 t220).f2) x12_1)] ?_; (with_reducible refine (spec_l06Weight.calls k1 _ _ l0_0 _ _ l0_1 (rd ((rd_T68 l0_1 t220).f2) x12_1) t227 _ ?side1 ?side2 ?side3 ?side4 A19.out).mono ?_); (case side1 => exact (Kd.C_below HR0_0.out HB.out)); (case side2 => exact HC0_0.out); (case side3 => exact (Kd.C_below HR0_1.out HB.out)); (case side4 => exact HC0_1.out); rintro e w22 ⟨rfl, hb⟩; refine ⟨_, rfl, ?_⟩; have n0_ := Aside0.mk (Kd.R_below (by (with_reducible repeat (first | apply Kd.R_alloc | apply Kd.R_drewN | apply Kd.R_drew)); exact HO_11.out) hb); have n1_ := Aside0.mk (blk_below (by exact BK219.out) hb); have n2_ := Aside0.mk (below_step (by repeat first | exact HB.out | apply pw_below_drewN) hb); clear HO_11; clear BK219; clear HB; have HO_11 := n0_; have BK219 := n1_; have HB := n2_; clear n0_ n1_ n2_; (try clear hb); (try clear hb2); (try clear hk); (try clear hi)) | ((with_reducible refine gate_builtin (b := .append) (xs := #[.tmp 40, .tmp 46]) rfl ?_); at_builtin; refine Kd.R_append k109 (w0 := w) w.heap.size rfl (.tmp 40) (.tmp 46) 108 109 (.agg #[(.int .i64 0), (.int .i64 0)]) 16 rfl Tryz.underlying108 info109 rfl (by decide) (by omega) u11 x11_1 (⟨rd ((rd_T68 l0_1 t220).f2) x12_1, t227⟩ : S109) [.int .i64 (rd ((rd_T68 l0_1 t220).f2) x12_1), .int .i64 t227] (fun _ => True) (fun _ => False) rfl rfl ?aP (fun _ hk => hk.elim) ?aF ?aO ?aB ?aS ?aL ?_; (case aP => exact k109_mkM _ _ _ (⟨rd ((rd_T68 l0_1 t220).f2) x12_1, t227⟩ : S109)); (case aB => exact (by repeat first | exact HB.out | apply pw_below_drewN)); (case aF => exact (fun _ _ => trivial)); (case aO => exact (by (with_reducible repeat (first | apply Kd.R_alloc | apply Kd.R_drewN | apply Kd.R_drew)); exact HO_11.out)); (case aS => exact (below_size (by repeat first | exact HB.out | apply pw_below_drewN))); (case aL => have := LMc20.out; omega); intro v229 w23 ho hb hg hat; rw [← Ny228.out] at ho; have n0_ := Aside0.mk (blk_grown (g := gb219) (o := .cells #[.slice A0_0 l0_0.length c0_0, .slice (some ad224) l0_1.length c0_1] 35 (0, 0)) (by exact BK219.out) hg (Kd.R_ne HO_11.out BK219.out (by decide))); have n1_ := Aside0.mk (hb); have n2_ := Aside0.mk (ho); clear BK219; clear HB; clear HO_11; have BK219 := n0_; have HB := n1_; have HO230 := n2_; clear n0_ n1_ n2_; clear ho hb hg hat))
         go_roundg k1
         case measure => have := HK1.out; omega
         case rel => exact ⟨(y228), (wrap64 (x12_1 + 1)), (by first | rfl | (simp; done) | (simp [*]; done)), H', ⟨by have := HK1.out; omega⟩, ⟨by (with_reducible repeat (first | apply Kd.R_alloc | apply Kd.R_drewN | apply Kd.R_drew)); exact HO230.out⟩, ⟨by exact BK219.out⟩, ⟨by repeat first | exact HB.out | apply pw_below_drewN⟩⟩
        ·rw [if_neg c20] at H
         exact absurd H (by simp)
       ·rw [if_neg c18] at H
        exact absurd H (by simp)
      ·rw [if_neg c17] at H
       have c17b0 : decide (x12_1 < (((rd_T68 l0_1 t220).f2).length : Int)) = false := decide_eq_false c17
       clear c17
       replace H := Option.bind_eq_some_iff.mp H
       obtain ⟨⟨t231, t232⟩, A240, H⟩ := H
       set_option simprocs false in try dsimp only at H
       have A24 := Aside0.mk A240
       clear A240
       simp only [Option.some.injEq, Prod.mk.injEq] at H
       obtain ⟨rfl, rfl⟩ := H
       have hcz25_0 := (blk_cell BK219.out 0).trans rfl
       have hcz25_1 := (blk_cell BK219.out 1).trans rfl
       have p224 : 0 ≤ (t220 : Int) := of_decide_eq_true (by assumption)
       have q224 : t220 < (l0_1.length : Int) := of_decide_eq_true (by assumption)
       obtain ⟨ad224, A224_2, c224_2, e224, hx224_0, hx224_1, hx224_2, hl224_2, hi224_2⟩ := at_T68 HR0_1.out t220 p224 q224
       cases e224
       replace hx224_0 := (HB.out.cell (World.block_lt_of_cell? w _ hx224_0)).trans hx224_0
       replace hx224_1 := (HB.out.cell (World.block_lt_of_cell? w _ hx224_1)).trans hx224_1
       replace hx224_2 := (HB.out.cell (World.block_lt_of_cell? w _ hx224_2)).trans hx224_2
       have HR224_2 := Aside0.mk hi224_2
       have HC224_2 := Aside0.mk hl224_2
       clear hi224_2 hl224_2
       replace p224 := eq_true p224
       replace q224 := eq_true q224
       obtain ⟨Ao26, co26, eo26⟩ := Kd.R_slice HO_11.out
       subst eo26
       go_wp2_with (first | ((with_reducible refine gate_callee (f := 85) rfl ?_); refine gl (some 51) Tryz.func85 #[.slice Ao26 x11_1.length co26, .int .i64 a2, .int .i64 a3] ?_; (with_reducible refine (spec_l07Choose.calls k1 _ _ x11_1 a2 a3 t231 t232 _ ?side1 ?side2 A24.out).mono ?_); (case side1 => exact (Kd.R_reads' HO_11.out).2.2); (case side2 => exact (Kd.R_reads' HO_11.out).2.1); rintro e w27 ⟨rfl, hb⟩; refine ⟨_, rfl, ?_⟩; have n0_ := Aside0.mk (Kd.R_below (by (with_reducible repeat (first | apply Kd.R_alloc | apply Kd.R_drewN | apply Kd.R_drew)); exact HO_11.out) hb); have n1_ := Aside0.mk (blk_below (by exact BK219.out) hb); have n2_ := Aside0.mk (below_step (by repeat first | exact HB.out | apply pw_below_drewN) hb); clear HO_11; clear BK219; clear HB; have HO_11 := n0_; have BK219 := n1_; have HB := n2_; clear n0_ n1_ n2_; (try clear hb); (try clear hb2); (try clear hk); (try clear hi)))
       go_ret2
       exact ⟨by first | rfl | (simp [*, errW_none, errW_some] <;> rfl), by repeat first | exact HB.out | apply pw_below_drewN⟩
     ·rw [if_neg c16] at H
      exact absurd H (by simp)
    ·rw [if_neg c15] at H
     exact absurd H (by simp)

/-! ### spec_l07Descend: function 63 -/
def spec_l07Descend.l0 : Nat → Int → Int → Int → Int → List (S72) → List (S68) → Option (Int × Bool)
 | 0, _, _, _, _, _, _ => none
 | k + 1, x1, x2, x3, x4, x234000, x234001 => (spec_l06Kind.f k x234000 x234001 x1).bind fun t234 => (if t234 = x2 then (some (x1, true)) else ((spec_l07In.f k x234000 x234001 x1 x3 x4).bind fun bt235 => (if bt235.2 = true then (spec_l07Descend.l0 k bt235.1 x2 x3 x4 x234000 x234001) else (some (0, false)))))
def spec_l07Descend.f (k : Nat) (l0_0 : List (S72)) (l0_1 : List (S68)) (a1 : Int) (a2 : Int) (a3 : Int) (a4 : Int) : Option (Int × Bool) := spec_l07Descend.l0 k a1 a2 a3 a4 l0_0 l0_1
set_option maxHeartbeats 8000000 in
set_option maxRecDepth 100000 in
theorem spec_l07Descend.calls (k : Nat) (A0_0 : Option Addr) (c0_0 : Nat) (l0_0 : List (S72)) (A0_1 : Option Addr) (c0_1 : Nat) (l0_1 : List (S68)) (a1 : Int) (a2 : Int) (a3 : Int) (a4 : Int) (r1 : Int) (r2 : Bool) (w : World) (hr0_0 : Kd.C k72 w A0_0 l0_0.length l0_0) (hc0_0 : l0_0.length ≤ c0_0) (hr0_1 : Kd.C k68 w A0_1 l0_1.length l0_1) (hc0_1 : l0_1.length ≤ c0_1) (h : spec_l07Descend.f k l0_0 l0_1 a1 a2 a3 a4 = some (r1, r2)) :
  Calls Tryz.prog 63 #[.agg #[.slice A0_0 l0_0.length c0_0, .slice A0_1 l0_1.length c0_1], .int .i64 a1, .int .i64 a2, .int .i64 a3, .int .i64 a4] w fun e w' => e = .returned (.tuple #[.int .i64 r1, .bool r2]) ∧ Below w.heap.size w w' := by
 have hu35 := Tryz.underlying35
 have HR0_0 := Aside0.mk hr0_0
 have HC0_0 := Aside0.mk hc0_0
 clear hr0_0 hc0_0
 have HR0_1 := Aside0.mk hr0_1
 have HC0_1 := Aside0.mk hc0_1
 clear hr0_1 hc0_1
 have HB := Aside0.mk (Below.refl w.heap.size w)
 have H : (spec_l07Descend.l0 k a1 a2 a3 a4 l0_0 l0_1) = some (r1, r2) := h
 clear h
 have H' := Aside0.mk H
 clear H
 go_enter Tryz.func63, Tryz.ntmps63
 go_wp2_with (first | ((with_reducible refine gate_dst (N := 5) rfl ?_); refine box_event ?hg (N := 5) ?hd (cs := #[.slice A0_0 l0_0.length c0_0, .slice A0_1 l0_1.length c0_1]) (t := 35) ?hr ?_; (case hd => rfl); (case hg => rfl); (case hr => first | (go_simp; done) | (go_simp; rfl)); intro gb233 hg w6 hbox hb; have n0_ := Aside0.mk (below_step (by repeat first | exact HB.out | apply pw_below_drewN) hb); have n1_ := Aside0.mk (hbox); clear HB; have HB := n0_; have BK233 := n1_; clear n0_ n1_; clear hb hbox hg))
 go_loopg [1] k (fun kq v1 w' => ∃ (x1_1 : Int), v1 = .int .i64 x1_1 ∧ Aside0 (spec_l07Descend.l0 kq x1_1 a2 a3 a4 l0_0 l0_1 = some (r1, r2)) ∧ Aside0 (kq ≤ k) ∧ Aside0 (w'.heap[gb233]? = some (.cells #[(.slice A0_0 l0_0.length c0_0), (.slice A0_1 l0_1.length c0_1)] 35 (0, 0))) ∧ Aside0 (Below w.heap.size w w'))
 case atStart => exact ⟨(a1), (by first | rfl | (simp; done) | (simp [*]; done)), H', ⟨Nat.le_refl _⟩, ⟨by exact BK233.out⟩, ⟨by repeat first | exact HB.out | apply pw_below_drewN⟩⟩
 case round =>
  clear H'
  try clear p2
  try clear c6
  obtain ⟨x1_1, rfl, HA, HK1, BK233, HB⟩ := hrel
  cases gk with
  | zero => exact absurd HA.out (by simp [spec_l07Descend.l0])
  | succ k1 =>
   have H := HA.out
   clear HA
   simp only [spec_l07Descend.l0] at H
   replace H := Option.bind_eq_some_iff.mp H
   obtain ⟨t234, A70, H⟩ := H
   set_option simprocs false in try dsimp only at H
   have A7 := Aside0.mk A70
   clear A70
   by_cases c8 : t234 = a2
   ·rw [if_pos c8] at H
    have c8b0 : (t234 == a2) = true := beq_iff_eq.mpr c8
    have c8b1 : (t234 != a2) = false := bne_eq_false_iff_eq.mpr c8
    clear c8
    simp only [Option.some.injEq, Prod.mk.injEq] at H
    obtain ⟨rfl, rfl⟩ := H
    have hcz9_0 := (blk_cell BK233.out 0).trans rfl
    have hcz9_1 := (blk_cell BK233.out 1).trans rfl
    go_wp2_with (first | ((with_reducible refine gate_callee (f := 42) rfl ?_); refine gl (some 16) Tryz.func42 #[.agg #[.slice A0_0 l0_0.length c0_0, .slice A0_1 l0_1.length c0_1], .int .i64 x1_1] ?_; (with_reducible refine (spec_l06Kind.calls k1 _ _ l0_0 _ _ l0_1 x1_1 t234 _ ?side1 ?side2 ?side3 ?side4 A7.out).mono ?_); (case side1 => exact (Kd.C_below HR0_0.out HB.out)); (case side2 => exact HC0_0.out); (case side3 => exact (Kd.C_below HR0_1.out HB.out)); (case side4 => exact HC0_1.out); rintro e w10 ⟨rfl, hb⟩; refine ⟨_, rfl, ?_⟩; have n0_ := Aside0.mk (blk_below (by exact BK233.out) hb); have n1_ := Aside0.mk (below_step (by repeat first | exact HB.out | apply pw_below_drewN) hb); clear BK233; clear HB; have BK233 := n0_; have HB := n1_; clear n0_ n1_; (try clear hb); (try clear hb2); (try clear hk); (try clear hi)))
    go_ret2
    exact ⟨by first | rfl | (simp [*, errW_none, errW_some] <;> rfl), by repeat first | exact HB.out | apply pw_below_drewN⟩
   ·rw [if_neg c8] at H
    have c8b0 : (t234 == a2) = false := beq_eq_false_iff_ne.mpr c8
    have c8b1 : (t234 != a2) = true := bne_iff_ne.mpr c8
    replace H := Option.bind_eq_some_iff.mp H
    obtain ⟨⟨t235, t236⟩, A110, H⟩ := H
    set_option simprocs false in try dsimp only at H
    have A11 := Aside0.mk A110
    clear A110
    by_cases c12 : t236 = true
    ·subst c12
     rw [if_pos rfl] at H
     have H' := Aside0.mk H
     clear H
     have hcz13_0 := (blk_cell BK233.out 0).trans rfl
     have hcz13_1 := (blk_cell BK233.out 1).trans rfl
     go_wp2_with (first | ((with_reducible refine gate_callee (f := 42) rfl ?_); refine gl (some 16) Tryz.func42 #[.agg #[.slice A0_0 l0_0.length c0_0, .slice A0_1 l0_1.length c0_1], .int .i64 x1_1] ?_; (with_reducible refine (spec_l06Kind.calls k1 _ _ l0_0 _ _ l0_1 x1_1 t234 _ ?side1 ?side2 ?side3 ?side4 A7.out).mono ?_); (case side1 => exact (Kd.C_below HR0_0.out HB.out)); (case side2 => exact HC0_0.out); (case side3 => exact (Kd.C_below HR0_1.out HB.out)); (case side4 => exact HC0_1.out); rintro e w14 ⟨rfl, hb⟩; refine ⟨_, rfl, ?_⟩; have n0_ := Aside0.mk (blk_below (by exact BK233.out) hb); have n1_ := Aside0.mk (below_step (by repeat first | exact HB.out | apply pw_below_drewN) hb); clear BK233; clear HB; have BK233 := n0_; have HB := n1_; clear n0_ n1_; (try clear hb); (try clear hb2); (try clear hk); (try clear hi); have hcz15_0 := (blk_cell BK233.out 0).trans rfl; have hcz15_1 := (blk_cell BK233.out 1).trans rfl) | ((with_reducible refine gate_callee (f := 76) rfl ?_); refine gl (some 24) Tryz.func76 #[.agg #[.slice A0_0 l0_0.length c0_0, .slice A0_1 l0_1.length c0_1], .int .i64 x1_1, .int .i64 a3, .int .i64 a4] ?_; (with_reducible refine (spec_l07In.calls k1 _ _ l0_0 _ _ l0_1 x1_1 a3 a4 t235 true _ ?side1 ?side2 ?side3 ?side4 A11.out).mono ?_); (case side1 => exact (Kd.C_below HR0_0.out HB.out)); (case side2 => exact HC0_0.out); (case side3 => exact (Kd.C_below HR0_1.out HB.out)); (case side4 => exact HC0_1.out); rintro e w16 ⟨rfl, hb⟩; refine ⟨_, rfl, ?_⟩; have n0_ := Aside0.mk (blk_below (by exact BK233.out) hb); have n1_ := Aside0.mk (below_step (by repeat first | exact HB.out | apply pw_below_drewN) hb); clear BK233; clear HB; have BK233 := n0_; have HB := n1_; clear n0_ n1_; (try clear hb); (try clear hb2); (try clear hk); (try clear hi)))
     go_roundg k1
     case measure => have := HK1.out; omega
     case rel => exact ⟨(t235), (by first | rfl | (simp; done) | (simp [*]; done)), H', ⟨by have := HK1.out; omega⟩, ⟨by exact BK233.out⟩, ⟨by repeat first | exact HB.out | apply pw_below_drewN⟩⟩
    ·replace c12 := Bool.eq_false_iff.mpr c12
     subst c12
     rw [if_neg (show ¬ (false = true) by decide)] at H
     simp only [Option.some.injEq, Prod.mk.injEq] at H
     obtain ⟨rfl, rfl⟩ := H
     have hcz17_0 := (blk_cell BK233.out 0).trans rfl
     have hcz17_1 := (blk_cell BK233.out 1).trans rfl
     go_wp2_with (first | ((with_reducible refine gate_callee (f := 42) rfl ?_); refine gl (some 16) Tryz.func42 #[.agg #[.slice A0_0 l0_0.length c0_0, .slice A0_1 l0_1.length c0_1], .int .i64 x1_1] ?_; (with_reducible refine (spec_l06Kind.calls k1 _ _ l0_0 _ _ l0_1 x1_1 t234 _ ?side1 ?side2 ?side3 ?side4 A7.out).mono ?_); (case side1 => exact (Kd.C_below HR0_0.out HB.out)); (case side2 => exact HC0_0.out); (case side3 => exact (Kd.C_below HR0_1.out HB.out)); (case side4 => exact HC0_1.out); rintro e w18 ⟨rfl, hb⟩; refine ⟨_, rfl, ?_⟩; have n0_ := Aside0.mk (blk_below (by exact BK233.out) hb); have n1_ := Aside0.mk (below_step (by repeat first | exact HB.out | apply pw_below_drewN) hb); clear BK233; clear HB; have BK233 := n0_; have HB := n1_; clear n0_ n1_; (try clear hb); (try clear hb2); (try clear hk); (try clear hi); have hcz19_0 := (blk_cell BK233.out 0).trans rfl; have hcz19_1 := (blk_cell BK233.out 1).trans rfl) | ((with_reducible refine gate_callee (f := 76) rfl ?_); refine gl (some 24) Tryz.func76 #[.agg #[.slice A0_0 l0_0.length c0_0, .slice A0_1 l0_1.length c0_1], .int .i64 x1_1, .int .i64 a3, .int .i64 a4] ?_; (with_reducible refine (spec_l07In.calls k1 _ _ l0_0 _ _ l0_1 x1_1 a3 a4 t235 false _ ?side1 ?side2 ?side3 ?side4 A11.out).mono ?_); (case side1 => exact (Kd.C_below HR0_0.out HB.out)); (case side2 => exact HC0_0.out); (case side3 => exact (Kd.C_below HR0_1.out HB.out)); (case side4 => exact HC0_1.out); rintro e w20 ⟨rfl, hb⟩; refine ⟨_, rfl, ?_⟩; have n0_ := Aside0.mk (blk_below (by exact BK233.out) hb); have n1_ := Aside0.mk (below_step (by repeat first | exact HB.out | apply pw_below_drewN) hb); clear BK233; clear HB; have BK233 := n0_; have HB := n1_; clear n0_ n1_; (try clear hb); (try clear hb2); (try clear hk); (try clear hi)))
     go_ret2
     exact ⟨by first | rfl | (simp [*, errW_none, errW_some] <;> rfl), by repeat first | exact HB.out | apply pw_below_drewN⟩

/-! ### spec_l06Above: function 86 -/
mutual
def spec_l06Above.l0 : Nat → Int → Int → Int → List (S72) → List (S68) → Option (Int)
 | 0, _, _, _, _, _ => none
 | k + 1, x1, x2, x7, x238000, x238001 => if x7 < (x238001.length : Int) then (if 0 ≤ x7 then ((spec_l00Has.f k ((rd_T68 x238001 x7).f2) x1).bind fun t240 => (if t240 = true then (if ((rd_T68 x238001 x7).f1) = x2 then (some ((rd_T68 x238001 x7).f0)) else ((spec_l06Above.f k x238000 x238001 ((rd_T68 x238001 x7).f0) x2).bind fun t241 => (some t241))) else (spec_l06Above.l0 k x1 x2 (wrap64 (x7 + 1)) x238000 x238001))) else (none)) else (some 0)
def spec_l06Above.f : Nat → List (S72) → List (S68) → Int → Int → Option (Int)
 | 0, _, _, _, _ => none
 | k + 1, l0_0, l0_1, a1, a2 => spec_l06Above.l0 k a1 a2 0 l0_0 l0_1
end
set_option maxHeartbeats 8000000 in
set_option maxRecDepth 100000 in
theorem spec_l06Above.calls (k : Nat) : ∀ (A0_0 : Option Addr) (c0_0 : Nat) (l0_0 : List (S72)) (A0_1 : Option Addr) (c0_1 : Nat) (l0_1 : List (S68)) (a1 : Int) (a2 : Int) (r : Int) (w : World) (hr0_0 : Kd.C k72 w A0_0 l0_0.length l0_0) (hc0_0 : l0_0.length ≤ c0_0) (hr0_1 : Kd.C k68 w A0_1 l0_1.length l0_1) (hc0_1 : l0_1.length ≤ c0_1) (h : spec_l06Above.f k l0_0 l0_1 a1 a2 = some r),
  Calls Tryz.prog 86 #[.agg #[.slice A0_0 l0_0.length c0_0, .slice A0_1 l0_1.length c0_1], .int .i64 a1, .int .i64 a2] w fun e w' => e = .returned (.int .i64 r) ∧ Below w.heap.size w w' := by
 induction k using Nat.strongRecOn with
 | _ k ih =>
 intro A0_0 c0_0 l0_0 A0_1 c0_1 l0_1 a1 a2 r w hr0_0 hc0_0 hr0_1 hc0_1 h
 cases k with
 | zero => exact absurd h (by simp [spec_l06Above.f])
 | succ k =>
 simp only [spec_l06Above.f] at h
 have hu35 := Tryz.underlying35
 have hu68 := Tryz.underlying68
 have HR0_0 := Aside0.mk hr0_0
 have HC0_0 := Aside0.mk hc0_0
 clear hr0_0 hc0_0
 have HR0_1 := Aside0.mk hr0_1
 have HC0_1 := Aside0.mk hc0_1
 clear hr0_1 hc0_1
 have HB := Aside0.mk (Below.refl w.heap.size w)
 have H : (spec_l06Above.l0 k a1 a2 0 l0_0 l0_1) = some r := h
 clear h
 have H' := Aside0.mk H
 clear H
 go_enter Tryz.func86, Tryz.ntmps86
 go_wp2_with (first | ((with_reducible refine gate_dst (N := 3) rfl ?_); refine box_event ?hg (N := 3) ?hd (cs := #[.slice A0_0 l0_0.length c0_0, .slice A0_1 l0_1.length c0_1]) (t := 35) ?hr ?_; (case hd => rfl); (case hg => rfl); (case hr => first | (go_simp; done) | (go_simp; rfl)); intro gb237 hg w4 hbox hb; have n0_ := Aside0.mk (below_step (by repeat first | exact HB.out | apply below_alloc | apply pw_below_drewN | apply below_drew1) hb); have n1_ := Aside0.mk (hbox); have n2_ := Aside0.mk ((by rw [hg]; exact (below_size (by repeat first | exact HB.out | apply below_alloc | apply pw_below_drewN | apply below_drew1)) : w.heap.size ≤ gb237)); have n3_ := Aside0.mk ((by rw [hg]; exact (below_size (by repeat first | exact HB.out | apply below_alloc | apply pw_below_drewN | apply below_drew1)) : w.heap.size ≤ gb237)); clear HB; have HB := n0_; have BK237 := n1_; have GW237 := n2_; have GE237 := n3_; clear n0_ n1_ n2_ n3_; clear hb hbox hg))
 go_loopg [7] k (fun kq v7 w' => ∃ (x7_1 : Int), v7 = .int .i64 x7_1 ∧ Aside0 (spec_l06Above.l0 kq a1 a2 x7_1 l0_0 l0_1 = some r) ∧ Aside0 (kq ≤ k) ∧ Aside0 (w'.heap[gb237]? = some (.cells #[(.slice A0_0 l0_0.length c0_0), (.slice A0_1 l0_1.length c0_1)] 35 (0, 0))) ∧ Aside0 (Below w.heap.size w w'))
 case atStart => exact ⟨(0), (by first | rfl | (simp; done) | (simp [*]; done)), H', ⟨Nat.le_refl _⟩, ⟨by (with_reducible repeat first | apply blk_drewN | apply blk_drew | apply blk_alloc); exact BK237.out⟩, ⟨by repeat (first | (with_reducible first | exact HB.out | apply below_alloc | apply pw_below_drewN | apply below_drew1 | refine below_set ?_ GE237.out) | exact HB.out)⟩⟩
 case round =>
  clear H'
  try clear p2
  obtain ⟨x7_1, rfl, HA, HK1, BK237, HB⟩ := hrel
  cases gk with
  | zero => exact absurd HA.out (by simp [spec_l06Above.l0])
  | succ k1 =>
   have H := HA.out
   clear HA
   simp only [spec_l06Above.l0] at H
   by_cases c5 : x7_1 < (l0_1.length : Int)
   ·rw [if_pos c5] at H
    have c5b0 : decide (x7_1 < (l0_1.length : Int)) = true := decide_eq_true c5
    clear c5
    by_cases c6 : 0 ≤ x7_1
    ·rw [if_pos c6] at H
     have c6b0 : decide (0 ≤ x7_1) = true := decide_eq_true c6
     clear c6
     replace H := Option.bind_eq_some_iff.mp H
     obtain ⟨t240, A70, H⟩ := H
     replace H : (if t240 = true then (if ((rd_T68 l0_1 x7_1).f1) = a2 then (some ((rd_T68 l0_1 x7_1).f0)) else ((spec_l06Above.f k1 l0_0 l0_1 ((rd_T68 l0_1 x7_1).f0) a2).bind fun t241 => (some t241))) else (spec_l06Above.l0 k1 a1 a2 (wrap64 (x7_1 + 1)) l0_0 l0_1)) = some r := H
     have A7 := Aside0.mk A70
     clear A70
     by_cases c8 : t240 = true
     ·subst c8
      rw [if_pos rfl] at H
      by_cases c9 : ((rd_T68 l0_1 x7_1).f1) = a2
      ·rw [if_pos c9] at H
       have c9b0 : (((rd_T68 l0_1 x7_1).f1) == a2) = true := beq_iff_eq.mpr c9
       have c9b1 : (((rd_T68 l0_1 x7_1).f1) != a2) = false := bne_eq_false_iff_eq.mpr c9
       clear c9
       obtain rfl := Option.some.inj H
       have hcz10_0 := (blk_cell BK237.out 0).trans rfl
       have hcz10_1 := (blk_cell BK237.out 1).trans rfl
       have hfz10_0 := blk_frozen BK237.out 0
       have hfz10_1 := blk_frozen BK237.out 1
       have p238 : 0 ≤ (x7_1 : Int) := of_decide_eq_true (by assumption)
       have q238 : x7_1 < (l0_1.length : Int) := of_decide_eq_true (by assumption)
       obtain ⟨ad238, A238_2, c238_2, e238, hx238_0, hx238_1, hx238_2, hl238_2, hi238_2⟩ := at_T68 HR0_1.out x7_1 p238 q238
       cases e238
       replace hx238_0 := (HB.out.cell (World.block_lt_of_cell? w _ hx238_0)).trans hx238_0
       replace hx238_1 := (HB.out.cell (World.block_lt_of_cell? w _ hx238_1)).trans hx238_1
       replace hx238_2 := (HB.out.cell (World.block_lt_of_cell? w _ hx238_2)).trans hx238_2
       have HR238_2 := Aside0.mk hi238_2
       have HC238_2 := Aside0.mk hl238_2
       clear hi238_2 hl238_2
       replace p238 := eq_true p238
       replace q238 := eq_true q238
       go_wp2_with (first | ((with_reducible refine gate_dst (N := 8) rfl ?_); refine box_event ?hg (N := 8) ?hd (cs := #[.int .i64 0, .int .i64 0, .slice none 0 0]) (t := 68) ?hr ?_; (case hd => rfl); (case hg => rfl); (case hr => first | (go_simp; done) | (go_simp; rfl)); intro gb239 hg w11 hbox hb; have n0_ := Aside0.mk (blk_below (g := gb237) (o := .cells #[.slice A0_0 l0_0.length c0_0, .slice (some ad238) l0_1.length c0_1] 35 (0, 0)) (by (with_reducible repeat first | apply blk_drewN | apply blk_drew | apply blk_alloc); exact BK237.out) hb); have n1_ := Aside0.mk (below_step (by repeat (first | (with_reducible first | exact HB.out | apply below_alloc | apply pw_below_drewN | apply below_drew1 | refine below_set ?_ GE237.out) | exact HB.out)) hb); have n2_ := Aside0.mk (hbox); have n3_ := Aside0.mk ((by rw [hg]; exact (below_size (by repeat (first | (with_reducible first | exact HB.out | apply below_alloc | apply pw_below_drewN | apply below_drew1 | refine below_set ?_ GE237.out) | exact HB.out))) : w.heap.size ≤ gb239)); have n4_ := Aside0.mk ((by rw [hg]; exact (below_size (by repeat (first | (with_reducible first | exact HB.out | apply below_alloc | apply pw_below_drewN | apply below_drew1 | refine below_set ?_ GE237.out) | exact HB.out))) : w.heap.size ≤ gb239)); have n5_ := Aside0.mk ((by rw [hg]; exact Nat.ne_of_lt (blk_lt (g := gb237) (o := .cells #[.slice A0_0 l0_0.length c0_0, .slice (some ad238) l0_1.length c0_1] 35 (0, 0)) (by (with_reducible repeat first | apply blk_drewN | apply blk_drew | apply blk_alloc); exact BK237.out)) : gb237 ≠ gb239)); have n6_ := Aside0.mk ((by rw [hg]; exact Nat.ne_of_gt (blk_lt (g := gb237) (o := .cells #[.slice A0_0 l0_0.length c0_0, .slice (some ad238) l0_1.length c0_1] 35 (0, 0)) (by (with_reducible repeat first | apply blk_drewN | apply blk_drew | apply blk_alloc); exact BK237.out)) : gb239 ≠ gb237)); clear BK237; clear HB; have BK237 := n0_; have HB := n1_; have BK239 := n2_; have GW239 := n3_; have GE239 := n4_; have NB237_239 := n5_; have NB239_237 := n6_; clear n0_ n1_ n2_ n3_ n4_ n5_ n6_; clear hb hbox hg; have hnb12 := NB239_237.out; have hnc12 := NB237_239.out; have hcz13_0 := (blk_cell BK239.out 0).trans rfl; have hcz13_1 := (blk_cell BK239.out 1).trans rfl; have hcz13_2 := (blk_cell BK239.out 2).trans rfl; have hfz13_0 := blk_frozen BK239.out 0; have hfz13_1 := blk_frozen BK239.out 1; have hfz13_2 := blk_frozen BK239.out 2) | ((with_reducible refine gate_callee (f := 60) rfl ?_); refine goesL_ (some 24) rfl rfl Tryz.func60 (by kernel_rfl) rfl #[.slice A238_2 ((rd_T68 l0_1 x7_1).f2).length c238_2, .int .i64 a1] rfl (by (try simp only [List.map_toArray, List.map_cons, List.map_nil]); first | done | rfl | (simp only [List.length_drop, List.length_take]; rfl)) ?_; (with_reducible refine (spec_l00Has.calls k1 _ _ ((rd_T68 l0_1 x7_1).f2) a1 true _ ?side1 ?side2 A7.out).mono ?_); (case side1 => exact Kd.C_below HR238_2.out (by repeat (first | (with_reducible first | exact HB.out | apply below_alloc | apply pw_below_drewN | apply below_drew1 | refine below_set ?_ GE237.out | refine below_set ?_ GE239.out) | exact HB.out))); (case side2 => exact HC238_2.out); rintro e w' ⟨rfl, ⟨nd, rfl⟩⟩; refine ⟨_, rfl, ?_⟩))
       go_ret
       exact ⟨by first | rfl | (simp [*, errW_none, errW_some] <;> rfl), by repeat (first | (with_reducible first | exact HB.out | apply below_alloc | apply pw_below_drewN | apply below_drew1 | refine below_set ?_ GE237.out | refine below_set ?_ GE239.out) | exact HB.out)⟩
      ·rw [if_neg c9] at H
       have c9b0 : (((rd_T68 l0_1 x7_1).f1) == a2) = false := beq_eq_false_iff_ne.mpr c9
       have c9b1 : (((rd_T68 l0_1 x7_1).f1) != a2) = true := bne_iff_ne.mpr c9
       replace H := Option.bind_eq_some_iff.mp H
       obtain ⟨t241, A140, H⟩ := H
       replace H : (some t241) = some r := H
       have A14 := Aside0.mk A140
       clear A140
       obtain rfl := Option.some.inj H
       have hcz15_0 := (blk_cell BK237.out 0).trans rfl
       have hcz15_1 := (blk_cell BK237.out 1).trans rfl
       have hfz15_0 := blk_frozen BK237.out 0
       have hfz15_1 := blk_frozen BK237.out 1
       have p238 : 0 ≤ (x7_1 : Int) := of_decide_eq_true (by assumption)
       have q238 : x7_1 < (l0_1.length : Int) := of_decide_eq_true (by assumption)
       obtain ⟨ad238, A238_2, c238_2, e238, hx238_0, hx238_1, hx238_2, hl238_2, hi238_2⟩ := at_T68 HR0_1.out x7_1 p238 q238
       cases e238
       replace hx238_0 := (HB.out.cell (World.block_lt_of_cell? w _ hx238_0)).trans hx238_0
       replace hx238_1 := (HB.out.cell (World.block_lt_of_cell? w _ hx238_1)).trans hx238_1
       replace hx238_2 := (HB.out.cell (World.block_lt_of_cell? w _ hx238_2)).trans hx238_2
       have HR238_2 := Aside0.mk hi238_2
       have HC238_2 := Aside0.mk hl238_2
       clear hi238_2 hl238_2
       replace p238 := eq_true p238
       replace q238 := eq_true q238
       go_wp2_with (first | ((with_reducible refine gate_dst (N := 8) rfl ?_); refine box_event ?hg (N := 8) ?hd (cs := #[.int .i64 0, .int .i64 0, .slice none 0 0]) (t := 68) ?hr ?_; (case hd => rfl); (case hg => rfl); (case hr => first | (go_simp; done) | (go_simp; rfl)); intro gb239 hg w16 hbox hb; have n0_ := Aside0.mk (blk_below (g := gb237) (o := .cells #[.slice A0_0 l0_0.length c0_0, .slice (some ad238) l0_1.length c0_1] 35 (0, 0)) (by (with_reducible repeat first | apply blk_drewN | apply blk_drew | apply blk_alloc); exact BK237.out) hb); have n1_ := Aside0.mk (below_step (by repeat (first | (with_reducible first | exact HB.out | apply below_alloc | apply pw_below_drewN | apply below_drew1 | refine below_set ?_ GE237.out) | exact HB.out)) hb); have n2_ := Aside0.mk (hbox); have n3_ := Aside0.mk ((by rw [hg]; exact (below_size (by repeat (first | (with_reducible first | exact HB.out | apply below_alloc | apply pw_below_drewN | apply below_drew1 | refine below_set ?_ GE237.out) | exact HB.out))) : w.heap.size ≤ gb239)); have n4_ := Aside0.mk ((by rw [hg]; exact (below_size (by repeat (first | (with_reducible first | exact HB.out | apply below_alloc | apply pw_below_drewN | apply below_drew1 | refine below_set ?_ GE237.out) | exact HB.out))) : w.heap.size ≤ gb239)); have n5_ := Aside0.mk ((by rw [hg]; exact Nat.ne_of_lt (blk_lt (g := gb237) (o := .cells #[.slice A0_0 l0_0.length c0_0, .slice (some ad238) l0_1.length c0_1] 35 (0, 0)) (by (with_reducible repeat first | apply blk_drewN | apply blk_drew | apply blk_alloc); exact BK237.out)) : gb237 ≠ gb239)); have n6_ := Aside0.mk ((by rw [hg]; exact Nat.ne_of_gt (blk_lt (g := gb237) (o := .cells #[.slice A0_0 l0_0.length c0_0, .slice (some ad238) l0_1.length c0_1] 35 (0, 0)) (by (with_reducible repeat first | apply blk_drewN | apply blk_drew | apply blk_alloc); exact BK237.out)) : gb239 ≠ gb237)); clear BK237; clear HB; have BK237 := n0_; have HB := n1_; have BK239 := n2_; have GW239 := n3_; have GE239 := n4_; have NB237_239 := n5_; have NB239_237 := n6_; clear n0_ n1_ n2_ n3_ n4_ n5_ n6_; clear hb hbox hg; have hnb17 := NB239_237.out; have hnc17 := NB237_239.out; have hcz18_0 := (blk_cell BK239.out 0).trans rfl; have hcz18_1 := (blk_cell BK239.out 1).trans rfl; have hcz18_2 := (blk_cell BK239.out 2).trans rfl; have hfz18_0 := blk_frozen BK239.out 0; have hfz18_1 := blk_frozen BK239.out 1; have hfz18_2 := blk_frozen BK239.out 2) | ((with_reducible refine gate_callee (f := 60) rfl ?_); refine goesL_ (some 24) rfl rfl Tryz.func60 (by kernel_rfl) rfl #[.slice A238_2 ((rd_T68 l0_1 x7_1).f2).length c238_2, .int .i64 a1] rfl (by (try simp only [List.map_toArray, List.map_cons, List.map_nil]); first | done | rfl | (simp only [List.length_drop, List.length_take]; rfl)) ?_; (with_reducible refine (spec_l00Has.calls k1 _ _ ((rd_T68 l0_1 x7_1).f2) a1 true _ ?side1 ?side2 A7.out).mono ?_); (case side1 => exact Kd.C_below HR238_2.out (by repeat (first | (with_reducible first | exact HB.out | apply below_alloc | apply pw_below_drewN | apply below_drew1 | refine below_set ?_ GE237.out | refine below_set ?_ GE239.out) | exact HB.out))); (case side2 => exact HC238_2.out); rintro e w' ⟨rfl, ⟨nd, rfl⟩⟩; refine ⟨_, rfl, ?_⟩; have hcz19_0 := (blk_cell BK237.out 0).trans rfl; have hcz19_1 := (blk_cell BK237.out 1).trans rfl; have hfz19_0 := blk_frozen BK237.out 0; have hfz19_1 := blk_frozen BK237.out 1) | ((with_reducible refine gate_callee (f := 86) rfl ?_); refine goesL_ (some 35) rfl rfl Tryz.func86 (by kernel_rfl) rfl #[.agg #[.slice A0_0 l0_0.length c0_0, .slice (some ad238) l0_1.length c0_1], .int .i64 ((rd_T68 l0_1 x7_1).f0), .int .i64 a2] rfl (by (try simp only [List.map_toArray, List.map_cons, List.map_nil]); first | done | rfl | (simp only [List.length_drop, List.length_take]; rfl)) ?_; (with_reducible refine (ih k1 (by have := HK1.out; omega) _ _ l0_0 _ _ l0_1 ((rd_T68 l0_1 x7_1).f0) a2 t241 _ ?side1 ?side2 ?side3 ?side4 A14.out).mono ?_); (case side1 => exact Kd.C_below HR0_0.out (by repeat (first | (with_reducible first | exact HB.out | apply below_alloc | apply pw_below_drewN | apply below_drew1 | refine below_set ?_ GE237.out | refine below_set ?_ GE239.out) | exact HB.out))); (case side2 => exact HC0_0.out); (case side3 => exact Kd.C_below HR0_1.out (by repeat (first | (with_reducible first | exact HB.out | apply below_alloc | apply pw_below_drewN | apply below_drew1 | refine below_set ?_ GE237.out | refine below_set ?_ GE239.out) | exact HB.out))); (case side4 => exact HC0_1.out); rintro e w20 ⟨rfl, hb⟩; refine ⟨_, rfl, ?_⟩; have n0_ := Aside0.mk (blk_below (g := gb237) (o := .cells #[.slice A0_0 l0_0.length c0_0, .slice (some ad238) l0_1.length c0_1] 35 (0, 0)) (by (with_reducible repeat first | apply blk_drewN | apply blk_drew | apply blk_alloc); refine blk_far ?_ NB237_239.out _; (with_reducible repeat first | apply blk_drewN | apply blk_drew | apply blk_alloc); refine blk_far ?_ NB237_239.out _; (with_reducible repeat first | apply blk_drewN | apply blk_drew | apply blk_alloc); refine blk_far ?_ NB237_239.out _; (with_reducible repeat first | apply blk_drewN | apply blk_drew | apply blk_alloc); exact BK237.out) hb); have n1_ := Aside0.mk (blk_below (g := gb239) (o := .cells #[.int .i64 ((rd_T68 l0_1 x7_1).f0), .int .i64 ((rd_T68 l0_1 x7_1).f1), .slice A238_2 ((rd_T68 l0_1 x7_1).f2).length c238_2] 68 (0, 0)) (by (with_reducible repeat first | apply blk_drewN | apply blk_drew | apply blk_alloc); refine blk_put (cs := #[.int .i64 ((rd_T68 l0_1 x7_1).f0), .int .i64 ((rd_T68 l0_1 x7_1).f1), .slice none 0 0]) ?_ 2 _ rfl; (with_reducible repeat first | apply blk_drewN | apply blk_drew | apply blk_alloc); refine blk_put (cs := #[.int .i64 ((rd_T68 l0_1 x7_1).f0), .int .i64 0, .slice none 0 0]) ?_ 1 _ rfl; (with_reducible repeat first | apply blk_drewN | apply blk_drew | apply blk_alloc); refine blk_put (cs := #[.int .i64 0, .int .i64 0, .slice none 0 0]) ?_ 0 _ rfl; (with_reducible repeat first | apply blk_drewN | apply blk_drew | apply blk_alloc); exact BK239.out) hb); have n2_ := Aside0.mk (below_step (by repeat (first | (with_reducible first | exact HB.out | apply below_alloc | apply pw_below_drewN | apply below_drew1 | refine below_set ?_ GE237.out | refine below_set ?_ GE239.out) | exact HB.out)) hb); clear BK237; clear BK239; clear HB; have BK237 := n0_; have BK239 := n1_; have HB := n2_; clear n0_ n1_ n2_; (try clear hb); (try clear hb2); (try clear hk); (try clear hi)))
       go_ret
       exact ⟨by first | rfl | (simp [*, errW_none, errW_some] <;> rfl), by repeat (first | (with_reducible first | exact HB.out | apply below_alloc | apply pw_below_drewN | apply below_drew1 | refine below_set ?_ GE237.out | refine below_set ?_ GE239.out) | exact HB.out)⟩
     ·replace c8 := Bool.eq_false_iff.mpr c8
      subst c8
      rw [if_neg (show ¬ (false = true) by decide)] at H
      have H' := Aside0.mk H
      clear H
      have hcz21_0 := (blk_cell BK237.out 0).trans rfl
      have hcz21_1 := (blk_cell BK237.out 1).trans rfl
      have hfz21_0 := blk_frozen BK237.out 0
      have hfz21_1 := blk_frozen BK237.out 1
      have p238 : 0 ≤ (x7_1 : Int) := of_decide_eq_true (by assumption)
      have q238 : x7_1 < (l0_1.length : Int) := of_decide_eq_true (by assumption)
      obtain ⟨ad238, A238_2, c238_2, e238, hx238_0, hx238_1, hx238_2, hl238_2, hi238_2⟩ := at_T68 HR0_1.out x7_1 p238 q238
      cases e238
      replace hx238_0 := (HB.out.cell (World.block_lt_of_cell? w _ hx238_0)).trans hx238_0
      replace hx238_1 := (HB.out.cell (World.block_lt_of_cell? w _ hx238_1)).trans hx238_1
      replace hx238_2 := (HB.out.cell (World.block_lt_of_cell? w _ hx238_2)).trans hx238_2
      have HR238_2 := Aside0.mk hi238_2
      have HC238_2 := Aside0.mk hl238_2
      clear hi238_2 hl238_2
      replace p238 := eq_true p238
      replace q238 := eq_true q238
      go_wp2_with (first | ((with_reducible refine gate_dst (N := 8) rfl ?_); refine box_event ?hg (N := 8) ?hd (cs := #[.int .i64 0, .int .i64 0, .slice none 0 0]) (t := 68) ?hr ?_; (case hd => rfl); (case hg => rfl); (case hr => first | (go_simp; done) | (go_simp; rfl)); intro gb239 hg w22 hbox hb; have n0_ := Aside0.mk (blk_below (g := gb237) (o := .cells #[.slice A0_0 l0_0.length c0_0, .slice (some ad238) l0_1.length c0_1] 35 (0, 0)) (by (with_reducible repeat first | apply blk_drewN | apply blk_drew | apply blk_alloc); exact BK237.out) hb); have n1_ := Aside0.mk (below_step (by repeat (first | (with_reducible first | exact HB.out | apply below_alloc | apply pw_below_drewN | apply below_drew1 | refine below_set ?_ GE237.out) | exact HB.out)) hb); have n2_ := Aside0.mk (hbox); have n3_ := Aside0.mk ((by rw [hg]; exact (below_size (by repeat (first | (with_reducible first | exact HB.out | apply below_alloc | apply pw_below_drewN | apply below_drew1 | refine below_set ?_ GE237.out) | exact HB.out))) : w.heap.size ≤ gb239)); have n4_ := Aside0.mk ((by rw [hg]; exact (below_size (by repeat (first | (with_reducible first | exact HB.out | apply below_alloc | apply pw_below_drewN | apply below_drew1 | refine below_set ?_ GE237.out) | exact HB.out))) : w.heap.size ≤ gb239)); have n5_ := Aside0.mk ((by rw [hg]; exact Nat.ne_of_lt (blk_lt (g := gb237) (o := .cells #[.slice A0_0 l0_0.length c0_0, .slice (some ad238) l0_1.length c0_1] 35 (0, 0)) (by (with_reducible repeat first | apply blk_drewN | apply blk_drew | apply blk_alloc); exact BK237.out)) : gb237 ≠ gb239)); have n6_ := Aside0.mk ((by rw [hg]; exact Nat.ne_of_gt (blk_lt (g := gb237) (o := .cells #[.slice A0_0 l0_0.length c0_0, .slice (some ad238) l0_1.length c0_1] 35 (0, 0)) (by (with_reducible repeat first | apply blk_drewN | apply blk_drew | apply blk_alloc); exact BK237.out)) : gb239 ≠ gb237)); clear BK237; clear HB; have BK237 := n0_; have HB := n1_; have BK239 := n2_; have GW239 := n3_; have GE239 := n4_; have NB237_239 := n5_; have NB239_237 := n6_; clear n0_ n1_ n2_ n3_ n4_ n5_ n6_; clear hb hbox hg; have hnb23 := NB239_237.out; have hnc23 := NB237_239.out; have hcz24_0 := (blk_cell BK239.out 0).trans rfl; have hcz24_1 := (blk_cell BK239.out 1).trans rfl; have hcz24_2 := (blk_cell BK239.out 2).trans rfl; have hfz24_0 := blk_frozen BK239.out 0; have hfz24_1 := blk_frozen BK239.out 1; have hfz24_2 := blk_frozen BK239.out 2) | ((with_reducible refine gate_callee (f := 60) rfl ?_); refine goesL_ (some 24) rfl rfl Tryz.func60 (by kernel_rfl) rfl #[.slice A238_2 ((rd_T68 l0_1 x7_1).f2).length c238_2, .int .i64 a1] rfl (by (try simp only [List.map_toArray, List.map_cons, List.map_nil]); first | done | rfl | (simp only [List.length_drop, List.length_take]; rfl)) ?_; (with_reducible refine (spec_l00Has.calls k1 _ _ ((rd_T68 l0_1 x7_1).f2) a1 false _ ?side1 ?side2 A7.out).mono ?_); (case side1 => exact Kd.C_below HR238_2.out (by repeat (first | (with_reducible first | exact HB.out | apply below_alloc | apply pw_below_drewN | apply below_drew1 | refine below_set ?_ GE237.out | refine below_set ?_ GE239.out) | exact HB.out))); (case side2 => exact HC238_2.out); rintro e w' ⟨rfl, ⟨nd, rfl⟩⟩; refine ⟨_, rfl, ?_⟩))
      go_roundg k1
      case measure => have := HK1.out; omega
      case rel => exact ⟨(wrap64 (x7_1 + 1)), (by first | rfl | (simp; done) | (simp [*]; done)), H', ⟨by have := HK1.out; omega⟩, ⟨by (with_reducible repeat first | apply blk_drewN | apply blk_drew | apply blk_alloc); refine blk_far ?_ NB237_239.out _; (with_reducible repeat first | apply blk_drewN | apply blk_drew | apply blk_alloc); refine blk_far ?_ NB237_239.out _; (with_reducible repeat first | apply blk_drewN | apply blk_drew | apply blk_alloc); refine blk_far ?_ NB237_239.out _; (with_reducible repeat first | apply blk_drewN | apply blk_drew | apply blk_alloc); exact BK237.out⟩, ⟨by repeat (first | (with_reducible first | exact HB.out | apply below_alloc | apply pw_below_drewN | apply below_drew1 | refine below_set ?_ GE237.out | refine below_set ?_ GE239.out) | exact HB.out)⟩⟩
    ·rw [if_neg c6] at H
     exact absurd H (by simp)
   ·rw [if_neg c5] at H
    have c5b0 : decide (x7_1 < (l0_1.length : Int)) = false := decide_eq_false c5
    clear c5
    obtain rfl := Option.some.inj H
    have hcz25_0 := (blk_cell BK237.out 0).trans rfl
    have hcz25_1 := (blk_cell BK237.out 1).trans rfl
    have hfz25_0 := blk_frozen BK237.out 0
    have hfz25_1 := blk_frozen BK237.out 1
    go_wp2
    go_ret
    exact ⟨by first | rfl | (simp [*, errW_none, errW_some] <;> rfl), by repeat (first | (with_reducible first | exact HB.out | apply below_alloc | apply pw_below_drewN | apply below_drew1 | refine below_set ?_ GE237.out) | exact HB.out)⟩

end Go.Proofs.YtkadeelplnkpgaaGreat.Q
