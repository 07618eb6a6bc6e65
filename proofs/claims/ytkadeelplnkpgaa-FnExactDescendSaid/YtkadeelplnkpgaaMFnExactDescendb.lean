/- Walks and plain laws of one claim, several texts in one. -/
import Derived.Test.YtkadeelplnkpgaaQ0
import Derived.Shelf.SortM.Plain
import Derived.Shelf.SortM.SortNone
import Derived.Sort.OwnSortedInts
import Derived.Test.YtkadeelplnkpgaaOwnWords
import Derived.Test.YtkadeelplnkpgaaMFnExactDescenda
import Derived.Test.YtkadeelplnkpgaaQf121
import Derived.Test.YtkadeelplnkpgaaQf104
import Derived.Test.YtkadeelplnkpgaaQf60
import Derived.Test.YtkadeelplnkpgaaOTreeC
import Derived.Test.YtkadeelplnkpgaaQf13
import Derived.Test.YtkadeelplnkpgaaQf15
import Derived.Test.YtkadeelplnkpgaaQf17
import Derived.Test.YtkadeelplnkpgaaQf46
import Derived.Test.YtkadeelplnkpgaaWBMore
import Derived.Test.YtkadeelplnkpgaaQf19
import Derived.Test.YtkadeelplnkpgaaQf21
import Derived.Test.YtkadeelplnkpgaaOTypes
import Derived.Test.YtkadeelplnkpgaaQf62
import Derived.Test.YtkadeelplnkpgaaQf83
import Derived.Test.YtkadeelplnkpgaaQf58
import Derived.Test.YtkadeelplnkpgaaQf50
import Derived.Test.YtkadeelplnkpgaaQf72
import Derived.Test.YtkadeelplnkpgaaQf63
import Derived.Laws.BitsLemmas
import Derived.Test.YtkadeelplnkpgaaQf166
import Derived.Test.YtkadeelplnkpgaaQf156
import Derived.Test.YtkadeelplnkpgaaQf123
import Derived.Test.YtkadeelplnkpgaaQf77
-- text Qf167
namespace Go.Proofs.Ytkadeelplnkpgaa.Q
open Go.RowKit Go.Proofs.YtkadeelplnkpgaaW.PrintWords Go.Proofs.YtkadeelplnkpgaaW.PrintLast Go.Proofs.YtkadeelplnkpgaaW.PrintMore
attribute [local go_sem] max2_int min2_int max_two min_two max_three min_three max_four min_four   -- for this text's walks alone
set_option linter.unusedVariables false
set_option linter.unusedSimpArgs false

/-! ### impl_Mix: function 167 -/
def impl_Mix.l0 : Nat → Int → List Int → Int → Int → Option (Int)
  | 0, _, _, _, _ => none
  | k + 1, x3, x6, x7, x8 => if x8 < x7 then (if 0 ≤ x8 then (if x8 < (x6.length : Int) then (impl_Mix.l0 k (Go.bits .xor .u32 (((Go.bits .xor .u32 (((Go.bits .xor .u32 x3 ((rd x6 x8) % 4294967296)) * 16777619) % 4294967296) ((((Go.bits .xor .u32 x3 ((rd x6 x8) % 4294967296)) * 16777619) % 4294967296) / 32768)) * 1540483477) % 4294967296) ((((Go.bits .xor .u32 (((Go.bits .xor .u32 x3 ((rd x6 x8) % 4294967296)) * 16777619) % 4294967296) ((((Go.bits .xor .u32 x3 ((rd x6 x8) % 4294967296)) * 16777619) % 4294967296) / 32768)) * 1540483477) % 4294967296) / 8192)) x6 x7 (wrap64 (x8 + 1))) else (none)) else (none)) else (some (wrap64 (x3)))
def impl_Mix.f (k : Nat) (l0 : List Int) : Option (Int) := impl_Mix.l0 k 2166136261 l0 (l0.length : Int) 0
set_option maxHeartbeats 8000000 in
set_option maxRecDepth 100000 in
theorem impl_Mix.calls (k : Nat) (A0 : Option Addr) (c0 : Nat) (l0 : List Int) (r : Int) (w : World) (hr0 : Kd.C (Kd.int .i64) w A0 l0.length l0) (hc0 : l0.length ≤ c0) (h : impl_Mix.f k l0 = some r) :
    Calls Try.prog 167 #[.slice A0 l0.length c0] w fun e w' => e = .returned (.int .i64 r) ∧ Drawn0 w w' := by
  have HR0 := Aside0.mk hr0
  have HC0 := Aside0.mk hc0
  clear hr0 hc0
  have H : (impl_Mix.l0 k 2166136261 l0 (l0.length : Int) 0) = some r := h
  clear h
  have H' := Aside0.mk H
  clear H
  go_enter Try.func167, Try.ntmps167
  go_wp2
  go_loopg [3, 8] k (fun kq v3 v8 w' => ∃ (x3_1 : Int) (x8_1 : Int), v3 = .int .u32 x3_1 ∧ v8 = .int .i64 x8_1 ∧ Aside0 (impl_Mix.l0 kq x3_1 l0 (l0.length : Int) x8_1 = some r) ∧ Aside0 (kq ≤ k) ∧ Drawn0 w w')
  case atStart => exact ⟨(2166136261), (0), (by first | rfl | (simp; done) | (simp [*]; done)), (by first | rfl | (simp; done) | (simp [*]; done)), H', ⟨Nat.le_refl _⟩, by repeat (first | exact Drawn0.refl _ | apply Drawn0.step)⟩
  case round =>
    clear H'
    try clear c1
    obtain ⟨x3_1, x8_1, rfl, rfl, HA, HK1, ⟨m1, rfl⟩⟩ := hrel
    cases gk with
    | zero => exact absurd HA.out (by simp [impl_Mix.l0])
    | succ k1 =>
      have H := HA.out
      clear HA
      simp only [impl_Mix.l0] at H
      by_cases c2 : x8_1 < (l0.length : Int)
      · rw [if_pos c2] at H
        have c2b0 : decide (x8_1 < (l0.length : Int)) = true := decide_eq_true c2
        clear c2
        by_cases c3 : 0 ≤ x8_1
        · rw [if_pos c3] at H
          have c3b0 : decide (0 ≤ x8_1) = true := decide_eq_true c3
          clear c3
          by_cases c4 : x8_1 < (l0.length : Int)
          · rw [if_pos c4] at H
            have c4b0 : decide (x8_1 < (l0.length : Int)) = true := decide_eq_true c4
            clear c4
            have H' := Aside0.mk H
            clear H
            have p642 : 0 ≤ (x8_1 : Int) := of_decide_eq_true (by assumption)
            have q642 : x8_1 < (l0.length : Int) := of_decide_eq_true (by assumption)
            obtain ⟨ad642, e642, hx642_0⟩ := Kd.at_int HR0.out x8_1 p642 q642
            cases e642
            replace p642 := eq_true p642
            replace q642 := eq_true q642
            go_wp2
            go_roundg k1
            case measure => have := HK1.out; omega
            case rel => exact ⟨(Go.bits .xor .u32 (((Go.bits .xor .u32 (((Go.bits .xor .u32 x3_1 ((rd l0 x8_1) % 4294967296)) * 16777619) % 4294967296) ((((Go.bits .xor .u32 x3_1 ((rd l0 x8_1) % 4294967296)) * 16777619) % 4294967296) / 32768)) * 1540483477) % 4294967296) ((((Go.bits .xor .u32 (((Go.bits .xor .u32 x3_1 ((rd l0 x8_1) % 4294967296)) * 16777619) % 4294967296) ((((Go.bits .xor .u32 x3_1 ((rd l0 x8_1) % 4294967296)) * 16777619) % 4294967296) / 32768)) * 1540483477) % 4294967296) / 8192)), (wrap64 (x8_1 + 1)), (by first | rfl | (simp; done) | (simp [*]; done)), (by first | rfl | (simp; done) | (simp [*]; done)), H', ⟨by have := HK1.out; omega⟩, by repeat (first | exact Drawn0.refl _ | apply Drawn0.step)⟩
          · rw [if_neg c4] at H
            exact absurd H (by simp)
        · rw [if_neg c3] at H
          exact absurd H (by simp)
      · rw [if_neg c2] at H
        have c2b0 : decide (x8_1 < (l0.length : Int)) = false := decide_eq_false c2
        clear c2
        obtain rfl := Option.some.inj H
        go_wp2
        go_ret
        exact ⟨by first | rfl | (simp; done) | (simp [*]; done), by repeat (first | exact Drawn0.refl _ | apply Drawn0.step)⟩

end Go.Proofs.Ytkadeelplnkpgaa.Q

-- text Qf157
namespace Go.Proofs.Ytkadeelplnkpgaa.Q
open Go.RowKit Go.Proofs.YtkadeelplnkpgaaW.PrintWords Go.Proofs.YtkadeelplnkpgaaW.PrintLast Go.Proofs.YtkadeelplnkpgaaW.PrintMore
attribute [local go_sem] max2_int min2_int max_two min_two max_three min_three max_four min_four   -- for this text's walks alone
set_option linter.unusedVariables false
set_option linter.unusedSimpArgs false

/-! ### impl_TicketOf: function 157 -/
def impl_TicketOf.f (k : Nat) (a0 : Int) (a1 : Int) (a2 : Int) (a3 : Int) : Option (Int) := (impl_Mix.f k (([a2, a3, a0, a1] : List Int))).bind fun t646 => (some t646)
set_option maxHeartbeats 8000000 in
set_option maxRecDepth 100000 in
theorem impl_TicketOf.calls (k : Nat) (a0 : Int) (a1 : Int) (a2 : Int) (a3 : Int) (r : Int) (w : World) (h : impl_TicketOf.f k a0 a1 a2 a3 = some r) :
    Calls Try.prog 157 #[.int .i64 a0, .int .i64 a1, .int .i64 a2, .int .i64 a3] w fun e w' => e = .returned (.int .i64 r) ∧ Below w.heap.size w w' := by
  have HB := Aside0.mk (Below.refl w.heap.size w)
  have H : ((impl_Mix.f k (([a2, a3, a0, a1] : List Int))).bind fun t646 => (some t646)) = some r := h
  clear h
  obtain ⟨y643, hy643⟩ : ∃ y_ : List Int, y_ = (([a2, a3, a0, a1] : List Int)) := ⟨_, rfl⟩
  replace H : ((impl_Mix.f k y643).bind fun t646 => (some t646)) = some r := by first | (rw [hy643]; with_reducible exact H) | (have H2_ := (Option.bind_some _ _).symm.trans H; rw [hy643]; with_reducible exact H2_) | (have H2_ := (Option.bind_some _ _).symm.trans H; with_reducible exact H2_) | with_reducible exact H | (rw [hy643]; exact H) | exact H
  have Ny643 := Aside0.mk hy643
  clear hy643
  replace H := Option.bind_eq_some_iff.mp H
  obtain ⟨t646, A50, H⟩ := H
  replace H : (some t646) = some r := H
  have A5 := Aside0.mk A50
  clear A50
  obtain rfl := Option.some.inj H
  go_enter Try.func157, Try.ntmps157
  go_wp2_with (first | ((with_reducible refine gate_dst (N := 13) rfl ?_); refine Kd.R_lit (Kd.int .i64) _ 2 ?hg (N := 13) ?hd (xs := ([a2, a3, a0, a1] : List Int)) (inner := [.int .i64 a2, .int .i64 a3, .int .i64 a0, .int .i64 a1]) (ok := fun _ => True) (okp := fun _ => True) ?hr ?hp (fun _ hk => hk) trivial (Below.refl _ _) (Nat.le_refl _) (by simp) ?_; (case hd => rfl); (case hg => rfl); (case hr => first | (go_simp; done) | (go_simp; rfl)); (case hp => exact (Reps.one (show Kd.M (Kd.int .i64) _ _ _ a2 [.int .i64 a2] from rfl) (Reps.one (show Kd.M (Kd.int .i64) _ _ _ a3 [.int .i64 a3] from rfl) (Reps.one (show Kd.M (Kd.int .i64) _ _ _ a0 [.int .i64 a0] from rfl) (Reps.one (show Kd.M (Kd.int .i64) _ _ _ a1 [.int .i64 a1] from rfl) (Reps.none _ _)))))); intro v644 w6 ho7 hb hg_ hnew_; clear hg_ hnew_; (first | rw [← Ny643.out] at ho7 | (simp only [Int.reduceToNat] at ho7; rw [← Ny643.out] at ho7)); have n0_ := Aside0.mk (Kd.R_lower ho7 (below_size (by repeat first | exact HB.out | apply below_alloc | apply pw_below_drewN | apply below_drew1))); have n1_ := Aside0.mk (below_step (by repeat first | exact HB.out | apply below_alloc | apply pw_below_drewN | apply below_drew1) hb); clear HB; have HO645 := n0_; have HB := n1_; clear n0_ n1_; clear hb ho7; obtain ⟨Ao8, co8, eo8⟩ := Kd.R_slice HO645.out; subst eo8) | ((with_reducible refine gate_callee (f := 167) rfl ?_); refine goesL_ (some 14) rfl rfl Try.func167 (by kernel_rfl) rfl #[.slice Ao8 y643.length co8] rfl (by (try simp only [List.map_toArray, List.map_cons, List.map_nil]); first | done | rfl | (simp only [List.length_drop, List.length_take]; rfl)) ?_; (with_reducible refine (impl_Mix.calls k _ _ y643 t646 _ ?side1 ?side2 A5.out).mono ?_); (case side1 => repeat (first | exact (Kd.R_reads' HO645.out).2.2 | (with_reducible refine Kd.C_alloc ?_ _) | (with_reducible refine Kd.C_drewN ?_ _) | (with_reducible refine Kd.C_drew ?_))); (case side2 => exact (Kd.R_reads' HO645.out).2.1); rintro e w' ⟨rfl, ⟨nd, rfl⟩⟩; refine ⟨_, rfl, ?_⟩))
  go_ret
  exact ⟨by first | rfl | (simp [*, errW_none, errW_some] <;> rfl), by repeat first | exact HB.out | apply below_alloc | apply pw_below_drewN | apply below_drew1⟩

end Go.Proofs.Ytkadeelplnkpgaa.Q

-- text Qf142
namespace Go.Proofs.Ytkadeelplnkpgaa.Q
open Go.RowKit Go.Proofs.YtkadeelplnkpgaaW.PrintWords Go.Proofs.YtkadeelplnkpgaaW.PrintLast Go.Proofs.YtkadeelplnkpgaaW.PrintMore
attribute [local go_sem] max2_int min2_int max_two min_two max_three min_three max_four min_four   -- for this text's walks alone
set_option linter.unusedVariables false
set_option linter.unusedSimpArgs false

/-! ### impl_Item_best: function 142 -/
def impl_Item_best.l0 : Nat → Int → Int → Int → Int → Int → Int → Int → Option (Int)
  | 0, _, _, _, _, _, _, _ => none
  | k + 1, x1, x2, x7, x10, x11, x648000, x648001 => if x11 < x10 then ((impl_TicketOf.f k x648000 x11 x1 x2).bind fun t648 => (impl_Item_best.l0 k x1 x2 (mx x7 t648) x10 (wrap64 (x11 + 1)) x648000 x648001)) else (some x7)
def impl_Item_best.f (k : Nat) (a0_0 : Int) (a0_1 : Int) (a1 : Int) (a2 : Int) : Option (Int) := impl_Item_best.l0 k a1 a2 (-1) a0_1 0 a0_0 a0_1
set_option maxHeartbeats 8000000 in
set_option maxRecDepth 100000 in
theorem impl_Item_best.calls (k : Nat) (a0_0 : Int) (a0_1 : Int) (a1 : Int) (a2 : Int) (r : Int) (w : World) (h : impl_Item_best.f k a0_0 a0_1 a1 a2 = some r) :
    Calls Try.prog 142 #[.agg #[.int .i64 a0_0, .int .i64 a0_1], .int .i64 a1, .int .i64 a2] w fun e w' => e = .returned (.int .i64 r) ∧ Below w.heap.size w w' := by
  have hu134 := Try.underlying134
  have HB := Aside0.mk (Below.refl w.heap.size w)
  have H : (impl_Item_best.l0 k a1 a2 (-1) a0_1 0 a0_0 a0_1) = some r := h
  clear h
  have H' := Aside0.mk H
  clear H
  go_enter Try.func142, Try.ntmps142
  go_wp2_with (first | ((with_reducible refine gate_dst (N := 3) rfl ?_); refine box_event ?hg (N := 3) ?hd (cs := #[.int .i64 a0_0, .int .i64 a0_1]) (t := 134) ?hr ?_; (case hd => rfl); (case hg => rfl); (case hr => first | (go_simp; done) | (go_simp; rfl)); intro gb647 hg w4 hbox hb; have n0_ := Aside0.mk (below_step (by repeat first | exact HB.out | apply below_alloc | apply pw_below_drewN | apply below_drew1) hb); have n1_ := Aside0.mk (hbox); have n2_ := Aside0.mk ((by rw [hg]; exact (below_size (by repeat first | exact HB.out | apply below_alloc | apply pw_below_drewN | apply below_drew1)) : w.heap.size ≤ gb647)); have n3_ := Aside0.mk ((by rw [hg]; exact (below_size (by repeat first | exact HB.out | apply below_alloc | apply pw_below_drewN | apply below_drew1)) : w.heap.size ≤ gb647)); clear HB; have HB := n0_; have BK647 := n1_; have GW647 := n2_; have GE647 := n3_; clear n0_ n1_ n2_ n3_; clear hb hbox hg; have hcz5_0 : w4.cell? ⟨gb647, 0, none⟩ = some (.int .i64 a0_0) := (blk_cell BK647.out 0).trans rfl; have hcz5_1 : w4.cell? ⟨gb647, 1, none⟩ = some (.int .i64 a0_1) := (blk_cell BK647.out 1).trans rfl; have hfz5_0 := blk_frozen BK647.out 0; have hfz5_1 := blk_frozen BK647.out 1))
  go_loopg [7, 11] k (fun kq v7 v11 w' => ∃ (x7_1 : Int) (x11_1 : Int), v7 = .int .i64 x7_1 ∧ v11 = .int .i64 x11_1 ∧ Aside0 (impl_Item_best.l0 kq a1 a2 x7_1 a0_1 x11_1 a0_0 a0_1 = some r) ∧ Aside0 (kq ≤ k) ∧ Aside0 (w'.heap[gb647]? = some (.cells #[.int .i64 a0_0, .int .i64 a0_1] 134 (0, 0))) ∧ Aside0 (Below w.heap.size w w'))
  case atStart => exact ⟨((-1)), (0), (by first | rfl | (simp; done) | (simp [*]; done)), (by first | rfl | (simp; done) | (simp [*]; done)), H', ⟨Nat.le_refl _⟩, ⟨by (with_reducible repeat first | apply blk_drewN | apply blk_drew | apply blk_alloc); exact BK647.out⟩, ⟨by repeat (first | (with_reducible first | exact HB.out | apply below_alloc | apply pw_below_drewN | apply below_drew1 | refine below_set ?_ GE647.out) | exact HB.out)⟩⟩
  case round =>
    clear H'
    try clear c1
    try clear p2
    try clear hcz5_0
    try clear hcz5_1
    try clear hfz5_0
    try clear hfz5_1
    obtain ⟨x7_1, x11_1, rfl, rfl, HA, HK1, BK647, HB⟩ := hrel
    cases gk with
    | zero => exact absurd HA.out (by simp [impl_Item_best.l0])
    | succ k1 =>
      have H := HA.out
      clear HA
      simp only [impl_Item_best.l0] at H
      by_cases c6 : x11_1 < a0_1
      · rw [if_pos c6] at H
        have c6b0 : decide (x11_1 < a0_1) = true := decide_eq_true c6
        clear c6
        replace H := Option.bind_eq_some_iff.mp H
        obtain ⟨t648, A70, H⟩ := H
        replace H : (impl_Item_best.l0 k1 a1 a2 (mx x7_1 t648) a0_1 (wrap64 (x11_1 + 1)) a0_0 a0_1) = some r := H
        have A7 := Aside0.mk A70
        clear A70
        obtain ⟨ji8, hji8⟩ : ∃ j_ : Int, (mx x7_1 t648) = j_ := ⟨_, rfl⟩
        replace H : (impl_Item_best.l0 k1 a1 a2 ji8 a0_1 (wrap64 (x11_1 + 1)) a0_0 a0_1) = some r := by first | (rw [hji8] at H; exact H) | (simp only [hji8] at H ⊢; exact H)
        (try rw [hji8] at A7)
        have hji8_ : (if x7_1 < t648 then t648 else x7_1) = ji8 := hji8
        have H' := Aside0.mk H
        clear H
        have hcz9_0 : wr.cell? ⟨gb647, 0, none⟩ = some (.int .i64 a0_0) := (blk_cell BK647.out 0).trans rfl
        have hcz9_1 : wr.cell? ⟨gb647, 1, none⟩ = some (.int .i64 a0_1) := (blk_cell BK647.out 1).trans rfl
        have hfz9_0 := blk_frozen BK647.out 0
        have hfz9_1 := blk_frozen BK647.out 1
        go_wp2_with (first | ((with_reducible refine gate_callee (f := 157) rfl ?_); refine goesL_ (some 20) rfl rfl Try.func157 (by kernel_rfl) rfl #[.int .i64 a0_0, .int .i64 x11_1, .int .i64 a1, .int .i64 a2] rfl (by (try simp only [List.map_toArray, List.map_cons, List.map_nil]); first | done | rfl | (simp only [List.length_drop, List.length_take]; rfl)) ?_; (with_reducible refine (impl_TicketOf.calls k1 a0_0 x11_1 a1 a2 t648 _ A7.out).mono ?_); rintro e w10 ⟨rfl, hb⟩; refine ⟨_, rfl, ?_⟩; have n0_ := Aside0.mk (blk_below (g := gb647) (o := .cells #[.int .i64 a0_0, .int .i64 a0_1] 134 (0, 0)) (by (with_reducible repeat first | apply blk_drewN | apply blk_drew | apply blk_alloc); exact BK647.out) hb); have n1_ := Aside0.mk (below_step (by repeat (first | (with_reducible first | exact HB.out | apply below_alloc | apply pw_below_drewN | apply below_drew1 | refine below_set ?_ GE647.out) | exact HB.out)) hb); clear BK647; clear HB; have BK647 := n0_; have HB := n1_; clear n0_ n1_; (try clear hb); (try clear hb2); (try clear hk); (try clear hi)))
        go_roundg k1
        case measure => have := HK1.out; omega
        case rel => exact ⟨(ji8), (wrap64 (x11_1 + 1)), (by first | rfl | (simp; done) | (simp only [← hji8] <;> (first | rfl | simp)) | (simp [*]; done)), (by first | rfl | (simp; done) | (simp [*]; done)), H', ⟨by have := HK1.out; omega⟩, ⟨by (with_reducible repeat first | apply blk_drewN | apply blk_drew | apply blk_alloc); exact BK647.out⟩, ⟨by repeat (first | (with_reducible first | exact HB.out | apply below_alloc | apply pw_below_drewN | apply below_drew1 | refine below_set ?_ GE647.out) | exact HB.out)⟩⟩
      · rw [if_neg c6] at H
        have c6b0 : decide (x11_1 < a0_1) = false := decide_eq_false c6
        clear c6
        obtain rfl := Option.some.inj H
        go_wp2
        go_ret
        exact ⟨by first | rfl | (simp [*, errW_none, errW_some] <;> rfl), by repeat (first | (with_reducible first | exact HB.out | apply below_alloc | apply pw_below_drewN | apply below_drew1 | refine below_set ?_ GE647.out) | exact HB.out)⟩

end Go.Proofs.Ytkadeelplnkpgaa.Q

-- text Qf124
namespace Go.Proofs.Ytkadeelplnkpgaa.Q
open Go.RowKit Go.Proofs.YtkadeelplnkpgaaW.PrintWords Go.Proofs.YtkadeelplnkpgaaW.PrintLast Go.Proofs.YtkadeelplnkpgaaW.PrintMore
attribute [local go_sem] max2_int min2_int max_two min_two max_three min_three max_four min_four   -- for this text's walks alone
set_option linter.unusedVariables false
set_option linter.unusedSimpArgs false

/-! ### impl_choose: function 124 -/
def impl_choose.l0 : Nat → Int → Int → Int → Int → List (S134) → Int → Int → Option (Int × Bool)
  | 0, _, _, _, _, _, _, _ => none
  | k + 1, x1, x2, x8, x9, x13, x14, x15 => if x15 < x14 then (if 0 ≤ x15 then (if x15 < (x13.length : Int) then ((impl_Item_best.f k ((rd_T134 x13 x15).f0) ((rd_T134 x13 x15).f1) x1 x2).bind fun t651 => (if t651 > x8 then (impl_choose.l0 k x1 x2 t651 ((rd_T134 x13 x15).f0) x13 x14 (wrap64 (x15 + 1))) else (impl_choose.l0 k x1 x2 x8 x9 x13 x14 (wrap64 (x15 + 1))))) else (none)) else (none)) else (some (x9, decide (x8 ≥ 0)))
def impl_choose.f (k : Nat) (l0 : List (S134)) (a1 : Int) (a2 : Int) : Option (Int × Bool) := impl_choose.l0 k a1 a2 (-1) 0 l0 (l0.length : Int) 0
set_option maxHeartbeats 8000000 in
set_option maxRecDepth 100000 in
theorem impl_choose.calls (k : Nat) (A0 : Option Addr) (c0 : Nat) (l0 : List (S134)) (a1 : Int) (a2 : Int) (r1 : Int) (r2 : Bool) (w : World) (hr0 : Kd.C k134 w A0 l0.length l0) (hc0 : l0.length ≤ c0) (h : impl_choose.f k l0 a1 a2 = some (r1, r2)) :
    Calls Try.prog 124 #[.slice A0 l0.length c0, .int .i64 a1, .int .i64 a2] w fun e w' => e = .returned (.tuple #[.int .i64 r1, .bool r2]) ∧ Below w.heap.size w w' := by
  have hu134 := Try.underlying134
  have HR0 := Aside0.mk hr0
  have HC0 := Aside0.mk hc0
  clear hr0 hc0
  have HB := Aside0.mk (Below.refl w.heap.size w)
  have H : (impl_choose.l0 k a1 a2 (-1) 0 l0 (l0.length : Int) 0) = some (r1, r2) := h
  clear h
  have H' := Aside0.mk H
  clear H
  go_enter Try.func124, Try.ntmps124
  go_wp2
  repeat (go_quiet (fail); try go_wp2)
  go_loopg [8, 9, 15] k (fun kq v8 v9 v15 w' => ∃ (x8_1 : Int) (x9_1 : Int) (x15_1 : Int), v8 = .int .i64 x8_1 ∧ v9 = .int .i64 x9_1 ∧ v15 = .int .i64 x15_1 ∧ Aside0 (impl_choose.l0 kq a1 a2 x8_1 x9_1 l0 (l0.length : Int) x15_1 = some (r1, r2)) ∧ Aside0 (kq ≤ k) ∧ Aside0 (Below w.heap.size w w'))
  case atStart => exact ⟨((-1)), (0), (0), (by first | rfl | (simp; done) | (simp [*]; done)), (by first | rfl | (simp; done) | (simp [*]; done)), (by first | rfl | (simp; done) | (simp [*]; done)), H', ⟨Nat.le_refl _⟩, ⟨by repeat first | exact HB.out | apply below_alloc | apply pw_below_drewN | apply below_drew1⟩⟩
  case round =>
    clear H'
    try clear c1
    try clear p2
    obtain ⟨x8_1, x9_1, x15_1, rfl, rfl, rfl, HA, HK1, HB⟩ := hrel
    cases gk with
    | zero => exact absurd HA.out (by simp [impl_choose.l0])
    | succ k1 =>
      have H := HA.out
      clear HA
      simp only [impl_choose.l0] at H
      by_cases c4 : x15_1 < (l0.length : Int)
      · rw [if_pos c4] at H
        have c4b0 : decide (x15_1 < (l0.length : Int)) = true := decide_eq_true c4
        clear c4
        by_cases c5 : 0 ≤ x15_1
        · rw [if_pos c5] at H
          have c5b0 : decide (0 ≤ x15_1) = true := decide_eq_true c5
          clear c5
          by_cases c6 : x15_1 < (l0.length : Int)
          · rw [if_pos c6] at H
            have c6b0 : decide (x15_1 < (l0.length : Int)) = true := decide_eq_true c6
            clear c6
            replace H := Option.bind_eq_some_iff.mp H
            obtain ⟨t651, A70, H⟩ := H
            replace H : (if t651 > x8_1 then (impl_choose.l0 k1 a1 a2 t651 ((rd_T134 l0 x15_1).f0) l0 (l0.length : Int) (wrap64 (x15_1 + 1))) else (impl_choose.l0 k1 a1 a2 x8_1 x9_1 l0 (l0.length : Int) (wrap64 (x15_1 + 1)))) = some (r1, r2) := H
            have A7 := Aside0.mk A70
            clear A70
            by_cases c8 : t651 > x8_1
            · rw [if_pos c8] at H
              have c8b0 : decide (x8_1 < t651) = true := decide_eq_true c8
              clear c8
              have H' := Aside0.mk H
              clear H
              have p649 : 0 ≤ (x15_1 : Int) := of_decide_eq_true (by assumption)
              have q649 : x15_1 < (l0.length : Int) := of_decide_eq_true (by assumption)
              obtain ⟨ad649, e649, hx649_0, hx649_1⟩ := at_T134 HR0.out x15_1 p649 q649
              cases e649
              replace hx649_0 := (HB.out.cell (World.block_lt_of_cell? w _ hx649_0)).trans hx649_0
              replace hx649_1 := (HB.out.cell (World.block_lt_of_cell? w _ hx649_1)).trans hx649_1
              replace p649 := eq_true p649
              replace q649 := eq_true q649
              go_wp2_with (first | ((with_reducible refine gate_dst (N := 11) rfl ?_); refine box_event ?hg (N := 11) ?hd (cs := #[.int .i64 0, .int .i64 0]) (t := 134) ?hr ?_; (case hd => rfl); (case hg => rfl); (case hr => first | (go_simp; done) | (go_simp; rfl)); intro gb650 hg w9 hbox hb; have n0_ := Aside0.mk (below_step (by repeat first | exact HB.out | apply below_alloc | apply pw_below_drewN | apply below_drew1) hb); have n1_ := Aside0.mk (hbox); have n2_ := Aside0.mk ((by rw [hg]; exact (below_size (by repeat first | exact HB.out | apply below_alloc | apply pw_below_drewN | apply below_drew1)) : w.heap.size ≤ gb650)); have n3_ := Aside0.mk ((by rw [hg]; exact (below_size (by repeat first | exact HB.out | apply below_alloc | apply pw_below_drewN | apply below_drew1)) : w.heap.size ≤ gb650)); clear HB; have HB := n0_; have BK650 := n1_; have GW650 := n2_; have GE650 := n3_; clear n0_ n1_ n2_ n3_; clear hb hbox hg; have hcz10_0 : w9.cell? ⟨gb650, 0, none⟩ = some (.int .i64 0) := (blk_cell BK650.out 0).trans rfl; have hcz10_1 : w9.cell? ⟨gb650, 1, none⟩ = some (.int .i64 0) := (blk_cell BK650.out 1).trans rfl; have hfz10_0 := blk_frozen BK650.out 0; have hfz10_1 := blk_frozen BK650.out 1) | (go_at_call 142; (with_reducible refine (impl_Item_best.calls k1 ((rd_T134 l0 x15_1).f0) ((rd_T134 l0 x15_1).f1) a1 a2 t651 _ A7.out).mono ?_); rintro e w11 ⟨rfl, hb⟩; have n0_ := Aside0.mk (blk_below (g := gb650) (o := .cells #[.int .i64 ((rd_T134 l0 x15_1).f0), .int .i64 ((rd_T134 l0 x15_1).f1)] 134 (0, 0)) (by (with_reducible repeat first | apply blk_drewN | apply blk_drew | apply blk_alloc); refine blk_put (cs := #[.int .i64 ((rd_T134 l0 x15_1).f0), .int .i64 0]) ?_ 1 _ rfl; (with_reducible repeat first | apply blk_drewN | apply blk_drew | apply blk_alloc); refine blk_put (cs := #[.int .i64 0, .int .i64 0]) ?_ 0 _ rfl; (with_reducible repeat first | apply blk_drewN | apply blk_drew | apply blk_alloc); exact BK650.out) hb); have n1_ := Aside0.mk (below_step (by repeat (first | (with_reducible first | exact HB.out | apply below_alloc | apply pw_below_drewN | apply below_drew1 | refine below_set ?_ GE650.out) | exact HB.out)) hb); clear BK650; clear HB; have BK650 := n0_; have HB := n1_; clear n0_ n1_; (try clear hb); (try clear hb2); (try clear hk); (try clear hi); have hcz12_0 : w11.cell? ⟨gb650, 0, none⟩ = some (.int .i64 ((rd_T134 l0 x15_1).f0)) := (blk_cell BK650.out 0).trans rfl; have hcz12_1 : w11.cell? ⟨gb650, 1, none⟩ = some (.int .i64 ((rd_T134 l0 x15_1).f1)) := (blk_cell BK650.out 1).trans rfl; have hfz12_0 := blk_frozen BK650.out 0; have hfz12_1 := blk_frozen BK650.out 1))
              repeat (go_quiet (first | ((with_reducible refine gate_dst (N := 11) rfl ?_); refine box_event ?hg (N := 11) ?hd (cs := #[.int .i64 0, .int .i64 0]) (t := 134) ?hr ?_; (case hd => rfl); (case hg => rfl); (case hr => first | (go_simp; done) | (go_simp; rfl)); intro gb650 hg w9 hbox hb; have n0_ := Aside0.mk (below_step (by repeat first | exact HB.out | apply below_alloc | apply pw_below_drewN | apply below_drew1) hb); have n1_ := Aside0.mk (hbox); have n2_ := Aside0.mk ((by rw [hg]; exact (below_size (by repeat first | exact HB.out | apply below_alloc | apply pw_below_drewN | apply below_drew1)) : w.heap.size ≤ gb650)); have n3_ := Aside0.mk ((by rw [hg]; exact (below_size (by repeat first | exact HB.out | apply below_alloc | apply pw_below_drewN | apply below_drew1)) : w.heap.size ≤ gb650)); clear HB; have HB := n0_; have BK650 := n1_; have GW650 := n2_; have GE650 := n3_; clear n0_ n1_ n2_ n3_; clear hb hbox hg; have hcz10_0 : w9.cell? ⟨gb650, 0, none⟩ = some (.int .i64 0) := (blk_cell BK650.out 0).trans rfl; have hcz10_1 : w9.cell? ⟨gb650, 1, none⟩ = some (.int .i64 0) := (blk_cell BK650.out 1).trans rfl; have hfz10_0 := blk_frozen BK650.out 0; have hfz10_1 := blk_frozen BK650.out 1) | (go_at_call 142; (with_reducible refine (impl_Item_best.calls k1 ((rd_T134 l0 x15_1).f0) ((rd_T134 l0 x15_1).f1) a1 a2 t651 _ A7.out).mono ?_); rintro e w11 ⟨rfl, hb⟩; have n0_ := Aside0.mk (blk_below (g := gb650) (o := .cells #[.int .i64 ((rd_T134 l0 x15_1).f0), .int .i64 ((rd_T134 l0 x15_1).f1)] 134 (0, 0)) (by (with_reducible repeat first | apply blk_drewN | apply blk_drew | apply blk_alloc); refine blk_put (cs := #[.int .i64 ((rd_T134 l0 x15_1).f0), .int .i64 0]) ?_ 1 _ rfl; (with_reducible repeat first | apply blk_drewN | apply blk_drew | apply blk_alloc); refine blk_put (cs := #[.int .i64 0, .int .i64 0]) ?_ 0 _ rfl; (with_reducible repeat first | apply blk_drewN | apply blk_drew | apply blk_alloc); exact BK650.out) hb); have n1_ := Aside0.mk (below_step (by repeat (first | (with_reducible first | exact HB.out | apply below_alloc | apply pw_below_drewN | apply below_drew1 | refine below_set ?_ GE650.out) | exact HB.out)) hb); clear BK650; clear HB; have BK650 := n0_; have HB := n1_; clear n0_ n1_; (try clear hb); (try clear hb2); (try clear hk); (try clear hi); have hcz12_0 : w11.cell? ⟨gb650, 0, none⟩ = some (.int .i64 ((rd_T134 l0 x15_1).f0)) := (blk_cell BK650.out 0).trans rfl; have hcz12_1 : w11.cell? ⟨gb650, 1, none⟩ = some (.int .i64 ((rd_T134 l0 x15_1).f1)) := (blk_cell BK650.out 1).trans rfl; have hfz12_0 := blk_frozen BK650.out 0; have hfz12_1 := blk_frozen BK650.out 1)); try go_wp2_with (first | ((with_reducible refine gate_dst (N := 11) rfl ?_); refine box_event ?hg (N := 11) ?hd (cs := #[.int .i64 0, .int .i64 0]) (t := 134) ?hr ?_; (case hd => rfl); (case hg => rfl); (case hr => first | (go_simp; done) | (go_simp; rfl)); intro gb650 hg w9 hbox hb; have n0_ := Aside0.mk (below_step (by repeat first | exact HB.out | apply below_alloc | apply pw_below_drewN | apply below_drew1) hb); have n1_ := Aside0.mk (hbox); have n2_ := Aside0.mk ((by rw [hg]; exact (below_size (by repeat first | exact HB.out | apply below_alloc | apply pw_below_drewN | apply below_drew1)) : w.heap.size ≤ gb650)); have n3_ := Aside0.mk ((by rw [hg]; exact (below_size (by repeat first | exact HB.out | apply below_alloc | apply pw_below_drewN | apply below_drew1)) : w.heap.size ≤ gb650)); clear HB; have HB := n0_; have BK650 := n1_; have GW650 := n2_; have GE650 := n3_; clear n0_ n1_ n2_ n3_; clear hb hbox hg; have hcz10_0 : w9.cell? ⟨gb650, 0, none⟩ = some (.int .i64 0) := (blk_cell BK650.out 0).trans rfl; have hcz10_1 : w9.cell? ⟨gb650, 1, none⟩ = some (.int .i64 0) := (blk_cell BK650.out 1).trans rfl; have hfz10_0 := blk_frozen BK650.out 0; have hfz10_1 := blk_frozen BK650.out 1) | (go_at_call 142; (with_reducible refine (impl_Item_best.calls k1 ((rd_T134 l0 x15_1).f0) ((rd_T134 l0 x15_1).f1) a1 a2 t651 _ A7.out).mono ?_); rintro e w11 ⟨rfl, hb⟩; have n0_ := Aside0.mk (blk_below (g := gb650) (o := .cells #[.int .i64 ((rd_T134 l0 x15_1).f0), .int .i64 ((rd_T134 l0 x15_1).f1)] 134 (0, 0)) (by (with_reducible repeat first | apply blk_drewN | apply blk_drew | apply blk_alloc); refine blk_put (cs := #[.int .i64 ((rd_T134 l0 x15_1).f0), .int .i64 0]) ?_ 1 _ rfl; (with_reducible repeat first | apply blk_drewN | apply blk_drew | apply blk_alloc); refine blk_put (cs := #[.int .i64 0, .int .i64 0]) ?_ 0 _ rfl; (with_reducible repeat first | apply blk_drewN | apply blk_drew | apply blk_alloc); exact BK650.out) hb); have n1_ := Aside0.mk (below_step (by repeat (first | (with_reducible first | exact HB.out | apply below_alloc | apply pw_below_drewN | apply below_drew1 | refine below_set ?_ GE650.out) | exact HB.out)) hb); clear BK650; clear HB; have BK650 := n0_; have HB := n1_; clear n0_ n1_; (try clear hb); (try clear hb2); (try clear hk); (try clear hi); have hcz12_0 : w11.cell? ⟨gb650, 0, none⟩ = some (.int .i64 ((rd_T134 l0 x15_1).f0)) := (blk_cell BK650.out 0).trans rfl; have hcz12_1 : w11.cell? ⟨gb650, 1, none⟩ = some (.int .i64 ((rd_T134 l0 x15_1).f1)) := (blk_cell BK650.out 1).trans rfl; have hfz12_0 := blk_frozen BK650.out 0; have hfz12_1 := blk_frozen BK650.out 1)))
              go_roundg k1
              case measure => have := HK1.out; omega
              case rel => exact ⟨(t651), ((rd_T134 l0 x15_1).f0), (wrap64 (x15_1 + 1)), (by first | rfl | (simp; done) | (simp [*]; done)), (by first | rfl | (simp; done) | (simp [*]; done)), (by first | rfl | (simp; done) | (simp [*]; done)), H', ⟨by have := HK1.out; omega⟩, ⟨by repeat (first | (with_reducible first | exact HB.out | apply below_alloc | apply pw_below_drewN | apply below_drew1 | refine below_set ?_ GE650.out) | exact HB.out)⟩⟩
            · rw [if_neg c8] at H
              have c8b0 : decide (x8_1 < t651) = false := decide_eq_false c8
              clear c8
              have H' := Aside0.mk H
              clear H
              have p649 : 0 ≤ (x15_1 : Int) := of_decide_eq_true (by assumption)
              have q649 : x15_1 < (l0.length : Int) := of_decide_eq_true (by assumption)
              obtain ⟨ad649, e649, hx649_0, hx649_1⟩ := at_T134 HR0.out x15_1 p649 q649
              cases e649
              replace hx649_0 := (HB.out.cell (World.block_lt_of_cell? w _ hx649_0)).trans hx649_0
              replace hx649_1 := (HB.out.cell (World.block_lt_of_cell? w _ hx649_1)).trans hx649_1
              replace p649 := eq_true p649
              replace q649 := eq_true q649
              go_wp2_with (first | ((with_reducible refine gate_dst (N := 11) rfl ?_); refine box_event ?hg (N := 11) ?hd (cs := #[.int .i64 0, .int .i64 0]) (t := 134) ?hr ?_; (case hd => rfl); (case hg => rfl); (case hr => first | (go_simp; done) | (go_simp; rfl)); intro gb650 hg w13 hbox hb; have n0_ := Aside0.mk (below_step (by repeat first | exact HB.out | apply below_alloc | apply pw_below_drewN | apply below_drew1) hb); have n1_ := Aside0.mk (hbox); have n2_ := Aside0.mk ((by rw [hg]; exact (below_size (by repeat first | exact HB.out | apply below_alloc | apply pw_below_drewN | apply below_drew1)) : w.heap.size ≤ gb650)); have n3_ := Aside0.mk ((by rw [hg]; exact (below_size (by repeat first | exact HB.out | apply below_alloc | apply pw_below_drewN | apply below_drew1)) : w.heap.size ≤ gb650)); clear HB; have HB := n0_; have BK650 := n1_; have GW650 := n2_; have GE650 := n3_; clear n0_ n1_ n2_ n3_; clear hb hbox hg; have hcz14_0 : w13.cell? ⟨gb650, 0, none⟩ = some (.int .i64 0) := (blk_cell BK650.out 0).trans rfl; have hcz14_1 : w13.cell? ⟨gb650, 1, none⟩ = some (.int .i64 0) := (blk_cell BK650.out 1).trans rfl; have hfz14_0 := blk_frozen BK650.out 0; have hfz14_1 := blk_frozen BK650.out 1) | (go_at_call 142; (with_reducible refine (impl_Item_best.calls k1 ((rd_T134 l0 x15_1).f0) ((rd_T134 l0 x15_1).f1) a1 a2 t651 _ A7.out).mono ?_); rintro e w15 ⟨rfl, hb⟩; have n0_ := Aside0.mk (blk_below (g := gb650) (o := .cells #[.int .i64 ((rd_T134 l0 x15_1).f0), .int .i64 ((rd_T134 l0 x15_1).f1)] 134 (0, 0)) (by (with_reducible repeat first | apply blk_drewN | apply blk_drew | apply blk_alloc); refine blk_put (cs := #[.int .i64 ((rd_T134 l0 x15_1).f0), .int .i64 0]) ?_ 1 _ rfl; (with_reducible repeat first | apply blk_drewN | apply blk_drew | apply blk_alloc); refine blk_put (cs := #[.int .i64 0, .int .i64 0]) ?_ 0 _ rfl; (with_reducible repeat first | apply blk_drewN | apply blk_drew | apply blk_alloc); exact BK650.out) hb); have n1_ := Aside0.mk (below_step (by repeat (first | (with_reducible first | exact HB.out | apply below_alloc | apply pw_below_drewN | apply below_drew1 | refine below_set ?_ GE650.out) | exact HB.out)) hb); clear BK650; clear HB; have BK650 := n0_; have HB := n1_; clear n0_ n1_; (try clear hb); (try clear hb2); (try clear hk); (try clear hi)))
              repeat (go_quiet (first | ((with_reducible refine gate_dst (N := 11) rfl ?_); refine box_event ?hg (N := 11) ?hd (cs := #[.int .i64 0, .int .i64 0]) (t := 134) ?hr ?_; (case hd => rfl); (case hg => rfl); (case hr => first | (go_simp; done) | (go_simp; rfl)); intro gb650 hg w13 hbox hb; have n0_ := Aside0.mk (below_step (by repeat first | exact HB.out | apply below_alloc | apply pw_below_drewN | apply below_drew1) hb); have n1_ := Aside0.mk (hbox); have n2_ := Aside0.mk ((by rw [hg]; exact (below_size (by repeat first | exact HB.out | apply below_alloc | apply pw_below_drewN | apply below_drew1)) : w.heap.size ≤ gb650)); have n3_ := Aside0.mk ((by rw [hg]; exact (below_size (by repeat first | exact HB.out | apply below_alloc | apply pw_below_drewN | apply below_drew1)) : w.heap.size ≤ gb650)); clear HB; have HB := n0_; have BK650 := n1_; have GW650 := n2_; have GE650 := n3_; clear n0_ n1_ n2_ n3_; clear hb hbox hg; have hcz14_0 : w13.cell? ⟨gb650, 0, none⟩ = some (.int .i64 0) := (blk_cell BK650.out 0).trans rfl; have hcz14_1 : w13.cell? ⟨gb650, 1, none⟩ = some (.int .i64 0) := (blk_cell BK650.out 1).trans rfl; have hfz14_0 := blk_frozen BK650.out 0; have hfz14_1 := blk_frozen BK650.out 1) | (go_at_call 142; (with_reducible refine (impl_Item_best.calls k1 ((rd_T134 l0 x15_1).f0) ((rd_T134 l0 x15_1).f1) a1 a2 t651 _ A7.out).mono ?_); rintro e w15 ⟨rfl, hb⟩; have n0_ := Aside0.mk (blk_below (g := gb650) (o := .cells #[.int .i64 ((rd_T134 l0 x15_1).f0), .int .i64 ((rd_T134 l0 x15_1).f1)] 134 (0, 0)) (by (with_reducible repeat first | apply blk_drewN | apply blk_drew | apply blk_alloc); refine blk_put (cs := #[.int .i64 ((rd_T134 l0 x15_1).f0), .int .i64 0]) ?_ 1 _ rfl; (with_reducible repeat first | apply blk_drewN | apply blk_drew | apply blk_alloc); refine blk_put (cs := #[.int .i64 0, .int .i64 0]) ?_ 0 _ rfl; (with_reducible repeat first | apply blk_drewN | apply blk_drew | apply blk_alloc); exact BK650.out) hb); have n1_ := Aside0.mk (below_step (by repeat (first | (with_reducible first | exact HB.out | apply below_alloc | apply pw_below_drewN | apply below_drew1 | refine below_set ?_ GE650.out) | exact HB.out)) hb); clear BK650; clear HB; have BK650 := n0_; have HB := n1_; clear n0_ n1_; (try clear hb); (try clear hb2); (try clear hk); (try clear hi))); try go_wp2_with (first | ((with_reducible refine gate_dst (N := 11) rfl ?_); refine box_event ?hg (N := 11) ?hd (cs := #[.int .i64 0, .int .i64 0]) (t := 134) ?hr ?_; (case hd => rfl); (case hg => rfl); (case hr => first | (go_simp; done) | (go_simp; rfl)); intro gb650 hg w13 hbox hb; have n0_ := Aside0.mk (below_step (by repeat first | exact HB.out | apply below_alloc | apply pw_below_drewN | apply below_drew1) hb); have n1_ := Aside0.mk (hbox); have n2_ := Aside0.mk ((by rw [hg]; exact (below_size (by repeat first | exact HB.out | apply below_alloc | apply pw_below_drewN | apply below_drew1)) : w.heap.size ≤ gb650)); have n3_ := Aside0.mk ((by rw [hg]; exact (below_size (by repeat first | exact HB.out | apply below_alloc | apply pw_below_drewN | apply below_drew1)) : w.heap.size ≤ gb650)); clear HB; have HB := n0_; have BK650 := n1_; have GW650 := n2_; have GE650 := n3_; clear n0_ n1_ n2_ n3_; clear hb hbox hg; have hcz14_0 : w13.cell? ⟨gb650, 0, none⟩ = some (.int .i64 0) := (blk_cell BK650.out 0).trans rfl; have hcz14_1 : w13.cell? ⟨gb650, 1, none⟩ = some (.int .i64 0) := (blk_cell BK650.out 1).trans rfl; have hfz14_0 := blk_frozen BK650.out 0; have hfz14_1 := blk_frozen BK650.out 1) | (go_at_call 142; (with_reducible refine (impl_Item_best.calls k1 ((rd_T134 l0 x15_1).f0) ((rd_T134 l0 x15_1).f1) a1 a2 t651 _ A7.out).mono ?_); rintro e w15 ⟨rfl, hb⟩; have n0_ := Aside0.mk (blk_below (g := gb650) (o := .cells #[.int .i64 ((rd_T134 l0 x15_1).f0), .int .i64 ((rd_T134 l0 x15_1).f1)] 134 (0, 0)) (by (with_reducible repeat first | apply blk_drewN | apply blk_drew | apply blk_alloc); refine blk_put (cs := #[.int .i64 ((rd_T134 l0 x15_1).f0), .int .i64 0]) ?_ 1 _ rfl; (with_reducible repeat first | apply blk_drewN | apply blk_drew | apply blk_alloc); refine blk_put (cs := #[.int .i64 0, .int .i64 0]) ?_ 0 _ rfl; (with_reducible repeat first | apply blk_drewN | apply blk_drew | apply blk_alloc); exact BK650.out) hb); have n1_ := Aside0.mk (below_step (by repeat (first | (with_reducible first | exact HB.out | apply below_alloc | apply pw_below_drewN | apply below_drew1 | refine below_set ?_ GE650.out) | exact HB.out)) hb); clear BK650; clear HB; have BK650 := n0_; have HB := n1_; clear n0_ n1_; (try clear hb); (try clear hb2); (try clear hk); (try clear hi))))
              go_roundg k1
              case measure => have := HK1.out; omega
              case rel => exact ⟨(x8_1), (x9_1), (wrap64 (x15_1 + 1)), (by first | rfl | (simp; done) | (simp [*]; done)), (by first | rfl | (simp; done) | (simp [*]; done)), (by first | rfl | (simp; done) | (simp [*]; done)), H', ⟨by have := HK1.out; omega⟩, ⟨by repeat (first | (with_reducible first | exact HB.out | apply below_alloc | apply pw_below_drewN | apply below_drew1 | refine below_set ?_ GE650.out) | exact HB.out)⟩⟩
          · rw [if_neg c6] at H
            exact absurd H (by simp)
        · rw [if_neg c5] at H
          exact absurd H (by simp)
      · rw [if_neg c4] at H
        have c4b0 : decide (x15_1 < (l0.length : Int)) = false := decide_eq_false c4
        clear c4
        simp only [Option.some.injEq, Prod.mk.injEq] at H
        obtain ⟨rfl, rfl⟩ := H
        go_wp2
        repeat (go_quiet (fail); try go_wp2)
        go_ret2
        exact ⟨by first | rfl | (simp [*, errW_none, errW_some] <;> rfl), by repeat first | exact HB.out | apply below_alloc | apply pw_below_drewN | apply below_drew1⟩

end Go.Proofs.Ytkadeelplnkpgaa.Q

-- text OSort
namespace Go.Proofs.YtkadeelplnkpgaaW.PrintMore
open Go.Shelf
def Try.sortL_ren : Go.Shelf.Ren := ⟨fun | 5 => 122 | 8 => 140 | 7 => 139 | 19 => 153 | 20 => 154 | 10 => 144 | 11 => 145 | 12 => 146 | 13 => 147 | 14 => 148 | 15 => 149 | 16 => 150 | 17 => 151 | 18 => 152 | 30 => 160 | 31 => 161 | 32 => 162 | 33 => 163 | 34 => 164 | 35 => 165 | 40 => 168 | n => n, fun | 23 => 34 | 25 => 2 | 3 => 3 | 32 => 125 | 22 => 34 | 0 => 0 | 44 => 159 | 46 => 120 | 4 => 4 | 36 => 151 | 35 => 150 | 41 => 156 | 5 => 5 | 9 => 9 | 53 => 166 | 57 => 170 | 63 => 172 | 64 => 173 | n => n, fun | n => n⟩
theorem Try.sortL : Go.Proofs.SlLaysM.n5 Try.prog Try.sortL_ren := {
  mixed := by kernel_rfl
  f5 := ⟨Try.f122.name, by decide, Try.func122.trans (congrArg some (by kernel_rfl))⟩
  f7 := ⟨Try.f139.name, by decide, Try.func139.trans (congrArg some (by kernel_rfl))⟩
  f8 := Try.func140.trans (congrArg some (by kernel_rfl))
  f10 := ⟨Try.f144.name, by decide, Try.func144.trans (congrArg some (by kernel_rfl))⟩
  f11 := ⟨Try.f145.name, by decide, Try.func145.trans (congrArg some (by kernel_rfl))⟩
  f12 := ⟨Try.f146.name, by decide, Try.func146.trans (congrArg some (by kernel_rfl))⟩
  f13 := ⟨Try.f147.name, by decide, Try.func147.trans (congrArg some (by kernel_rfl))⟩
  f14 := ⟨Try.f148.name, by decide, Try.func148.trans (congrArg some (by kernel_rfl))⟩
  f15 := ⟨Try.f149.name, by decide, Try.func149.trans (congrArg some (by kernel_rfl))⟩
  f16 := ⟨Try.f150.name, by decide, Try.func150.trans (congrArg some (by kernel_rfl))⟩
  f17 := ⟨Try.f151.name, by decide, Try.func151.trans (congrArg some (by kernel_rfl))⟩
  f18 := ⟨Try.f152.name, by decide, Try.func152.trans (congrArg some (by kernel_rfl))⟩
  f19 := Try.func153.trans (congrArg some (by kernel_rfl))
  f20 := Try.func154.trans (congrArg some (by kernel_rfl))
  f30 := ⟨Try.f160.name, by decide, Try.func160.trans (congrArg some (by kernel_rfl))⟩
  f31 := Try.func161.trans (congrArg some (by kernel_rfl))
  f32 := Try.func162.trans (congrArg some (by kernel_rfl))
  f33 := ⟨Try.f163.name, by decide, Try.func163.trans (congrArg some (by kernel_rfl))⟩
  f34 := ⟨Try.f164.name, by decide, Try.func164.trans (congrArg some (by kernel_rfl))⟩
  f35 := ⟨Try.f165.name, by decide, Try.func165.trans (congrArg some (by kernel_rfl))⟩
  f40 := ⟨Try.f168.name, by decide, Try.func168.trans (congrArg some (by kernel_rfl))⟩
  t0 := Try.underlying0
  a0 := Try.isAgg0
  z0 := Try.sizeOf0
  v0 := Try.zeroValue0
  t3 := Try.underlying3
  a3 := Try.isAgg3
  z3 := Try.sizeOf3
  v3 := Try.zeroValue3
  t4 := Try.underlying4
  a4 := Try.isAgg4
  z4 := Try.sizeOf4
  v4 := Try.zeroValue4
  t5 := Try.underlying5
  a5 := Try.isAgg5
  z5 := Try.sizeOf5
  v5 := Try.zeroValue5
  t9 := Try.underlying9
  a9 := Try.isAgg9
  z9 := Try.sizeOf9
  v9 := Try.zeroValue9
  t22 := Try.underlying34
  a22 := Try.isAgg34
  z22 := Try.sizeOf34
  v22 := Try.zeroValue34
  t23 := Try.underlying34
  a23 := Try.isAgg34
  z23 := Try.sizeOf34
  v23 := Try.zeroValue34
  t25 := Try.underlying2
  a25 := Try.isAgg2
  z25 := Try.sizeOf2
  v25 := Try.zeroValue2
  t32 := Try.underlying125
  a32 := Try.isAgg125
  z32 := Try.sizeOf125
  v32 := Try.zeroValue125
  t35 := Try.underlying150
  a35 := Try.isAgg150
  z35 := Try.sizeOf150
  v35 := Try.zeroValue150
  t36 := Try.underlying151
  a36 := Try.isAgg151
  z36 := Try.sizeOf151
  v36 := Try.zeroValue151
  t41 := Try.underlying156
  a41 := Try.isAgg156
  z41 := Try.sizeOf156
  v41 := Try.zeroValue156
  t44 := Try.underlying159
  a44 := Try.isAgg159
  z44 := Try.sizeOf159
  v44 := Try.zeroValue159
  t46 := Try.underlying120
  a46 := Try.isAgg120
  z46 := Try.sizeOf120
  v46 := Try.zeroValue120
  t53 := Try.underlying166
  a53 := Try.isAgg166
  z53 := Try.sizeOf166
  v53 := Try.zeroValue166
  t57 := Try.underlying170
  a57 := Try.isAgg170
  z57 := Try.sizeOf170
  v57 := Try.zeroValue170
  t63 := Try.underlying172
  a63 := Try.isAgg172
  z63 := Try.sizeOf172
  v63 := Try.zeroValue172
  t64 := Try.underlying173
  a64 := Try.isAgg173
  z64 := Try.sizeOf173
  v64 := Try.zeroValue173 }
open Go.RowKit Go.Sort Go.Proofs.YtkadeelplnkpgaaW.PrintWords Go.Proofs.YtkadeelplnkpgaaW.PrintLast
/-- the numbers, rising -/
def sortI (l : List Int) : List Int := l.mergeSort fun x y => decide (x ≤ y)
theorem sortI_length (l : List Int) : (sortI l).length = l.length := List.length_mergeSort _
theorem reps_int {w : World} {base : Nat} {ok : Nat → Prop} {l : List Int} {inner : List Value} (h : Reps ((Kd.int .i64).M w base ok) 1 l inner) : inner = l.map (Value.int .i64) := by
  obtain ⟨h1, h2⟩ := h
  apply List.ext_getElem (by simpa using h1)
  intro i hi hi2
  have hl : i < l.length := by simpa using hi2
  have h3 : [inner[i]] = [Value.int .i64 l[i]] := by
    have := h2 i l[i] (List.getElem?_eq_getElem hl)
    rw [Nat.mul_one, List.drop_eq_getElem_cons (by omega)] at this
    exact this
  simpa using h3
theorem int_reps {w : World} {base : Nat} {ok : Nat → Prop} (l : List Int) : Reps ((Kd.int .i64).M w base ok) 1 l (l.map (Value.int .i64)) := by
  refine ⟨by simp, fun j p hj => ?_⟩
  obtain ⟨hl, rfl⟩ := List.getElem?_eq_some_iff.1 hj
  rw [Nat.mul_one, List.drop_eq_getElem_cons (by simpa using hl)]
  show [_] = [_]
  simp
/-- a slice of the call's own is sorted in place -/
theorem sortOwn.calls {base : Nat} {ok : Nat → Prop} {v : Value} {l : List Int} (w : World) (h : Kd.R (Kd.int .i64) 2 w base ok v l) (hn : l.length ≤ 1048576) :
    Calls Try.prog 122 #[v] w fun e w' => e = .returned (.tuple #[]) ∧ Kd.R (Kd.int .i64) 2 w' base ok v (sortI l) ∧ w.grownBy w' v.ownBlock := by
  obtain ⟨h0, inner, ho, hr⟩ := h
  have hi := reps_int hr
  subst hi
  obtain ⟨h1, h2⟩ := ho
  rcases h2 with ⟨rfl, h2⟩ | ⟨g, cap, cur, rfl, hg, hb, hl, hc, hs, ht⟩
  · have hl : l = [] := List.eq_nil_of_length_eq_zero h2
    subst hl
    refine (AnyM.slices_Sort_int_none Try.sortL none 0 w).mono ?_
    rintro e w' ⟨rfl, rfl⟩
    have e : sortI [] = [] := by simp [sortI]
    rw [e]
    exact ⟨rfl, ⟨h0, [], ⟨rfl, .inl ⟨rfl, rfl⟩⟩, int_reps (w := w') (base := base) []⟩, grown_of_below (Below.refl _ _) _⟩
  · have hmm := AnyM.slices_Sort_int Try.sortL g 0 cap l w (holds_of_blockI hb (by have ht : List.take (l.length * 1) cur.toList = _ := ht; rw [Nat.mul_one] at ht; exact ht)) (blk_lt hb) (by omega)
    refine hmm.mono ?_
    rintro e w' ⟨rfl, n, os, rfl⟩
    refine ⟨rfl, ⟨h0, (sortI l).map (Value.int .i64), ?_, int_reps _⟩, grownBy_sortedI _⟩
    have := ownsRow_sortedI (w := w) (base := base) (g := g) (cap := cap) (n := n) (e := 2) (os := os) (cur := cur) (ss := l) (ts := sortI l) (sortI_length l) hg hb hl hc hs
    rw [sortI_length]
    exact this
end Go.Proofs.YtkadeelplnkpgaaW.PrintMore

-- text Qf73
namespace Go.Proofs.Ytkadeelplnkpgaa.Q
open Go.RowKit Go.Proofs.YtkadeelplnkpgaaW.PrintWords Go.Proofs.YtkadeelplnkpgaaW.PrintLast Go.Proofs.YtkadeelplnkpgaaW.PrintMore
attribute [local go_sem] max2_int min2_int max_two min_two max_three min_three max_four min_four   -- for this text's walks alone
set_option linter.unusedVariables false
set_option linter.unusedSimpArgs false

/-! ### impl_Tree_nodesUnder: function 73 -/
/-- the lists of some things, one behind the other -/
def underL (g : Int → Option (List Int)) : List Int → List Int → Option (List Int)
  | out, [] => some out
  | out, x :: xs => (g x).bind fun l => if out.length + l.length ≤ 1048576 then underL g (out ++ l) xs else none
theorem underL_here (g : Int → Option (List Int)) (out l : List Int) (i : Int) (h0 : 0 ≤ i) (h1 : i < (l.length : Int)) : underL g out (l.drop i.toNat) = (g (rd l i)).bind fun t => if out.length + t.length ≤ 1048576 then underL g (out ++ t) (l.drop (i + 1).toNat) else none := by
  obtain ⟨n, rfl⟩ := Int.eq_ofNat_of_zero_le h0
  have hl : n < l.length := by omega
  have e : ((n : Int) + 1).toNat = n + 1 := by omega
  have er : rd l (n : Int) = l[n] := by unfold rd; rw [Int.toNat_natCast, List.getD_eq_getElem?_getD, List.getElem?_eq_getElem hl]; rfl
  rw [e, Int.toNat_natCast, List.drop_eq_getElem_cons hl, er]
  rfl
theorem underL_length (g : Int → Option (List Int)) : ∀ l out t, out.length ≤ 1048576 → underL g out l = some t → t.length ≤ 1048576
  | [], out, t, h0, h => by
    obtain rfl := Option.some.inj h
    exact h0
  | x :: xs, out, t, h0, h => by
    obtain ⟨y, hy, h2⟩ := Option.bind_eq_some_iff.1 h
    by_cases c : out.length + y.length ≤ 1048576
    · rw [if_pos c] at h2
      exact underL_length g xs (out ++ y) t (by rw [List.length_append]; exact c) h2
    · rw [if_neg c] at h2; cases h2
def impl_Tree_nodesUnder.f : Nat → List (S50) → List (S108) → Int → Option (List Int)
  | 0, _, _, _ => none
  | k + 1, l0_0, l0_1, a1 => if bucketAt l0_1 a1 < 0 then some [a1] else (underL (fun x => impl_Tree_nodesUnder.f k l0_0 l0_1 x) [] (rd_T108 l0_1 (bucketAt l0_1 a1)).f2).map sortI
set_option maxHeartbeats 4000000 in
set_option maxRecDepth 100000 in
theorem impl_Tree_nodesUnder.calls : ∀ (k : Nat) (A0_0 : Option Addr) (c0_0 : Nat) (l0_0 : List (S50)) (A0_1 : Option Addr) (c0_1 : Nat) (l0_1 : List (S108)) (a1 : Int) (r : List Int) (w : World) (hr0_0 : Kd.C k50 w A0_0 l0_0.length l0_0) (hc0_0 : l0_0.length ≤ c0_0) (hr0_1 : Kd.C k108 w A0_1 l0_1.length l0_1) (hc0_1 : l0_1.length ≤ c0_1) (h : impl_Tree_nodesUnder.f k l0_0 l0_1 a1 = some r),
    Calls Try.prog 73 #[.agg #[.slice A0_0 l0_0.length c0_0, .slice A0_1 l0_1.length c0_1], .int .i64 a1] w fun e w' => ∃ v_ : Value, e = .returned v_ ∧ Kd.R (Kd.int .i64) 2 w' w.heap.size (fun _ => True) v_ r ∧ Below w.heap.size w w'
  | 0, _, _, _, _, _, _, _, _, _, _, _, _, _, h => by cases h
  | k + 1, A0_0, c0_0, l0_0, A0_1, c0_1, l0_1, a1, r, w, hr0_0, hc0_0, hr0_1, hc0_1, h => by
    have HR0 := Aside0.mk hr0_0
    have HR1 := Aside0.mk hr0_1
    have HC0 := Aside0.mk hc0_0
    have HC1 := Aside0.mk hc0_1
    have HIH := Aside0.mk (impl_Tree_nodesUnder.calls k)
    clear hr0_0 hr0_1 hc0_0 hc0_1
    unfold impl_Tree_nodesUnder.f at h
    by_cases hb : bucketAt l0_1 a1 < 0
    · rw [if_pos hb] at h
      obtain rfl := Option.some.inj h
      clear h
      go_enter Try.func73, Try.ntmps73
      go_wp2_with fail
      have HB := Aside0.mk (below_alloc (Below.refl w.heap.size w) (.cells #[.slice A0_0 l0_0.length c0_0, .slice A0_1 l0_1.length c0_1] 31))
      refine (bucket_none.calls A0_0 c0_0 l0_0 A0_1 c0_1 l0_1 a1 _ (Kd.C_below HR1.out HB.out) hb).mono ?_
      rintro e w1 ⟨rfl, hb1⟩
      replace HB := Aside0.mk (below_step HB.out hb1)
      clear hb1 hb
      go_wp2_with (first | ((with_reducible refine gate_dst (N := 15) rfl ?_); refine Kd.R_lit (Kd.int .i64) _ 2 ?hg (N := 15) ?hd (xs := ([a1] : List Int)) (inner := [.int .i64 a1]) (ok := fun _ => True) (okp := fun _ => True) ?hr ?hp (fun _ hk => hk) trivial (Below.refl _ _) (Nat.le_refl _) (by simp) ?_; (case hd => rfl); (case hg => rfl); (case hr => first | (go_simp; done) | (go_simp; rfl)); (case hp => exact (Reps.one (show Kd.M (Kd.int .i64) _ _ _ a1 [.int .i64 a1] from rfl) (Reps.none _ _))); intro v2 w2 ho hb2 hg_ hnew_; have HO := Aside0.mk (Kd.R_lower ho (below_size HB.out)); have HB2 := Aside0.mk (below_step HB.out hb2); clear ho hb2 hg_ hnew_))
      go_ret
      exact ⟨_, rfl, HO.out, HB2.out⟩
    · rw [if_neg hb] at h
      obtain ⟨tot, htot, rfl⟩ := Option.map_eq_some_iff.1 h
      have hb0 : 0 ≤ bucketAt l0_1 a1 := by omega
      have hlt := bucketAt_lt l0_1 a1 hb0
      obtain ⟨ad, A2, c2, rfl, hx0, hx1, hx2, hl2, hg2⟩ := at_T108 HR1.out _ hb0 hlt
      have HTL := Aside0.mk (underL_length _ _ _ _ (by simp) htot)
      have HT := Aside0.mk (show underL (fun x => impl_Tree_nodesUnder.f k l0_0 l0_1 x) [] ((rd_T108 l0_1 (bucketAt l0_1 a1)).f2.drop (0 : Int).toNat) = some tot from htot)
      have HX2 := Aside0.mk hx2
      have HG2 := Aside0.mk hg2
      clear h htot hb hx0 hx1 hx2 hl2 hg2
      go_enter Try.func73, Try.ntmps73
      go_wp2_with fail
      have BK := Aside0.mk (blk_new w (.cells #[.slice A0_0 l0_0.length c0_0, .slice (some ad) l0_1.length c0_1] 31))
      have HB := Aside0.mk (below_alloc (Below.refl w.heap.size w) (.cells #[.slice A0_0 l0_0.length c0_0, .slice (some ad) l0_1.length c0_1] 31))
      refine (bucket_some.calls A0_0 c0_0 l0_0 (some ad) c0_1 l0_1 a1 _ (Kd.C_below HR1.out HB.out) ad rfl hb0).mono ?_
      rintro e w1 ⟨rfl, hb1⟩
      replace BK := Aside0.mk (blk_below BK.out hb1)
      replace HB := Aside0.mk (below_step HB.out hb1)
      clear hb1
      have hx2 := (HB.out.cell (World.block_lt_of_cell? w _ HX2.out)).trans HX2.out
      clear HX2 hb0 hlt
      generalize bucketAt l0_1 a1 = j at hx2 HT HG2 ⊢
      generalize (rd_T108 l0_1 j).f2 = items at hx2 HT HG2
      have hmi := Kd.C_max HG2.out
      go_wp2_with fail
      clear hx2
      obtain ⟨gt, hgt⟩ : ∃ g, g = w.heap.size := ⟨_, rfl⟩
      have HGT := Aside0.mk hgt
      rw [← hgt] at BK ⊢
      clear hgt
      go_loopg [6, 21] items.length (fun gg s6 s21 wr => ∃ (kk : Int) (out : List Int), 0 ≤ kk ∧ kk ≤ items.length ∧ (items.length : Int) - kk ≤ gg ∧ s21 = .int .i64 kk ∧ out.length ≤ 1048576 ∧ Aside0 (Below w.heap.size w wr) ∧ Aside0 (wr.heap[gt]? = some (.cells #[.slice A0_0 l0_0.length c0_0, .slice (some ad) l0_1.length c0_1] 31 (0, 0))) ∧ Aside0 (Kd.R (Kd.int .i64) 2 wr w.heap.size (fun _ => True) s6 out) ∧ Aside0 (underL (fun x => impl_Tree_nodesUnder.f k l0_0 l0_1 x) out (items.drop kk.toNat) = some tot))
      case atStart => exact ⟨0, [], by omega, by omega, by omega, rfl, by simp, HB, BK, ⟨Kd.R_nil _ _ _ _ _⟩, HT⟩
      case round =>
        clear HB BK HT
        obtain ⟨kk, out, h0, hk, hg, rfl, hol, HB, BK, HO, HT⟩ := hrel
        have ht0 := (blk_cell BK.out 0).trans rfl
        have ht1 := (blk_cell BK.out 1).trans rfl
        by_cases hlt : kk < (items.length : Int)
        · obtain ⟨ae, rfl, hy0⟩ := Kd.at_int HG2.out kk h0 hlt
          replace hy0 := (HB.out.cell (World.block_lt_of_cell? w _ hy0)).trans hy0
          have q0 := eq_true h0
          have q1 := eq_true hlt
          have HN := Aside0.mk (by have := underL_here (fun x => impl_Tree_nodesUnder.f k l0_0 l0_1 x) out items kk h0 hlt; rw [HT.out] at this; exact this.symm)
          clear HT
          generalize rd items kk = x at hy0 HN
          obtain ⟨tl, htl, hn⟩ := Option.bind_eq_some_iff.1 HN.out
          have HTL2 := Aside0.mk htl
          by_cases hsm : out.length + tl.length ≤ 1048576
          case neg => rw [if_neg hsm] at hn; cases hn
          rw [if_pos hsm] at hn
          have HSM := Aside0.mk hsm
          replace HN := Aside0.mk hn
          clear htl hn hsm
          go_wp2_with fail
          refine (HIH.out A0_0 c0_0 l0_0 (some ad) c0_1 l0_1 x tl _ (Kd.C_below HR0.out HB.out) HC0.out (Kd.C_below HR1.out HB.out) HC1.out HTL2.out).mono ?_
          rintro e w2 ⟨v2, rfl, ho2, hb2⟩
          have HB2 := Aside0.mk (below_step HB.out hb2)
          have BK2 := Aside0.mk (blk_below BK.out hb2)
          have HO2 := Aside0.mk (Kd.R_below HO.out hb2)
          obtain ⟨Av, cv, ev, hlv, hCv⟩ := Kd.R_reads ho2
          subst ev
          have HCV := Aside0.mk hCv
          clear ho2 hb2 hlv hCv HB BK HO ht0 ht1 hy0
          go_wp2_with (first | ((with_reducible refine gate_builtin (b := .append) (xs := #[.tmp 25, .tmp 28]) rfl ?_); at_builtin; refine Kd.R_append_rows (Kd.int .i64) (w0 := w) w.heap.size rfl (.tmp 25) (.tmp 28) 34 2 (.int .i64 0) 8 rfl Try.underlying34 info2 rfl (by decide) (by omega) _ out tl _ _ _ (fun _ => True) (fun _ => False) rfl rfl ?aO ?aR (fun _ _ h => h) (fun _ h => h.elim) ?aF ?aB ?aS ?aL ?_; (case aR => exact HCV.out); (case aB => exact HB2.out); (case aF => exact (fun _ _ => trivial)); (case aO => exact HO2.out); (case aS => exact below_size HB2.out); (case aL => have := HSM.out; omega); intro v3 w3 ho3 hb3 hg3 hat3; have HO3 := Aside0.mk ho3; have HB3 := Aside0.mk hb3; have BK3 := Aside0.mk (hg3.block _ (blk_lt BK2.out) (Kd.R_ne HO2.out BK2.out (by decide)) |>.trans BK2.out); clear ho3 hb3 hg3 hat3))
          go_roundg (gk - 1)
          case measure => omega
          case rel => exact ⟨kk + 1, out ++ tl, by omega, by omega, by omega, by go_num, by rw [List.length_append]; exact HSM.out, HB3, BK3, HO3, HN⟩
        · obtain rfl : kk = items.length := by omega
          have HE := Aside0.mk (show out = tot from by have := HT.out; rw [Int.toNat_natCast, List.drop_length] at this; exact Option.some.inj this)
          clear HT
          go_wp2_with fail
          refine (sortOwn.calls wr HO.out hol).mono ?_
          rintro e w2 ⟨rfl, ho, hg2⟩
          have HO2 := Aside0.mk ho
          have HB2 := Aside0.mk (pw_below_grown HB.out _ HB.out.size hg2 (fun k hk => Kd.R_base HO.out k hk))
          clear ho hg2
          go_wp2_with fail
          go_ret
          exact ⟨_, rfl, by rw [← HE.out]; exact HO2.out, HB2.out⟩

end Go.Proofs.Ytkadeelplnkpgaa.Q

-- text Qf65
namespace Go.Proofs.Ytkadeelplnkpgaa.Q
open Go.RowKit Go.Proofs.YtkadeelplnkpgaaW.PrintWords Go.Proofs.YtkadeelplnkpgaaW.PrintLast Go.Proofs.YtkadeelplnkpgaaW.PrintMore
attribute [local go_sem] max2_int min2_int max_two min_two max_three min_three max_four min_four   -- for this text's walks alone
set_option linter.unusedVariables false
set_option linter.unusedSimpArgs false

/-! ### impl_Tree_weight: function 65 -/
def impl_Tree_weight.l0 : Nat → Int → List Int → Int → Int → List (S50) → List (S108) → Option (Int)
  | 0, _, _, _, _, _, _ => none
  | k + 1, x5, x10, x11, x12, x420000, x420001 => if x12 < x11 then (if 0 ≤ x12 then (if x12 < (x10.length : Int) then ((impl_Tree_device.f x420000 x420001 (rd x10 x12)).bind fun t424 => (if 0 ≤ t424 then (if t424 < (x420000.length : Int) then (impl_Tree_weight.l0 k (wrap64 (x5 + ((rd_T50 x420000 t424).f1))) x10 x11 (wrap64 (x12 + 1)) x420000 x420001) else (none)) else (none))) else (none)) else (none)) else (some x5)
def impl_Tree_weight.f (k : Nat) (l0_0 : List (S50)) (l0_1 : List (S108)) (a1 : Int) : Option (Int) := (impl_Tree_nodesUnder.f k l0_0 l0_1 a1).bind fun t420 => (impl_Tree_weight.l0 k 0 t420 (t420.length : Int) 0 l0_0 l0_1)
def impl_Tree_weight.T5 : Bool × List (List Nat × List Nat) := (true, [([], []), ([], []), ([1], [1]), ([], []), ([], []), ([3, 4], [3, 4]), ([2, 5], [2, 5]), ([6], [6]), ([7], [7]), ([0, 8], [0, 8]), ([9, 5, 0, 1, 2, 3, 4, 5, 6, 7, 8, 9], [0, 9])])
def impl_Tree_weight.B5 : List Nat := [0, 0, 2, 0, 0, 24, 62, 126, 254, 511, 1023]
theorem impl_Tree_weight.tab5 : rtab .any (opsOf Try.f65 5) = impl_Tree_weight.T5 := by kernel_rfl
theorem impl_Tree_weight.bits5 : waitsOk impl_Tree_weight.T5.2 impl_Tree_weight.B5 = true := by kernel_rfl
set_option maxHeartbeats 8000000 in
set_option maxRecDepth 100000 in
theorem impl_Tree_weight.calls (k : Nat) (A0_0 : Option Addr) (c0_0 : Nat) (l0_0 : List (S50)) (A0_1 : Option Addr) (c0_1 : Nat) (l0_1 : List (S108)) (a1 : Int) (r : Int) (w : World) (hr0_0 : Kd.C k50 w A0_0 l0_0.length l0_0) (hc0_0 : l0_0.length ≤ c0_0) (hr0_1 : Kd.C k108 w A0_1 l0_1.length l0_1) (hc0_1 : l0_1.length ≤ c0_1) (h : impl_Tree_weight.f k l0_0 l0_1 a1 = some r) :
    Calls Try.prog 65 #[.agg #[.slice A0_0 l0_0.length c0_0, .slice A0_1 l0_1.length c0_1], .int .i64 a1] w fun e w' => e = .returned (.int .i64 r) ∧ Below w.heap.size w w' := by
  have hu31 := Try.underlying31
  have HR0_0 := Aside0.mk hr0_0
  have HC0_0 := Aside0.mk hc0_0
  clear hr0_0 hc0_0
  have HR0_1 := Aside0.mk hr0_1
  have HC0_1 := Aside0.mk hc0_1
  clear hr0_1 hc0_1
  have HB := Aside0.mk (Below.refl w.heap.size w)
  have H : ((impl_Tree_nodesUnder.f k l0_0 l0_1 a1).bind fun t420 => (impl_Tree_weight.l0 k 0 t420 (t420.length : Int) 0 l0_0 l0_1)) = some r := h
  clear h
  replace H := Option.bind_eq_some_iff.mp H
  obtain ⟨t420, A30, H⟩ := H
  replace H : (impl_Tree_weight.l0 k 0 t420 (t420.length : Int) 0 l0_0 l0_1) = some r := H
  have A3 := Aside0.mk A30
  clear A30
  have H' := Aside0.mk H
  clear H
  go_enter Try.func65, Try.ntmps65
  go_wp2_with (first | ((with_reducible refine gate_dst (N := 2) rfl ?_); refine box_event ?hg (N := 2) ?hd (cs := #[.slice A0_0 l0_0.length c0_0, .slice A0_1 l0_1.length c0_1]) (t := 31) ?hr ?_; (case hd => rfl); (case hg => rfl); (case hr => first | (go_simp; done) | (go_simp; rfl)); intro gb419 hg w4 hbox hb; have n0_ := Aside0.mk (below_step (by repeat first | exact HB.out | apply below_alloc | apply pw_below_drewN | apply below_drew1) hb); have n1_ := Aside0.mk (hbox); have n2_ := Aside0.mk ((by rw [hg]; exact (below_size (by repeat first | exact HB.out | apply below_alloc | apply pw_below_drewN | apply below_drew1)) : w.heap.size ≤ gb419)); have n3_ := Aside0.mk ((by rw [hg]; exact (below_size (by repeat first | exact HB.out | apply below_alloc | apply pw_below_drewN | apply below_drew1)) : w.heap.size ≤ gb419)); clear HB; have HB := n0_; have BK419 := n1_; have GW419 := n2_; have GE419 := n3_; clear n0_ n1_ n2_ n3_; clear hb hbox hg; have hcz5_0 : w4.cell? ⟨gb419, 0, none⟩ = some (.slice A0_0 l0_0.length c0_0) := (blk_cell BK419.out 0).trans rfl; have hcz5_1 : w4.cell? ⟨gb419, 1, none⟩ = some (.slice A0_1 l0_1.length c0_1) := (blk_cell BK419.out 1).trans rfl; have hfz5_0 := blk_frozen BK419.out 0; have hfz5_1 := blk_frozen BK419.out 1) | ((with_reducible refine gate_callee (f := 73) rfl ?_); refine goesL_ (some 10) rfl rfl Try.func73 (by kernel_rfl) rfl #[.agg #[.slice A0_0 l0_0.length c0_0, .slice A0_1 l0_1.length c0_1], .int .i64 a1] rfl (by (try simp only [List.map_toArray, List.map_cons, List.map_nil]); first | done | rfl | (simp only [List.length_drop, List.length_take]; rfl)) ?_; (with_reducible refine (impl_Tree_nodesUnder.calls k _ _ l0_0 _ _ l0_1 a1 t420 _ ?side1 ?side2 ?side3 ?side4 A3.out).mono ?_); (case side1 => repeat (first | exact (Kd.C_below HR0_0.out HB.out) | (with_reducible refine Kd.C_alloc ?_ _) | (with_reducible refine Kd.C_drewN ?_ _) | (with_reducible refine Kd.C_drew ?_))); (case side2 => exact HC0_0.out); (case side3 => repeat (first | exact (Kd.C_below HR0_1.out HB.out) | (with_reducible refine Kd.C_alloc ?_ _) | (with_reducible refine Kd.C_drewN ?_ _) | (with_reducible refine Kd.C_drew ?_))); (case side4 => exact HC0_1.out); rintro e w6 ⟨v421, rfl, ho0, hb⟩; refine ⟨_, rfl, ?_⟩; have n0_ := Aside0.mk (Kd.R_lower ho0 (below_size (by repeat (first | (with_reducible first | exact HB.out | apply below_alloc | apply pw_below_drewN | apply below_drew1 | refine below_set ?_ GE419.out) | exact HB.out)))); have n1_ := Aside0.mk (blk_below (g := gb419) (o := .cells #[.slice A0_0 l0_0.length c0_0, .slice A0_1 l0_1.length c0_1] 31 (0, 0)) (by (with_reducible repeat first | apply blk_drewN | apply blk_drew | apply blk_alloc); exact BK419.out) hb); have n2_ := Aside0.mk (below_step (by repeat (first | (with_reducible first | exact HB.out | apply below_alloc | apply pw_below_drewN | apply below_drew1 | refine below_set ?_ GE419.out) | exact HB.out)) hb); clear BK419; clear HB; have HO422 := n0_; have BK419 := n1_; have HB := n2_; clear n0_ n1_ n2_; (try clear hb); (try clear hb2); (try clear hk); (try clear hi); (try clear ho0); obtain ⟨Ao7, co7, eo7⟩ := Kd.R_slice HO422.out; subst eo7))
  go_loopg [5, 12] k (fun kq v5 v12 w' => ∃ (x5_1 : Int) (x12_1 : Int), v5 = .int .i64 x5_1 ∧ v12 = .int .i64 x12_1 ∧ Aside0 (impl_Tree_weight.l0 kq x5_1 t420 (t420.length : Int) x12_1 l0_0 l0_1 = some r) ∧ Aside0 (kq ≤ k) ∧ Aside0 (Kd.R (Kd.int .i64) 2 w' w.heap.size (fun _ => True) (.slice Ao7 t420.length co7) t420) ∧ Aside0 (w'.heap[gb419]? = some (.cells #[(.slice A0_0 l0_0.length c0_0), (.slice A0_1 l0_1.length c0_1)] 31 (0, 0))) ∧ Aside0 (Below w.heap.size w w'))
  case atStart => exact ⟨(0), (0), (by first | rfl | (simp; done) | (simp [*]; done)), (by first | rfl | (simp; done) | (simp [*]; done)), H', ⟨Nat.le_refl _⟩, ⟨by (with_reducible repeat (first | apply Kd.R_alloc | apply Kd.R_drewN | apply Kd.R_drew)); exact HO422.out⟩, ⟨by (with_reducible repeat first | apply blk_drewN | apply blk_drew | apply blk_alloc); exact BK419.out⟩, ⟨by repeat (first | (with_reducible first | exact HB.out | apply below_alloc | apply pw_below_drewN | apply below_drew1 | refine below_set ?_ GE419.out) | exact HB.out)⟩⟩
  case round =>
    clear H'
    try clear p2
    try clear c6
    try clear c7
    try clear hcz5_0
    try clear hcz5_1
    try clear hfz5_0
    try clear hfz5_1
    obtain ⟨x5_1, x12_1, rfl, rfl, HA, HK1, HO_10, BK419, HB⟩ := hrel
    cases gk with
    | zero => exact absurd HA.out (by simp [impl_Tree_weight.l0])
    | succ k1 =>
      have H := HA.out
      clear HA
      simp only [impl_Tree_weight.l0] at H
      by_cases c8 : x12_1 < (t420.length : Int)
      · rw [if_pos c8] at H
        have c8b0 : decide (x12_1 < (t420.length : Int)) = true := decide_eq_true c8
        clear c8
        by_cases c9 : 0 ≤ x12_1
        · rw [if_pos c9] at H
          have c9b0 : decide (0 ≤ x12_1) = true := decide_eq_true c9
          clear c9
          by_cases c10 : x12_1 < (t420.length : Int)
          · rw [if_pos c10] at H
            have c10b0 : decide (x12_1 < (t420.length : Int)) = true := decide_eq_true c10
            clear c10
            replace H := Option.bind_eq_some_iff.mp H
            obtain ⟨t424, A110, H⟩ := H
            replace H : (if 0 ≤ t424 then (if t424 < (l0_0.length : Int) then (impl_Tree_weight.l0 k1 (wrap64 (x5_1 + ((rd_T50 l0_0 t424).f1))) t420 (t420.length : Int) (wrap64 (x12_1 + 1)) l0_0 l0_1) else (none)) else (none)) = some r := H
            have A11 := Aside0.mk A110
            clear A110
            by_cases c12 : 0 ≤ t424
            · rw [if_pos c12] at H
              have c12b0 : decide (0 ≤ t424) = true := decide_eq_true c12
              clear c12
              by_cases c13 : t424 < (l0_0.length : Int)
              · rw [if_pos c13] at H
                have c13b0 : decide (t424 < (l0_0.length : Int)) = true := decide_eq_true c13
                clear c13
                have H' := Aside0.mk H
                clear H
                have p423 : 0 ≤ (x12_1 : Int) := of_decide_eq_true (by assumption)
                have q423 : x12_1 < (t420.length : Int) := of_decide_eq_true (by assumption)
                obtain ⟨ad423, e423, hx423_0⟩ := Kd.at_int (Kd.R_reads' HO_10.out).2.2 x12_1 p423 q423
                cases e423
                replace p423 := eq_true p423
                replace q423 := eq_true q423
                try go_wp2
                have n0_ := Aside0.mk (Kd.R_drew HO_10.out)
                have n1_ := Aside0.mk (blk_drew BK419.out)
                have n2_ := Aside0.mk (below_drew1 HB.out)
                clear HO_10
                clear BK419
                clear HB
                have HO_10 := n0_
                have BK419 := n1_
                have HB := n2_
                clear n0_ n1_ n2_
                have p425 : 0 ≤ (t424 : Int) := of_decide_eq_true (by assumption)
                have q425 : t424 < (l0_0.length : Int) := of_decide_eq_true (by assumption)
                obtain ⟨ad425, e425, hx425_0, hx425_1⟩ := at_T50 HR0_0.out t424 p425 q425
                have hw425_1 := hx425_1
                have hw425_0 := hx425_0
                cases e425
                replace hx425_0 := (HB.out.cell (World.block_lt_of_cell? w _ hx425_0)).trans hx425_0
                replace hx425_1 := (HB.out.cell (World.block_lt_of_cell? w _ hx425_1)).trans hx425_1
                replace p425 := eq_true p425
                replace q425 := eq_true q425
                refine start_ (n := 11) (S := fun w' => w'.cell? ⟨gb419, 0, none⟩ = some (.slice (some ad425) l0_0.length c0_0) ∧ w'.cell? ⟨gb419, 1, none⟩ = some (.slice A0_1 l0_1.length c0_1) ∧ w'.cell? (ad425.add ((t424).toNat * 2)) = some (.int .i64 ((rd_T50 l0_0 t424).f0)) ∧ w'.cell? ⟨(ad425.add ((t424).toNat * 2)).block, (ad425.add ((t424).toNat * 2)).off + 1, none⟩ = some (.int .i64 ((rd_T50 l0_0 t424).f1))) (ds := []) #[false, false, false, false, false, false, false, false, false, false, false] (by kernel_rfl) rfl rfl ⟨(blk_cell BK419.out 0).trans rfl, (blk_cell BK419.out 1).trans rfl, ((HB.out.cell (World.block_lt_of_cell? w _ hw425_0)).trans hw425_0), ((HB.out.cell (World.block_lt_of_cell? w _ hw425_1)).trans hw425_1)⟩ (fun hHeld => ?_); refine with_tabW impl_Tree_weight.tab5 impl_Tree_weight.bits5 (fun HT_ HW_ => ?_)
                generalize wr.drew = w14 at HO_10 BK419 HB hx425_0 hx425_1 hHeld ⊢
                refine pure_ (i := 0) (N := some 16) (v := ?_) (a' := ?_) #[true, false, false, false, false, false, false, false, false, false, false] rfl rfl (any_of HT_.out (by kernel_rfl)) (fun _ _ _ h => h) (Or.inl ⟨by rfl, ?_⟩) ?_ ?_
                rotate_left
                · intro w'
                  go_simp
                  with_reducible rfl
                rotate_left
                · simp only [Act.put, List.setIfInBounds_toArray, List.set_cons_zero, List.set_cons_succ, i64_w, i32_w]
                  rfl
                refine pure_ (i := 1) (N := some 17) (v := ?_) (a' := ?_) #[true, true, false, false, false, false, false, false, false, false, false] rfl rfl (any_of HT_.out (by kernel_rfl)) (fun _ _ _ h => h) (Or.inl ⟨by rfl, ?_⟩) ?_ ?_
                rotate_left
                · intro w'
                  go_simp
                  with_reducible rfl
                rotate_left
                · simp only [Act.put, List.setIfInBounds_toArray, List.set_cons_zero, List.set_cons_succ, i64_w, i32_w]
                  rfl
                refine pure_ (i := 4) (N := some 20) (v := ?_) (a' := ?_) #[true, true, false, false, true, false, false, false, false, false, false] rfl rfl (any_of HT_.out (by kernel_rfl)) (fun _ _ _ h => h) (Or.inl ⟨by rfl, ?_⟩) ?_ ?_
                rotate_left
                · intro w'
                  go_simp
                  with_reducible rfl
                rotate_left
                · simp only [Act.put, List.setIfInBounds_toArray, List.set_cons_zero, List.set_cons_succ, i64_w, i32_w]
                  rfl
                refine take_ (i := 2) (N := some 18) (v := ?_) (a' := ?_) #[true, true, true, false, true, false, false, false, false, false, false] rfl rfl (take_ofW HT_.out HW_.out (by kernel_rfl)) (fun _ _ _ h => h) (Or.inl ⟨by rfl, ?_⟩) hHeld ?_ ?_
                rotate_left
                · rintro w' ⟨s0, s1, s2, s3⟩
                  go_simp
                  with_reducible rfl
                rotate_left
                · simp only [Act.put, List.setIfInBounds_toArray, List.set_cons_zero, List.set_cons_succ, i64_w, i32_w]
                  rfl
                refine take_ (i := 3) (N := some 19) (v := ?_) (a' := ?_) #[true, true, true, true, true, false, false, false, false, false, false] rfl rfl (take_ofW HT_.out HW_.out (by kernel_rfl)) (fun _ _ _ h => h) (Or.inl ⟨by rfl, ?_⟩) hHeld ?_ ?_
                rotate_left
                · rintro w' ⟨s0, s1, s2, s3⟩
                  go_simp
                  with_reducible rfl
                rotate_left
                · simp only [Act.put, List.setIfInBounds_toArray, List.set_cons_zero, List.set_cons_succ, i64_w, i32_w]
                  rfl
                refine one_ (i := 5) (N := some 21) #[true, true, true, true, true, true, false, false, false, false, false] rfl rfl (one_of HT_.out (by kernel_rfl)) (by decide) (fun K hK => ?_)
                refine goes_ Try.func104 (by kernel_rfl) rfl #[.agg #[.slice (some ad425) l0_0.length c0_0, .slice A0_1 l0_1.length c0_1], .int .i64 (rd t420 x12_1)] (by rfl) rfl rfl (by (try simp only [List.map_toArray, List.map_cons, List.map_nil]); first | done | rfl | (simp only [List.length_drop, List.length_take]; rfl)) ?_
                with_reducible refine (impl_Tree_device.calls _ _ l0_0 _ _ l0_1 (rd t420 x12_1) t424 _ ?side1 ?side2 ?side3 ?side4 A11.out).mono ?_
                (case side1 => repeat (first | exact (Kd.C_below HR0_0.out HB.out) | (with_reducible refine Kd.C_alloc ?_ _) | (with_reducible refine Kd.C_drewN ?_ _) | (with_reducible refine Kd.C_drew ?_)))
                (case side2 => exact HC0_0.out)
                (case side3 => repeat (first | exact (Kd.C_below HR0_1.out HB.out) | (with_reducible refine Kd.C_alloc ?_ _) | (with_reducible refine Kd.C_drewN ?_ _) | (with_reducible refine Kd.C_drew ?_)))
                (case side4 => exact HC0_1.out)
                rintro e w15 ⟨rfl, hb⟩
                refine ⟨_, rfl, ?_⟩
                have n0_ := Aside0.mk (Kd.R_below (by (with_reducible repeat (first | apply Kd.R_alloc | apply Kd.R_drewN | apply Kd.R_drew)); exact HO_10.out) hb)
                have n1_ := Aside0.mk (blk_below (g := gb419) (o := .cells #[.slice (some ad425) l0_0.length c0_0, .slice A0_1 l0_1.length c0_1] 31 (0, 0)) (by (with_reducible repeat first | apply blk_drewN | apply blk_drew | apply blk_alloc); exact BK419.out) hb)
                have n2_ := Aside0.mk (below_step (by repeat (first | (with_reducible first | exact HB.out | apply below_alloc | apply pw_below_drewN | apply below_drew1 | refine below_set ?_ GE419.out) | exact HB.out)) hb)
                clear HO_10
                clear BK419
                clear HB
                have HO_10 := n0_
                have BK419 := n1_
                have HB := n2_
                clear n0_ n1_ n2_
                (try clear hb)
                (try clear hb2)
                (try clear hk)
                (try clear hi)
                refine hK.out _ _ ⟨(blk_cell BK419.out 0).trans rfl, (blk_cell BK419.out 1).trans rfl, ((HB.out.cell (World.block_lt_of_cell? w _ hw425_0)).trans hw425_0), ((HB.out.cell (World.block_lt_of_cell? w _ hw425_1)).trans hw425_1)⟩ (fun hHeld => ?_)
                clear hK K
                refine norm_ (a' := ?_) ?_ ?_
                rotate_left
                · show Act.put _ (some 21) _ = _
                  simp only [Act.put, List.setIfInBounds_toArray, List.set_cons_zero, List.set_cons_succ, i64_w, i32_w]
                  rfl
                refine pure_ (i := 6) (N := some 22) (v := ?_) (a' := ?_) #[true, true, true, true, true, true, true, false, false, false, false] rfl rfl (any_of HT_.out (by kernel_rfl)) (fun _ _ _ h => h) (Or.inl ⟨by rfl, ?_⟩) ?_ ?_
                rotate_left
                · intro w'
                  go_simp
                  with_reducible rfl
                rotate_left
                · simp only [Act.put, List.setIfInBounds_toArray, List.set_cons_zero, List.set_cons_succ, i64_w, i32_w]
                  rfl
                refine pure_ (i := 7) (N := some 23) (v := ?_) (a' := ?_) #[true, true, true, true, true, true, true, true, false, false, false] rfl rfl (any_of HT_.out (by kernel_rfl)) (fun _ _ _ h => h) (Or.inl ⟨by rfl, ?_⟩) ?_ ?_
                rotate_left
                · intro w'
                  go_simp
                  with_reducible rfl
                rotate_left
                · simp only [Act.put, List.setIfInBounds_toArray, List.set_cons_zero, List.set_cons_succ, i64_w, i32_w]
                  rfl
                refine take_ (i := 8) (N := some 24) (v := ?_) (a' := ?_) #[true, true, true, true, true, true, true, true, true, false, false] rfl rfl (take_ofW HT_.out HW_.out (by kernel_rfl)) (fun _ _ _ h => h) (Or.inl ⟨by rfl, ?_⟩) hHeld ?_ ?_
                rotate_left
                · rintro w' ⟨s0, s1, s2, s3⟩
                  go_simp
                  with_reducible rfl
                rotate_left
                · simp only [Act.put, List.setIfInBounds_toArray, List.set_cons_zero, List.set_cons_succ, i64_w, i32_w]
                  rfl
                refine pure_ (i := 9) (N := some 25) (v := ?_) (a' := ?_) #[true, true, true, true, true, true, true, true, true, true, false] rfl rfl (any_of HT_.out (by kernel_rfl)) (fun _ _ _ h => h) (Or.inl ⟨by rfl, ?_⟩) ?_ ?_
                rotate_left
                · intro w'
                  go_simp
                  with_reducible rfl
                rotate_left
                · simp only [Act.put, List.setIfInBounds_toArray, List.set_cons_zero, List.set_cons_succ, i64_w, i32_w]
                  rfl
                refine pure_ (i := 10) (N := some 5) (v := ?_) (a' := ?_) #[true, true, true, true, true, true, true, true, true, true, true] rfl rfl (any_of HT_.out (by kernel_rfl)) (fun _ _ _ h => h) (Or.inl ⟨by rfl, ?_⟩) ?_ ?_
                rotate_left
                · intro w'
                  go_simp
                  with_reducible rfl
                rotate_left
                · simp only [Act.put, List.setIfInBounds_toArray, List.set_cons_zero, List.set_cons_succ, i64_w, i32_w]
                  rfl
                refine done_ (done_of HT_.out (by kernel_rfl)) ?_
                try go_wp2
                go_roundg k1
                case measure => have := HK1.out; omega
                case rel => exact ⟨(wrap64 (x5_1 + ((rd_T50 l0_0 t424).f1))), (wrap64 (x12_1 + 1)), (by first | rfl | (simp; done) | (simp [*]; done)), (by first | rfl | (simp; done) | (simp [*]; done)), H', ⟨by have := HK1.out; omega⟩, ⟨by (with_reducible repeat (first | apply Kd.R_alloc | apply Kd.R_drewN | apply Kd.R_drew)); exact HO_10.out⟩, ⟨by (with_reducible repeat first | apply blk_drewN | apply blk_drew | apply blk_alloc); exact BK419.out⟩, ⟨by repeat (first | (with_reducible first | exact HB.out | apply below_alloc | apply pw_below_drewN | apply below_drew1 | refine below_set ?_ GE419.out) | exact HB.out)⟩⟩
              · rw [if_neg c13] at H
                exact absurd H (by simp)
            · rw [if_neg c12] at H
              exact absurd H (by simp)
          · rw [if_neg c10] at H
            exact absurd H (by simp)
        · rw [if_neg c9] at H
          exact absurd H (by simp)
      · rw [if_neg c8] at H
        have c8b0 : decide (x12_1 < (t420.length : Int)) = false := decide_eq_false c8
        clear c8
        obtain rfl := Option.some.inj H
        go_wp2
        go_ret
        exact ⟨by first | rfl | (simp [*, errW_none, errW_some] <;> rfl), by repeat (first | (with_reducible first | exact HB.out | apply below_alloc | apply pw_below_drewN | apply below_drew1 | refine below_set ?_ GE419.out) | exact HB.out)⟩

end Go.Proofs.Ytkadeelplnkpgaa.Q

-- text Qf78
namespace Go.Proofs.Ytkadeelplnkpgaa.Q
open Go.RowKit Go.Proofs.YtkadeelplnkpgaaW.PrintWords Go.Proofs.YtkadeelplnkpgaaW.PrintLast Go.Proofs.YtkadeelplnkpgaaW.PrintMore
attribute [local go_sem] max2_int min2_int max_two min_two max_three min_three max_four min_four   -- for this text's walks alone
set_option linter.unusedVariables false
set_option linter.unusedSimpArgs false

/-! ### impl_Tree_chooseIn: function 78 -/
/-- items with their weights, one behind the other -/
def itemsW (g : Int → Option Int) : List (S134) → List Int → Option (List (S134))
  | out, [] => some out
  | out, x :: xs => (g x).bind fun t => if out.length < 1048576 then itemsW g (out ++ [⟨x, t⟩]) xs else none
theorem itemsW_here (g : Int → Option Int) (out : List (S134)) (l : List Int) (i : Int) (h0 : 0 ≤ i) (h1 : i < (l.length : Int)) : itemsW g out (l.drop i.toNat) = (g (rd l i)).bind fun t => if out.length < 1048576 then itemsW g (out ++ [⟨rd l i, t⟩]) (l.drop (i + 1).toNat) else none := by
  obtain ⟨n, rfl⟩ := Int.eq_ofNat_of_zero_le h0
  have hl : n < l.length := by omega
  have e : ((n : Int) + 1).toNat = n + 1 := by omega
  have er : rd l (n : Int) = l[n] := by unfold rd; rw [Int.toNat_natCast, List.getD_eq_getElem?_getD, List.getElem?_eq_getElem hl]; rfl
  rw [e, Int.toNat_natCast, List.drop_eq_getElem_cons hl, er]
  rfl
def impl_Tree_chooseIn.f (k : Nat) (l0_0 : List (S50)) (l0_1 : List (S108)) (a1 a2 a3 : Int) : Option (Int × Bool) :=
  if bucketAt l0_1 a1 < 0 then some (0, false) else (itemsW (fun x => impl_Tree_weight.f k l0_0 l0_1 x) [] (rd_T108 l0_1 (bucketAt l0_1 a1)).f2).bind fun l => impl_choose.f k l a2 a3
set_option maxHeartbeats 4000000 in
set_option maxRecDepth 100000 in
theorem impl_Tree_chooseIn.calls (k : Nat) (A0_0 : Option Addr) (c0_0 : Nat) (l0_0 : List (S50)) (A0_1 : Option Addr) (c0_1 : Nat) (l0_1 : List (S108)) (a1 : Int) (a2 : Int) (a3 : Int) (r1 : Int) (r2 : Bool) (w : World) (hr0_0 : Kd.C k50 w A0_0 l0_0.length l0_0) (hc0_0 : l0_0.length ≤ c0_0) (hr0_1 : Kd.C k108 w A0_1 l0_1.length l0_1) (hc0_1 : l0_1.length ≤ c0_1) (h : impl_Tree_chooseIn.f k l0_0 l0_1 a1 a2 a3 = some (r1, r2)) :
    Calls Try.prog 78 #[.agg #[.slice A0_0 l0_0.length c0_0, .slice A0_1 l0_1.length c0_1], .int .i64 a1, .int .i64 a2, .int .i64 a3] w fun e w' => e = .returned (.tuple #[.int .i64 r1, .bool r2]) ∧ Below w.heap.size w w' := by
  have HR0 := Aside0.mk hr0_0
  have HR1 := Aside0.mk hr0_1
  have HC0 := Aside0.mk hc0_0
  have HC1 := Aside0.mk hc0_1
  clear hr0_0 hr0_1 hc0_0 hc0_1
  unfold impl_Tree_chooseIn.f at h
  by_cases hb : bucketAt l0_1 a1 < 0
  · rw [if_pos hb] at h
    obtain ⟨rfl, rfl⟩ := (show r1 = 0 ∧ r2 = false from by have := (Option.some.inj h).symm; simpa using this)
    clear h
    go_enter Try.func78, Try.ntmps78
    go_wp2_with fail
    have HB := Aside0.mk (below_alloc (Below.refl w.heap.size w) (.cells #[.slice A0_0 l0_0.length c0_0, .slice A0_1 l0_1.length c0_1] 31))
    refine (bucket_none.calls A0_0 c0_0 l0_0 A0_1 c0_1 l0_1 a1 _ (Kd.C_below HR1.out HB.out) hb).mono ?_
    rintro e w1 ⟨rfl, hb1⟩
    replace HB := Aside0.mk (below_step HB.out hb1)
    clear hb1 hb
    go_wp2_with fail
    go_ret2
    exact ⟨rfl, HB.out⟩
  · rw [if_neg hb] at h
    obtain ⟨tot, htot, hch⟩ := Option.bind_eq_some_iff.1 h
    have hb0 : 0 ≤ bucketAt l0_1 a1 := by omega
    have hlt := bucketAt_lt l0_1 a1 hb0
    obtain ⟨ad, A2, c2, rfl, hx0, hx1, hx2, hl2, hg2⟩ := at_T108 HR1.out _ hb0 hlt
    have HCH := Aside0.mk hch
    have HT := Aside0.mk (show itemsW (fun x => impl_Tree_weight.f k l0_0 l0_1 x) [] ((rd_T108 l0_1 (bucketAt l0_1 a1)).f2.drop (0 : Int).toNat) = some tot from htot)
    have HX2 := Aside0.mk hx2
    have HG2 := Aside0.mk hg2
    clear h htot hch hb hx0 hx1 hx2 hl2 hg2
    go_enter Try.func78, Try.ntmps78
    go_wp2_with fail
    have BK := Aside0.mk (blk_new w (.cells #[.slice A0_0 l0_0.length c0_0, .slice (some ad) l0_1.length c0_1] 31))
    have HB := Aside0.mk (below_alloc (Below.refl w.heap.size w) (.cells #[.slice A0_0 l0_0.length c0_0, .slice (some ad) l0_1.length c0_1] 31))
    refine (bucket_some.calls A0_0 c0_0 l0_0 (some ad) c0_1 l0_1 a1 _ (Kd.C_below HR1.out HB.out) ad rfl hb0).mono ?_
    rintro e w1 ⟨rfl, hb1⟩
    replace BK := Aside0.mk (blk_below BK.out hb1)
    replace HB := Aside0.mk (below_step HB.out hb1)
    clear hb1
    have hx2 := (HB.out.cell (World.block_lt_of_cell? w _ HX2.out)).trans HX2.out
    clear HX2 hb0 hlt
    generalize bucketAt l0_1 a1 = j at hx2 HT HG2 ⊢
    generalize (rd_T108 l0_1 j).f2 = items at hx2 HT HG2
    have hmi := Kd.C_max HG2.out
    go_wp2_with fail
    clear hx2
    obtain ⟨gt, hgt⟩ : ∃ g, g = w.heap.size := ⟨_, rfl⟩
    rw [← hgt] at BK ⊢
    clear hgt
    go_loopg [11, 24] items.length (fun gg s11 s24 wr => ∃ (kk : Int) (out : List (S134)), 0 ≤ kk ∧ kk ≤ items.length ∧ (items.length : Int) - kk ≤ gg ∧ s24 = .int .i64 kk ∧ out.length ≤ 1048576 ∧ Aside0 (Below w.heap.size w wr) ∧ Aside0 (wr.heap[gt]? = some (.cells #[.slice A0_0 l0_0.length c0_0, .slice (some ad) l0_1.length c0_1] 31 (0, 0))) ∧ Aside0 (Kd.R k134 134 wr w.heap.size (fun _ => True) s11 out) ∧ Aside0 (itemsW (fun x => impl_Tree_weight.f k l0_0 l0_1 x) out (items.drop kk.toNat) = some tot))
    case atStart => exact ⟨0, [], by omega, by omega, by omega, rfl, by simp, HB, BK, ⟨Kd.R_nil _ _ _ _ _⟩, HT⟩
    case round =>
      clear HB BK HT
      obtain ⟨kk, out, h0, hk, hg, rfl, hol, HB, BK, HO, HT⟩ := hrel
      have ht0 := (blk_cell BK.out 0).trans rfl
      have ht1 := (blk_cell BK.out 1).trans rfl
      by_cases hlt : kk < (items.length : Int)
      · obtain ⟨ae, rfl, hy0⟩ := Kd.at_int HG2.out kk h0 hlt
        replace hy0 := (HB.out.cell (World.block_lt_of_cell? w _ hy0)).trans hy0
        have q0 := eq_true h0
        have q1 := eq_true hlt
        have HN := Aside0.mk (by have := itemsW_here (fun x => impl_Tree_weight.f k l0_0 l0_1 x) out items kk h0 hlt; rw [HT.out] at this; exact this.symm)
        clear HT
        generalize rd items kk = x at hy0 HN
        obtain ⟨wt, hwt, hn⟩ := Option.bind_eq_some_iff.1 HN.out
        have HWT := Aside0.mk hwt
        by_cases hsm : out.length < 1048576
        case neg => rw [if_neg hsm] at hn; cases hn
        rw [if_pos hsm] at hn
        have HSM := Aside0.mk hsm
        replace HN := Aside0.mk hn
        clear hwt hn hsm
        go_wp2_with fail
        refine (impl_Tree_weight.calls k A0_0 c0_0 l0_0 (some ad) c0_1 l0_1 x wt _ (Kd.C_below HR0.out HB.out) HC0.out (Kd.C_below HR1.out HB.out) HC1.out HWT.out).mono ?_
        rintro e w2 ⟨rfl, hb2⟩
        have HB2 := Aside0.mk (below_step HB.out hb2)
        have BK2 := Aside0.mk (blk_below BK.out hb2)
        have HO2 := Aside0.mk (Kd.R_below HO.out hb2)
        clear hb2 HB BK HO ht0 ht1 hy0
        go_wp2_with (first | ((with_reducible refine gate_builtin (b := .append) (xs := #[.tmp 28, .tmp 34]) rfl ?_); at_builtin; refine Kd.R_append k134 (w0 := w) w.heap.size rfl (.tmp 28) (.tmp 34) 133 134 (.agg #[(.int .i64 0), (.int .i64 0)]) 16 rfl Try.underlying133 info134 rfl (by decide) (by omega) _ out (⟨x, wt⟩ : S134) [.int .i64 x, .int .i64 wt] (fun _ => True) (fun _ => False) rfl rfl ?aP (fun _ hk => hk.elim) ?aF ?aO ?aB ?aS ?aL ?_; (case aP => exact k134_mkM _ _ _ (⟨x, wt⟩ : S134)); (case aB => exact HB2.out); (case aF => exact (fun _ _ => trivial)); (case aO => exact HO2.out); (case aS => exact below_size HB2.out); (case aL => have := HSM.out; omega); intro v3 w3 ho3 hb3 hg3 hat3; have HO3 := Aside0.mk ho3; have HB3 := Aside0.mk hb3; have BK3 := Aside0.mk (hg3.block _ (blk_lt BK2.out) (Kd.R_ne HO2.out BK2.out (by decide)) |>.trans BK2.out); clear ho3 hb3 hg3 hat3))
        go_roundg (gk - 1)
        case measure => omega
        case rel => exact ⟨kk + 1, out ++ [⟨x, wt⟩], by omega, by omega, by omega, by go_num, by rw [List.length_append]; have := HSM.out; simp; omega, HB3, BK3, HO3, HN⟩
      · obtain rfl : kk = items.length := by omega
        have HE := Aside0.mk (show out = tot from by have := HT.out; rw [Int.toNat_natCast, List.drop_length] at this; exact Option.some.inj this)
        clear HT
        obtain ⟨Av, cv, ev, hlv, hCv⟩ := Kd.R_reads HO.out
        subst ev
        have HCV := Aside0.mk hCv
        have HLV := Aside0.mk hlv
        clear hlv hCv HO
        go_wp2_with fail
        refine (impl_choose.calls k Av cv out a2 a3 r1 r2 wr HCV.out HLV.out (by rw [HE.out]; exact HCH.out)).mono ?_
        rintro e w2 ⟨rfl, hb2⟩
        have HB2 := Aside0.mk (below_step HB.out hb2)
        clear hb2
        go_wp2_with fail
        go_ret2
        exact ⟨rfl, HB2.out⟩

end Go.Proofs.Ytkadeelplnkpgaa.Q

-- text Qf87
namespace Go.Proofs.Ytkadeelplnkpgaa.Q
open Go.RowKit Go.Proofs.YtkadeelplnkpgaaW.PrintWords Go.Proofs.YtkadeelplnkpgaaW.PrintLast Go.Proofs.YtkadeelplnkpgaaW.PrintMore
attribute [local go_sem] max2_int min2_int max_two min_two max_three min_three max_four min_four   -- for this text's walks alone
set_option linter.unusedVariables false
set_option linter.unusedSimpArgs false

/-! ### impl_Tree_descend: function 87 -/
def impl_Tree_descend.l0 : Nat → Int → Int → Int → Int → Bool → List (S50) → List (S108) → Option (Int × Bool)
  | 0, _, _, _, _, _, _, _ => none
  | k + 1, x1, x2, x3, x4, x12, x653000, x653001 => if x12 = true then ((impl_Tree_kindOf.f x653000 x653001 x1).bind fun t654 => (if t654 = x2 then (some (x1, x12)) else ((impl_Tree_chooseIn.f k x653000 x653001 x1 x3 x4).bind fun bt655 => (impl_Tree_descend.l0 k bt655.1 x2 x3 x4 bt655.2 x653000 x653001)))) else (some (x1, x12))
def impl_Tree_descend.f (k : Nat) (l0_0 : List (S50)) (l0_1 : List (S108)) (a1 : Int) (a2 : Int) (a3 : Int) (a4 : Int) : Option (Int × Bool) := (impl_Tree_kindOf.f l0_0 l0_1 a1).bind fun t653 => (impl_Tree_descend.l0 k a1 a2 a3 a4 (decide (t653 ≥ 0)) l0_0 l0_1)
set_option maxHeartbeats 8000000 in
set_option maxRecDepth 100000 in
theorem impl_Tree_descend.calls (k : Nat) (A0_0 : Option Addr) (c0_0 : Nat) (l0_0 : List (S50)) (A0_1 : Option Addr) (c0_1 : Nat) (l0_1 : List (S108)) (a1 : Int) (a2 : Int) (a3 : Int) (a4 : Int) (r1 : Int) (r2 : Bool) (w : World) (hr0_0 : Kd.C k50 w A0_0 l0_0.length l0_0) (hc0_0 : l0_0.length ≤ c0_0) (hr0_1 : Kd.C k108 w A0_1 l0_1.length l0_1) (hc0_1 : l0_1.length ≤ c0_1) (h : impl_Tree_descend.f k l0_0 l0_1 a1 a2 a3 a4 = some (r1, r2)) :
    Calls Try.prog 87 #[.agg #[.slice A0_0 l0_0.length c0_0, .slice A0_1 l0_1.length c0_1], .int .i64 a1, .int .i64 a2, .int .i64 a3, .int .i64 a4] w fun e w' => e = .returned (.tuple #[.int .i64 r1, .bool r2]) ∧ Below w.heap.size w w' := by
  have hu31 := Try.underlying31
  have HR0_0 := Aside0.mk hr0_0
  have HC0_0 := Aside0.mk hc0_0
  clear hr0_0 hc0_0
  have HR0_1 := Aside0.mk hr0_1
  have HC0_1 := Aside0.mk hc0_1
  clear hr0_1 hc0_1
  have HB := Aside0.mk (Below.refl w.heap.size w)
  have H : ((impl_Tree_kindOf.f l0_0 l0_1 a1).bind fun t653 => (impl_Tree_descend.l0 k a1 a2 a3 a4 (decide (t653 ≥ 0)) l0_0 l0_1)) = some (r1, r2) := h
  clear h
  replace H := Option.bind_eq_some_iff.mp H
  obtain ⟨t653, A60, H⟩ := H
  replace H : (impl_Tree_descend.l0 k a1 a2 a3 a4 (decide (t653 ≥ 0)) l0_0 l0_1) = some (r1, r2) := H
  have A6 := Aside0.mk A60
  clear A60
  have H' := Aside0.mk H
  clear H
  go_enter Try.func87, Try.ntmps87
  go_wp2_with (first | ((with_reducible refine gate_dst (N := 5) rfl ?_); refine box_event ?hg (N := 5) ?hd (cs := #[.slice A0_0 l0_0.length c0_0, .slice A0_1 l0_1.length c0_1]) (t := 31) ?hr ?_; (case hd => rfl); (case hg => rfl); (case hr => first | (go_simp; done) | (go_simp; rfl)); intro gb652 hg w7 hbox hb; have n0_ := Aside0.mk (below_step (by repeat first | exact HB.out | apply below_alloc | apply pw_below_drewN | apply below_drew1) hb); have n1_ := Aside0.mk (hbox); have n2_ := Aside0.mk ((by rw [hg]; exact (below_size (by repeat first | exact HB.out | apply below_alloc | apply pw_below_drewN | apply below_drew1)) : w.heap.size ≤ gb652)); have n3_ := Aside0.mk ((by rw [hg]; exact (below_size (by repeat first | exact HB.out | apply below_alloc | apply pw_below_drewN | apply below_drew1)) : w.heap.size ≤ gb652)); clear HB; have HB := n0_; have BK652 := n1_; have GW652 := n2_; have GE652 := n3_; clear n0_ n1_ n2_ n3_; clear hb hbox hg; have hcz8_0 : w7.cell? ⟨gb652, 0, none⟩ = some (.slice A0_0 l0_0.length c0_0) := (blk_cell BK652.out 0).trans rfl; have hcz8_1 : w7.cell? ⟨gb652, 1, none⟩ = some (.slice A0_1 l0_1.length c0_1) := (blk_cell BK652.out 1).trans rfl; have hfz8_0 := blk_frozen BK652.out 0; have hfz8_1 := blk_frozen BK652.out 1) | ((with_reducible refine gate_callee (f := 107) rfl ?_); refine goesL_ (some 15) rfl rfl Try.func107 (by kernel_rfl) rfl #[.agg #[.slice A0_0 l0_0.length c0_0, .slice A0_1 l0_1.length c0_1], .int .i64 a1] rfl (by (try simp only [List.map_toArray, List.map_cons, List.map_nil]); first | done | rfl | (simp only [List.length_drop, List.length_take]; rfl)) ?_; (with_reducible refine (impl_Tree_kindOf.calls _ _ l0_0 _ _ l0_1 a1 t653 _ ?side1 ?side2 ?side3 ?side4 A6.out).mono ?_); (case side1 => repeat (first | exact (Kd.C_below HR0_0.out HB.out) | (with_reducible refine Kd.C_alloc ?_ _) | (with_reducible refine Kd.C_drewN ?_ _) | (with_reducible refine Kd.C_drew ?_))); (case side2 => exact HC0_0.out); (case side3 => repeat (first | exact (Kd.C_below HR0_1.out HB.out) | (with_reducible refine Kd.C_alloc ?_ _) | (with_reducible refine Kd.C_drewN ?_ _) | (with_reducible refine Kd.C_drew ?_))); (case side4 => exact HC0_1.out); rintro e w9 ⟨rfl, hb⟩; refine ⟨_, rfl, ?_⟩; have n0_ := Aside0.mk (blk_below (g := gb652) (o := .cells #[.slice A0_0 l0_0.length c0_0, .slice A0_1 l0_1.length c0_1] 31 (0, 0)) (by (with_reducible repeat first | apply blk_drewN | apply blk_drew | apply blk_alloc); exact BK652.out) hb); have n1_ := Aside0.mk (below_step (by repeat (first | (with_reducible first | exact HB.out | apply below_alloc | apply pw_below_drewN | apply below_drew1 | refine below_set ?_ GE652.out) | exact HB.out)) hb); clear BK652; clear HB; have BK652 := n0_; have HB := n1_; clear n0_ n1_; (try clear hb); (try clear hb2); (try clear hk); (try clear hi)))
  go_loopg [1, 12] k (fun kq v1 v12 w' => ∃ (x1_1 : Int) (x12_1 : Bool), v1 = .int .i64 x1_1 ∧ v12 = .bool x12_1 ∧ Aside0 (impl_Tree_descend.l0 kq x1_1 a2 a3 a4 x12_1 l0_0 l0_1 = some (r1, r2)) ∧ Aside0 (kq ≤ k) ∧ Aside0 (w'.heap[gb652]? = some (.cells #[(.slice A0_0 l0_0.length c0_0), (.slice A0_1 l0_1.length c0_1)] 31 (0, 0))) ∧ Aside0 (Below w.heap.size w w'))
  case atStart => exact ⟨(a1), (decide (t653 ≥ 0)), (by first | rfl | (simp; done) | (simp [*]; done)), (by first | rfl | (simp; done) | (simp [*]; done)), H', ⟨Nat.le_refl _⟩, ⟨by (with_reducible repeat first | apply blk_drewN | apply blk_drew | apply blk_alloc); exact BK652.out⟩, ⟨by repeat (first | (with_reducible first | exact HB.out | apply below_alloc | apply pw_below_drewN | apply below_drew1 | refine below_set ?_ GE652.out) | exact HB.out)⟩⟩
  case round =>
    clear H'
    try clear c1
    try clear p2
    try clear c8
    try clear hcz8_0
    try clear hcz8_1
    try clear hfz8_0
    try clear hfz8_1
    obtain ⟨x1_1, x12_1, rfl, rfl, HA, HK1, BK652, HB⟩ := hrel
    cases gk with
    | zero => exact absurd HA.out (by simp [impl_Tree_descend.l0])
    | succ k1 =>
      have H := HA.out
      clear HA
      simp only [impl_Tree_descend.l0] at H
      by_cases c10 : x12_1 = true
      · subst c10
        have H1 : ((impl_Tree_kindOf.f l0_0 l0_1 x1_1).bind fun t654 => (if t654 = a2 then (some (x1_1, true)) else ((impl_Tree_chooseIn.f k1 l0_0 l0_1 x1_1 a3 a4).bind fun bt655 => (impl_Tree_descend.l0 k1 bt655.1 a2 a3 a4 bt655.2 l0_0 l0_1)))) = some (r1, r2) := by rw [if_pos rfl] at H; exact H
        clear H
        have H := H1
        clear H1
        replace H := Option.bind_eq_some_iff.mp H
        obtain ⟨t654, A110, H⟩ := H
        replace H : (if t654 = a2 then (some (x1_1, true)) else ((impl_Tree_chooseIn.f k1 l0_0 l0_1 x1_1 a3 a4).bind fun bt655 => (impl_Tree_descend.l0 k1 bt655.1 a2 a3 a4 bt655.2 l0_0 l0_1))) = some (r1, r2) := H
        have A11 := Aside0.mk A110
        clear A110
        by_cases c12 : t654 = a2
        · rw [if_pos c12] at H
          have c12b0 : (t654 == a2) = true := beq_iff_eq.mpr c12
          have c12b1 : (t654 != a2) = false := bne_eq_false_iff_eq.mpr c12
          clear c12
          simp only [Option.some.injEq, Prod.mk.injEq] at H
          obtain ⟨rfl, rfl⟩ := H
          have hcz13_0 : wr.cell? ⟨gb652, 0, none⟩ = some (.slice A0_0 l0_0.length c0_0) := (blk_cell BK652.out 0).trans rfl
          have hcz13_1 : wr.cell? ⟨gb652, 1, none⟩ = some (.slice A0_1 l0_1.length c0_1) := (blk_cell BK652.out 1).trans rfl
          have hfz13_0 := blk_frozen BK652.out 0
          have hfz13_1 := blk_frozen BK652.out 1
          go_wp2_with (first | (go_at_call 107; (with_reducible refine (impl_Tree_kindOf.calls _ _ l0_0 _ _ l0_1 x1_1 t654 _ ?side1 ?side2 ?side3 ?side4 A11.out).mono ?_); (case side1 => repeat (first | exact (Kd.C_below HR0_0.out HB.out) | (with_reducible refine Kd.C_alloc ?_ _) | (with_reducible refine Kd.C_drewN ?_ _) | (with_reducible refine Kd.C_drew ?_))); (case side2 => exact HC0_0.out); (case side3 => repeat (first | exact (Kd.C_below HR0_1.out HB.out) | (with_reducible refine Kd.C_alloc ?_ _) | (with_reducible refine Kd.C_drewN ?_ _) | (with_reducible refine Kd.C_drew ?_))); (case side4 => exact HC0_1.out); rintro e w14 ⟨rfl, hb⟩; have n0_ := Aside0.mk (blk_below (g := gb652) (o := .cells #[.slice A0_0 l0_0.length c0_0, .slice A0_1 l0_1.length c0_1] 31 (0, 0)) (by (with_reducible repeat first | apply blk_drewN | apply blk_drew | apply blk_alloc); exact BK652.out) hb); have n1_ := Aside0.mk (below_step (by repeat (first | (with_reducible first | exact HB.out | apply below_alloc | apply pw_below_drewN | apply below_drew1 | refine below_set ?_ GE652.out) | exact HB.out)) hb); clear BK652; clear HB; have BK652 := n0_; have HB := n1_; clear n0_ n1_; (try clear hb); (try clear hb2); (try clear hk); (try clear hi)))
          go_ret2
          exact ⟨by first | rfl | (simp [*, errW_none, errW_some] <;> rfl), by repeat (first | (with_reducible first | exact HB.out | apply below_alloc | apply pw_below_drewN | apply below_drew1 | refine below_set ?_ GE652.out) | exact HB.out)⟩
        · rw [if_neg c12] at H
          have c12b0 : (t654 == a2) = false := beq_eq_false_iff_ne.mpr c12
          have c12b1 : (t654 != a2) = true := bne_iff_ne.mpr c12
          replace H := Option.bind_eq_some_iff.mp H
          obtain ⟨⟨t655, t656⟩, A150, H⟩ := H
          replace H : (impl_Tree_descend.l0 k1 t655 a2 a3 a4 t656 l0_0 l0_1) = some (r1, r2) := H
          have A15 := Aside0.mk A150
          clear A150
          have H' := Aside0.mk H
          clear H
          have hcz16_0 : wr.cell? ⟨gb652, 0, none⟩ = some (.slice A0_0 l0_0.length c0_0) := (blk_cell BK652.out 0).trans rfl
          have hcz16_1 : wr.cell? ⟨gb652, 1, none⟩ = some (.slice A0_1 l0_1.length c0_1) := (blk_cell BK652.out 1).trans rfl
          have hfz16_0 := blk_frozen BK652.out 0
          have hfz16_1 := blk_frozen BK652.out 1
          go_wp2_with (first | (go_at_call 107; (with_reducible refine (impl_Tree_kindOf.calls _ _ l0_0 _ _ l0_1 x1_1 t654 _ ?side1 ?side2 ?side3 ?side4 A11.out).mono ?_); (case side1 => repeat (first | exact (Kd.C_below HR0_0.out HB.out) | (with_reducible refine Kd.C_alloc ?_ _) | (with_reducible refine Kd.C_drewN ?_ _) | (with_reducible refine Kd.C_drew ?_))); (case side2 => exact HC0_0.out); (case side3 => repeat (first | exact (Kd.C_below HR0_1.out HB.out) | (with_reducible refine Kd.C_alloc ?_ _) | (with_reducible refine Kd.C_drewN ?_ _) | (with_reducible refine Kd.C_drew ?_))); (case side4 => exact HC0_1.out); rintro e w17 ⟨rfl, hb⟩; have n0_ := Aside0.mk (blk_below (g := gb652) (o := .cells #[.slice A0_0 l0_0.length c0_0, .slice A0_1 l0_1.length c0_1] 31 (0, 0)) (by (with_reducible repeat first | apply blk_drewN | apply blk_drew | apply blk_alloc); exact BK652.out) hb); have n1_ := Aside0.mk (below_step (by repeat (first | (with_reducible first | exact HB.out | apply below_alloc | apply pw_below_drewN | apply below_drew1 | refine below_set ?_ GE652.out) | exact HB.out)) hb); clear BK652; clear HB; have BK652 := n0_; have HB := n1_; clear n0_ n1_; (try clear hb); (try clear hb2); (try clear hk); (try clear hi); have hcz18_0 : w17.cell? ⟨gb652, 0, none⟩ = some (.slice A0_0 l0_0.length c0_0) := (blk_cell BK652.out 0).trans rfl; have hcz18_1 : w17.cell? ⟨gb652, 1, none⟩ = some (.slice A0_1 l0_1.length c0_1) := (blk_cell BK652.out 1).trans rfl; have hfz18_0 := blk_frozen BK652.out 0; have hfz18_1 := blk_frozen BK652.out 1) | ((with_reducible refine gate_callee (f := 78) rfl ?_); refine goesL_ (some 30) rfl rfl Try.func78 (by kernel_rfl) rfl #[.agg #[.slice A0_0 l0_0.length c0_0, .slice A0_1 l0_1.length c0_1], .int .i64 x1_1, .int .i64 a3, .int .i64 a4] rfl (by (try simp only [List.map_toArray, List.map_cons, List.map_nil]); first | done | rfl | (simp only [List.length_drop, List.length_take]; rfl)) ?_; (with_reducible refine (impl_Tree_chooseIn.calls k1 _ _ l0_0 _ _ l0_1 x1_1 a3 a4 t655 t656 _ ?side1 ?side2 ?side3 ?side4 A15.out).mono ?_); (case side1 => repeat (first | exact (Kd.C_below HR0_0.out HB.out) | (with_reducible refine Kd.C_alloc ?_ _) | (with_reducible refine Kd.C_drewN ?_ _) | (with_reducible refine Kd.C_drew ?_))); (case side2 => exact HC0_0.out); (case side3 => repeat (first | exact (Kd.C_below HR0_1.out HB.out) | (with_reducible refine Kd.C_alloc ?_ _) | (with_reducible refine Kd.C_drewN ?_ _) | (with_reducible refine Kd.C_drew ?_))); (case side4 => exact HC0_1.out); rintro e w19 ⟨rfl, hb⟩; refine ⟨_, rfl, ?_⟩; have n0_ := Aside0.mk (blk_below (g := gb652) (o := .cells #[.slice A0_0 l0_0.length c0_0, .slice A0_1 l0_1.length c0_1] 31 (0, 0)) (by (with_reducible repeat first | apply blk_drewN | apply blk_drew | apply blk_alloc); exact BK652.out) hb); have n1_ := Aside0.mk (below_step (by repeat (first | (with_reducible first | exact HB.out | apply below_alloc | apply pw_below_drewN | apply below_drew1 | refine below_set ?_ GE652.out) | exact HB.out)) hb); clear BK652; clear HB; have BK652 := n0_; have HB := n1_; clear n0_ n1_; (try clear hb); (try clear hb2); (try clear hk); (try clear hi)))
          go_roundg k1
          case measure => have := HK1.out; omega
          case rel => exact ⟨(t655), (t656), (by first | rfl | (simp; done) | (simp [*]; done)), (by first | rfl | (simp; done) | (simp [*]; done)), H', ⟨by have := HK1.out; omega⟩, ⟨by (with_reducible repeat first | apply blk_drewN | apply blk_drew | apply blk_alloc); exact BK652.out⟩, ⟨by repeat (first | (with_reducible first | exact HB.out | apply below_alloc | apply pw_below_drewN | apply below_drew1 | refine below_set ?_ GE652.out) | exact HB.out)⟩⟩
      · replace c10 := Bool.eq_false_iff.mpr c10
        subst c10
        have H1 : (some (x1_1, false)) = some (r1, r2) := by rw [if_neg (show ¬ (false = true) by decide)] at H; exact H
        clear H
        have H := H1
        clear H1
        simp only [Option.some.injEq, Prod.mk.injEq] at H
        obtain ⟨rfl, rfl⟩ := H
        go_wp2
        go_ret2
        exact ⟨by first | rfl | (simp [*, errW_none, errW_some] <;> rfl), by repeat (first | (with_reducible first | exact HB.out | apply below_alloc | apply pw_below_drewN | apply below_drew1 | refine below_set ?_ GE652.out) | exact HB.out)⟩

end Go.Proofs.Ytkadeelplnkpgaa.Q

-- text Qf47
namespace Go.Proofs.Ytkadeelplnkpgaa.Q
open Go.RowKit Go.Proofs.YtkadeelplnkpgaaW.PrintWords Go.Proofs.YtkadeelplnkpgaaW.PrintLast Go.Proofs.YtkadeelplnkpgaaW.PrintMore
attribute [local go_sem] max2_int min2_int max_two min_two max_three min_three max_four min_four   -- for this text's walks alone
set_option linter.unusedVariables false
set_option linter.unusedSimpArgs false

/-! ### impl_Descend: function 47 -/
def impl_Descend.f (k : Nat) (l0_0 : List (S50)) (l0_1 : List (S108)) (a1 : Int) (a2 : Int) (a3 : Int) (a4 : Int) : Option (Int × Int) := (impl_TreeOk.f k l0_0 l0_1).bind fun t967 => (if t967 = true then ((impl_between.f a2 0 3).bind fun t968 => (if t968 = true then ((impl_Tree_descend.f k l0_0 l0_1 a1 a2 a3 a4).bind fun bt969 => (if bt969.2 = true then (some (bt969.1, 0)) else (some (0, 3)))) else (some (0, 2)))) else (some (0, 1)))
set_option maxHeartbeats 8000000 in
set_option maxRecDepth 100000 in
theorem impl_Descend.calls (k : Nat) (A0_0 : Option Addr) (c0_0 : Nat) (l0_0 : List (S50)) (A0_1 : Option Addr) (c0_1 : Nat) (l0_1 : List (S108)) (a1 : Int) (a2 : Int) (a3 : Int) (a4 : Int) (r1 : Int) (r2 : Int) (w : World) (hr0_0 : Kd.C k50 w A0_0 l0_0.length l0_0) (hc0_0 : l0_0.length ≤ c0_0) (hr0_1 : Kd.C k108 w A0_1 l0_1.length l0_1) (hc0_1 : l0_1.length ≤ c0_1) (h : impl_Descend.f k l0_0 l0_1 a1 a2 a3 a4 = some (r1, r2)) :
    Calls Try.prog 47 #[.agg #[.slice A0_0 l0_0.length c0_0, .slice A0_1 l0_1.length c0_1], .int .i64 a1, .int .i64 a2, .int .i64 a3, .int .i64 a4] w fun e w' => e = .returned (.tuple #[.int .i64 r1, .int .i64 r2]) ∧ Below w.heap.size w w' := by
  have hu31 := Try.underlying31
  have HR0_0 := Aside0.mk hr0_0
  have HC0_0 := Aside0.mk hc0_0
  clear hr0_0 hc0_0
  have HR0_1 := Aside0.mk hr0_1
  have HC0_1 := Aside0.mk hc0_1
  clear hr0_1 hc0_1
  have HB := Aside0.mk (Below.refl w.heap.size w)
  have H : ((impl_TreeOk.f k l0_0 l0_1).bind fun t967 => (if t967 = true then ((impl_between.f a2 0 3).bind fun t968 => (if t968 = true then ((impl_Tree_descend.f k l0_0 l0_1 a1 a2 a3 a4).bind fun bt969 => (if bt969.2 = true then (some (bt969.1, 0)) else (some (0, 3)))) else (some (0, 2)))) else (some (0, 1)))) = some (r1, r2) := h
  clear h
  replace H := Option.bind_eq_some_iff.mp H
  obtain ⟨t967, A60, H⟩ := H
  replace H : (if t967 = true then ((impl_between.f a2 0 3).bind fun t968 => (if t968 = true then ((impl_Tree_descend.f k l0_0 l0_1 a1 a2 a3 a4).bind fun bt969 => (if bt969.2 = true then (some (bt969.1, 0)) else (some (0, 3)))) else (some (0, 2)))) else (some (0, 1))) = some (r1, r2) := H
  have A6 := Aside0.mk A60
  clear A60
  by_cases c7 : t967 = true
  · subst c7
    have H1 : ((impl_between.f a2 0 3).bind fun t968 => (if t968 = true then ((impl_Tree_descend.f k l0_0 l0_1 a1 a2 a3 a4).bind fun bt969 => (if bt969.2 = true then (some (bt969.1, 0)) else (some (0, 3)))) else (some (0, 2)))) = some (r1, r2) := by rw [if_pos rfl] at H; exact H
    clear H
    have H := H1
    clear H1
    replace H := Option.bind_eq_some_iff.mp H
    obtain ⟨t968, A80, H⟩ := H
    replace H : (if t968 = true then ((impl_Tree_descend.f k l0_0 l0_1 a1 a2 a3 a4).bind fun bt969 => (if bt969.2 = true then (some (bt969.1, 0)) else (some (0, 3)))) else (some (0, 2))) = some (r1, r2) := H
    have A8 := Aside0.mk A80
    clear A80
    by_cases c9 : t968 = true
    · subst c9
      have H1 : ((impl_Tree_descend.f k l0_0 l0_1 a1 a2 a3 a4).bind fun bt969 => (if bt969.2 = true then (some (bt969.1, 0)) else (some (0, 3)))) = some (r1, r2) := by rw [if_pos rfl] at H; exact H
      clear H
      have H := H1
      clear H1
      replace H := Option.bind_eq_some_iff.mp H
      obtain ⟨⟨t969, t970⟩, A100, H⟩ := H
      replace H : (if t970 = true then (some (t969, 0)) else (some (0, 3))) = some (r1, r2) := H
      have A10 := Aside0.mk A100
      clear A100
      by_cases c11 : t970 = true
      · subst c11
        have H1 : (some (t969, 0)) = some (r1, r2) := by rw [if_pos rfl] at H; exact H
        clear H
        have H := H1
        clear H1
        simp only [Option.some.injEq, Prod.mk.injEq] at H
        obtain ⟨rfl, rfl⟩ := H
        go_enter Try.func47, Try.ntmps47
        go_wp2_with (first | ((with_reducible refine gate_dst (N := 5) rfl ?_); refine box_event ?hg (N := 5) ?hd (cs := #[.slice A0_0 l0_0.length c0_0, .slice A0_1 l0_1.length c0_1]) (t := 31) ?hr ?_; (case hd => rfl); (case hg => rfl); (case hr => first | (go_simp; done) | (go_simp; rfl)); intro gb966 hg w12 hbox hb; have n0_ := Aside0.mk (below_step (by repeat first | exact HB.out | apply below_alloc | apply pw_below_drewN | apply below_drew1) hb); have n1_ := Aside0.mk (hbox); have n2_ := Aside0.mk ((by rw [hg]; exact (below_size (by repeat first | exact HB.out | apply below_alloc | apply pw_below_drewN | apply below_drew1)) : w.heap.size ≤ gb966)); have n3_ := Aside0.mk ((by rw [hg]; exact (below_size (by repeat first | exact HB.out | apply below_alloc | apply pw_below_drewN | apply below_drew1)) : w.heap.size ≤ gb966)); clear HB; have HB := n0_; have BK966 := n1_; have GW966 := n2_; have GE966 := n3_; clear n0_ n1_ n2_ n3_; clear hb hbox hg; have hcz13_0 : w12.cell? ⟨gb966, 0, none⟩ = some (.slice A0_0 l0_0.length c0_0) := (blk_cell BK966.out 0).trans rfl; have hcz13_1 : w12.cell? ⟨gb966, 1, none⟩ = some (.slice A0_1 l0_1.length c0_1) := (blk_cell BK966.out 1).trans rfl; have hfz13_0 := blk_frozen BK966.out 0; have hfz13_1 := blk_frozen BK966.out 1) | ((with_reducible refine gate_callee (f := 54) rfl ?_); refine goesL_ (some 16) rfl rfl Try.func54 (by kernel_rfl) rfl #[.agg #[.slice A0_0 l0_0.length c0_0, .slice A0_1 l0_1.length c0_1]] rfl (by (try simp only [List.map_toArray, List.map_cons, List.map_nil]); first | done | rfl | (simp only [List.length_drop, List.length_take]; rfl)) ?_; (with_reducible refine (impl_TreeOk.calls k _ _ l0_0 _ _ l0_1 true _ ?side1 ?side2 ?side3 ?side4 A6.out).mono ?_); (case side1 => repeat (first | exact (Kd.C_below HR0_0.out HB.out) | (with_reducible refine Kd.C_alloc ?_ _) | (with_reducible refine Kd.C_drewN ?_ _) | (with_reducible refine Kd.C_drew ?_))); (case side2 => exact HC0_0.out); (case side3 => repeat (first | exact (Kd.C_below HR0_1.out HB.out) | (with_reducible refine Kd.C_alloc ?_ _) | (with_reducible refine Kd.C_drewN ?_ _) | (with_reducible refine Kd.C_drew ?_))); (case side4 => exact HC0_1.out); rintro e w14 ⟨rfl, hb⟩; refine ⟨_, rfl, ?_⟩; have n0_ := Aside0.mk (blk_below (g := gb966) (o := .cells #[.slice A0_0 l0_0.length c0_0, .slice A0_1 l0_1.length c0_1] 31 (0, 0)) (by (with_reducible repeat first | apply blk_drewN | apply blk_drew | apply blk_alloc); exact BK966.out) hb); have n1_ := Aside0.mk (below_step (by repeat (first | (with_reducible first | exact HB.out | apply below_alloc | apply pw_below_drewN | apply below_drew1 | refine below_set ?_ GE966.out) | exact HB.out)) hb); clear BK966; clear HB; have BK966 := n0_; have HB := n1_; clear n0_ n1_; (try clear hb); (try clear hb2); (try clear hk); (try clear hi)) | ((with_reducible refine gate_callee (f := 60) rfl ?_); refine goesL_ (some 20) rfl rfl Try.func60 (by kernel_rfl) rfl #[.int .i64 a2, .int .i64 0, .int .i64 3] rfl (by (try simp only [List.map_toArray, List.map_cons, List.map_nil]); first | done | rfl | (simp only [List.length_drop, List.length_take]; rfl)) ?_; (with_reducible refine (impl_between.calls a2 0 3 true _ A8.out).mono ?_); rintro e w' ⟨rfl, ⟨nd, rfl⟩⟩; refine ⟨_, rfl, ?_⟩; have hcz15_0 : w14.cell? ⟨gb966, 0, none⟩ = some (.slice A0_0 l0_0.length c0_0) := (blk_cell BK966.out 0).trans rfl; have hcz15_1 : w14.cell? ⟨gb966, 1, none⟩ = some (.slice A0_1 l0_1.length c0_1) := (blk_cell BK966.out 1).trans rfl; have hfz15_0 := blk_frozen BK966.out 0; have hfz15_1 := blk_frozen BK966.out 1) | ((with_reducible refine gate_callee (f := 87) rfl ?_); refine goesL_ (some 28) rfl rfl Try.func87 (by kernel_rfl) rfl #[.agg #[.slice A0_0 l0_0.length c0_0, .slice A0_1 l0_1.length c0_1], .int .i64 a1, .int .i64 a2, .int .i64 a3, .int .i64 a4] rfl (by (try simp only [List.map_toArray, List.map_cons, List.map_nil]); first | done | rfl | (simp only [List.length_drop, List.length_take]; rfl)) ?_; (with_reducible refine (impl_Tree_descend.calls k _ _ l0_0 _ _ l0_1 a1 a2 a3 a4 t969 true _ ?side1 ?side2 ?side3 ?side4 A10.out).mono ?_); (case side1 => repeat (first | exact (Kd.C_below HR0_0.out (by repeat (first | (with_reducible first | exact HB.out | apply below_alloc | apply pw_below_drewN | apply below_drew1 | refine below_set ?_ GE966.out) | exact HB.out))) | (with_reducible refine Kd.C_alloc ?_ _) | (with_reducible refine Kd.C_drewN ?_ _) | (with_reducible refine Kd.C_drew ?_))); (case side2 => exact HC0_0.out); (case side3 => repeat (first | exact (Kd.C_below HR0_1.out (by repeat (first | (with_reducible first | exact HB.out | apply below_alloc | apply pw_below_drewN | apply below_drew1 | refine below_set ?_ GE966.out) | exact HB.out))) | (with_reducible refine Kd.C_alloc ?_ _) | (with_reducible refine Kd.C_drewN ?_ _) | (with_reducible refine Kd.C_drew ?_))); (case side4 => exact HC0_1.out); rintro e w16 ⟨rfl, hb⟩; refine ⟨_, rfl, ?_⟩; have n0_ := Aside0.mk (blk_below (g := gb966) (o := .cells #[.slice A0_0 l0_0.length c0_0, .slice A0_1 l0_1.length c0_1] 31 (0, 0)) (by (with_reducible repeat first | apply blk_drewN | apply blk_drew | apply blk_alloc); exact BK966.out) hb); have n1_ := Aside0.mk (below_step (by repeat (first | (with_reducible first | exact HB.out | apply below_alloc | apply pw_below_drewN | apply below_drew1 | refine below_set ?_ GE966.out) | exact HB.out)) hb); clear BK966; clear HB; have BK966 := n0_; have HB := n1_; clear n0_ n1_; (try clear hb); (try clear hb2); (try clear hk); (try clear hi)))
        go_ret2
        exact ⟨by first | rfl | (simp [*, errW_none, errW_some] <;> rfl), by repeat (first | (with_reducible first | exact HB.out | apply below_alloc | apply pw_below_drewN | apply below_drew1 | refine below_set ?_ GE966.out) | exact HB.out)⟩
      · replace c11 := Bool.eq_false_iff.mpr c11
        subst c11
        have H1 : (some (0, 3)) = some (r1, r2) := by rw [if_neg (show ¬ (false = true) by decide)] at H; exact H
        clear H
        have H := H1
        clear H1
        simp only [Option.some.injEq, Prod.mk.injEq] at H
        obtain ⟨rfl, rfl⟩ := H
        go_enter Try.func47, Try.ntmps47
        go_wp2_with (first | ((with_reducible refine gate_dst (N := 5) rfl ?_); refine box_event ?hg (N := 5) ?hd (cs := #[.slice A0_0 l0_0.length c0_0, .slice A0_1 l0_1.length c0_1]) (t := 31) ?hr ?_; (case hd => rfl); (case hg => rfl); (case hr => first | (go_simp; done) | (go_simp; rfl)); intro gb966 hg w17 hbox hb; have n0_ := Aside0.mk (below_step (by repeat first | exact HB.out | apply below_alloc | apply pw_below_drewN | apply below_drew1) hb); have n1_ := Aside0.mk (hbox); have n2_ := Aside0.mk ((by rw [hg]; exact (below_size (by repeat first | exact HB.out | apply below_alloc | apply pw_below_drewN | apply below_drew1)) : w.heap.size ≤ gb966)); have n3_ := Aside0.mk ((by rw [hg]; exact (below_size (by repeat first | exact HB.out | apply below_alloc | apply pw_below_drewN | apply below_drew1)) : w.heap.size ≤ gb966)); clear HB; have HB := n0_; have BK966 := n1_; have GW966 := n2_; have GE966 := n3_; clear n0_ n1_ n2_ n3_; clear hb hbox hg; have hcz18_0 : w17.cell? ⟨gb966, 0, none⟩ = some (.slice A0_0 l0_0.length c0_0) := (blk_cell BK966.out 0).trans rfl; have hcz18_1 : w17.cell? ⟨gb966, 1, none⟩ = some (.slice A0_1 l0_1.length c0_1) := (blk_cell BK966.out 1).trans rfl; have hfz18_0 := blk_frozen BK966.out 0; have hfz18_1 := blk_frozen BK966.out 1) | ((with_reducible refine gate_callee (f := 54) rfl ?_); refine goesL_ (some 16) rfl rfl Try.func54 (by kernel_rfl) rfl #[.agg #[.slice A0_0 l0_0.length c0_0, .slice A0_1 l0_1.length c0_1]] rfl (by (try simp only [List.map_toArray, List.map_cons, List.map_nil]); first | done | rfl | (simp only [List.length_drop, List.length_take]; rfl)) ?_; (with_reducible refine (impl_TreeOk.calls k _ _ l0_0 _ _ l0_1 true _ ?side1 ?side2 ?side3 ?side4 A6.out).mono ?_); (case side1 => repeat (first | exact (Kd.C_below HR0_0.out HB.out) | (with_reducible refine Kd.C_alloc ?_ _) | (with_reducible refine Kd.C_drewN ?_ _) | (with_reducible refine Kd.C_drew ?_))); (case side2 => exact HC0_0.out); (case side3 => repeat (first | exact (Kd.C_below HR0_1.out HB.out) | (with_reducible refine Kd.C_alloc ?_ _) | (with_reducible refine Kd.C_drewN ?_ _) | (with_reducible refine Kd.C_drew ?_))); (case side4 => exact HC0_1.out); rintro e w19 ⟨rfl, hb⟩; refine ⟨_, rfl, ?_⟩; have n0_ := Aside0.mk (blk_below (g := gb966) (o := .cells #[.slice A0_0 l0_0.length c0_0, .slice A0_1 l0_1.length c0_1] 31 (0, 0)) (by (with_reducible repeat first | apply blk_drewN | apply blk_drew | apply blk_alloc); exact BK966.out) hb); have n1_ := Aside0.mk (below_step (by repeat (first | (with_reducible first | exact HB.out | apply below_alloc | apply pw_below_drewN | apply below_drew1 | refine below_set ?_ GE966.out) | exact HB.out)) hb); clear BK966; clear HB; have BK966 := n0_; have HB := n1_; clear n0_ n1_; (try clear hb); (try clear hb2); (try clear hk); (try clear hi)) | ((with_reducible refine gate_callee (f := 60) rfl ?_); refine goesL_ (some 20) rfl rfl Try.func60 (by kernel_rfl) rfl #[.int .i64 a2, .int .i64 0, .int .i64 3] rfl (by (try simp only [List.map_toArray, List.map_cons, List.map_nil]); first | done | rfl | (simp only [List.length_drop, List.length_take]; rfl)) ?_; (with_reducible refine (impl_between.calls a2 0 3 true _ A8.out).mono ?_); rintro e w' ⟨rfl, ⟨nd, rfl⟩⟩; refine ⟨_, rfl, ?_⟩; have hcz20_0 : w19.cell? ⟨gb966, 0, none⟩ = some (.slice A0_0 l0_0.length c0_0) := (blk_cell BK966.out 0).trans rfl; have hcz20_1 : w19.cell? ⟨gb966, 1, none⟩ = some (.slice A0_1 l0_1.length c0_1) := (blk_cell BK966.out 1).trans rfl; have hfz20_0 := blk_frozen BK966.out 0; have hfz20_1 := blk_frozen BK966.out 1) | ((with_reducible refine gate_callee (f := 87) rfl ?_); refine goesL_ (some 28) rfl rfl Try.func87 (by kernel_rfl) rfl #[.agg #[.slice A0_0 l0_0.length c0_0, .slice A0_1 l0_1.length c0_1], .int .i64 a1, .int .i64 a2, .int .i64 a3, .int .i64 a4] rfl (by (try simp only [List.map_toArray, List.map_cons, List.map_nil]); first | done | rfl | (simp only [List.length_drop, List.length_take]; rfl)) ?_; (with_reducible refine (impl_Tree_descend.calls k _ _ l0_0 _ _ l0_1 a1 a2 a3 a4 t969 false _ ?side1 ?side2 ?side3 ?side4 A10.out).mono ?_); (case side1 => repeat (first | exact (Kd.C_below HR0_0.out (by repeat (first | (with_reducible first | exact HB.out | apply below_alloc | apply pw_below_drewN | apply below_drew1 | refine below_set ?_ GE966.out) | exact HB.out))) | (with_reducible refine Kd.C_alloc ?_ _) | (with_reducible refine Kd.C_drewN ?_ _) | (with_reducible refine Kd.C_drew ?_))); (case side2 => exact HC0_0.out); (case side3 => repeat (first | exact (Kd.C_below HR0_1.out (by repeat (first | (with_reducible first | exact HB.out | apply below_alloc | apply pw_below_drewN | apply below_drew1 | refine below_set ?_ GE966.out) | exact HB.out))) | (with_reducible refine Kd.C_alloc ?_ _) | (with_reducible refine Kd.C_drewN ?_ _) | (with_reducible refine Kd.C_drew ?_))); (case side4 => exact HC0_1.out); rintro e w21 ⟨rfl, hb⟩; refine ⟨_, rfl, ?_⟩; have n0_ := Aside0.mk (blk_below (g := gb966) (o := .cells #[.slice A0_0 l0_0.length c0_0, .slice A0_1 l0_1.length c0_1] 31 (0, 0)) (by (with_reducible repeat first | apply blk_drewN | apply blk_drew | apply blk_alloc); exact BK966.out) hb); have n1_ := Aside0.mk (below_step (by repeat (first | (with_reducible first | exact HB.out | apply below_alloc | apply pw_below_drewN | apply below_drew1 | refine below_set ?_ GE966.out) | exact HB.out)) hb); clear BK966; clear HB; have BK966 := n0_; have HB := n1_; clear n0_ n1_; (try clear hb); (try clear hb2); (try clear hk); (try clear hi)))
        go_ret2
        exact ⟨by first | rfl | (simp [*, errW_none, errW_some] <;> rfl), by repeat (first | (with_reducible first | exact HB.out | apply below_alloc | apply pw_below_drewN | apply below_drew1 | refine below_set ?_ GE966.out) | exact HB.out)⟩
    · replace c9 := Bool.eq_false_iff.mpr c9
      subst c9
      have H1 : (some (0, 2)) = some (r1, r2) := by rw [if_neg (show ¬ (false = true) by decide)] at H; exact H
      clear H
      have H := H1
      clear H1
      simp only [Option.some.injEq, Prod.mk.injEq] at H
      obtain ⟨rfl, rfl⟩ := H
      go_enter Try.func47, Try.ntmps47
      go_wp2_with (first | ((with_reducible refine gate_dst (N := 5) rfl ?_); refine box_event ?hg (N := 5) ?hd (cs := #[.slice A0_0 l0_0.length c0_0, .slice A0_1 l0_1.length c0_1]) (t := 31) ?hr ?_; (case hd => rfl); (case hg => rfl); (case hr => first | (go_simp; done) | (go_simp; rfl)); intro gb966 hg w22 hbox hb; have n0_ := Aside0.mk (below_step (by repeat first | exact HB.out | apply below_alloc | apply pw_below_drewN | apply below_drew1) hb); have n1_ := Aside0.mk (hbox); have n2_ := Aside0.mk ((by rw [hg]; exact (below_size (by repeat first | exact HB.out | apply below_alloc | apply pw_below_drewN | apply below_drew1)) : w.heap.size ≤ gb966)); have n3_ := Aside0.mk ((by rw [hg]; exact (below_size (by repeat first | exact HB.out | apply below_alloc | apply pw_below_drewN | apply below_drew1)) : w.heap.size ≤ gb966)); clear HB; have HB := n0_; have BK966 := n1_; have GW966 := n2_; have GE966 := n3_; clear n0_ n1_ n2_ n3_; clear hb hbox hg; have hcz23_0 : w22.cell? ⟨gb966, 0, none⟩ = some (.slice A0_0 l0_0.length c0_0) := (blk_cell BK966.out 0).trans rfl; have hcz23_1 : w22.cell? ⟨gb966, 1, none⟩ = some (.slice A0_1 l0_1.length c0_1) := (blk_cell BK966.out 1).trans rfl; have hfz23_0 := blk_frozen BK966.out 0; have hfz23_1 := blk_frozen BK966.out 1) | ((with_reducible refine gate_callee (f := 54) rfl ?_); refine goesL_ (some 16) rfl rfl Try.func54 (by kernel_rfl) rfl #[.agg #[.slice A0_0 l0_0.length c0_0, .slice A0_1 l0_1.length c0_1]] rfl (by (try simp only [List.map_toArray, List.map_cons, List.map_nil]); first | done | rfl | (simp only [List.length_drop, List.length_take]; rfl)) ?_; (with_reducible refine (impl_TreeOk.calls k _ _ l0_0 _ _ l0_1 true _ ?side1 ?side2 ?side3 ?side4 A6.out).mono ?_); (case side1 => repeat (first | exact (Kd.C_below HR0_0.out HB.out) | (with_reducible refine Kd.C_alloc ?_ _) | (with_reducible refine Kd.C_drewN ?_ _) | (with_reducible refine Kd.C_drew ?_))); (case side2 => exact HC0_0.out); (case side3 => repeat (first | exact (Kd.C_below HR0_1.out HB.out) | (with_reducible refine Kd.C_alloc ?_ _) | (with_reducible refine Kd.C_drewN ?_ _) | (with_reducible refine Kd.C_drew ?_))); (case side4 => exact HC0_1.out); rintro e w24 ⟨rfl, hb⟩; refine ⟨_, rfl, ?_⟩; have n0_ := Aside0.mk (blk_below (g := gb966) (o := .cells #[.slice A0_0 l0_0.length c0_0, .slice A0_1 l0_1.length c0_1] 31 (0, 0)) (by (with_reducible repeat first | apply blk_drewN | apply blk_drew | apply blk_alloc); exact BK966.out) hb); have n1_ := Aside0.mk (below_step (by repeat (first | (with_reducible first | exact HB.out | apply below_alloc | apply pw_below_drewN | apply below_drew1 | refine below_set ?_ GE966.out) | exact HB.out)) hb); clear BK966; clear HB; have BK966 := n0_; have HB := n1_; clear n0_ n1_; (try clear hb); (try clear hb2); (try clear hk); (try clear hi)) | ((with_reducible refine gate_callee (f := 60) rfl ?_); refine goesL_ (some 20) rfl rfl Try.func60 (by kernel_rfl) rfl #[.int .i64 a2, .int .i64 0, .int .i64 3] rfl (by (try simp only [List.map_toArray, List.map_cons, List.map_nil]); first | done | rfl | (simp only [List.length_drop, List.length_take]; rfl)) ?_; (with_reducible refine (impl_between.calls a2 0 3 false _ A8.out).mono ?_); rintro e w' ⟨rfl, ⟨nd, rfl⟩⟩; refine ⟨_, rfl, ?_⟩))
      go_ret2
      exact ⟨by first | rfl | (simp [*, errW_none, errW_some] <;> rfl), by repeat (first | (with_reducible first | exact HB.out | apply below_alloc | apply pw_below_drewN | apply below_drew1 | refine below_set ?_ GE966.out) | exact HB.out)⟩
  · replace c7 := Bool.eq_false_iff.mpr c7
    subst c7
    have H1 : (some (0, 1)) = some (r1, r2) := by rw [if_neg (show ¬ (false = true) by decide)] at H; exact H
    clear H
    have H := H1
    clear H1
    simp only [Option.some.injEq, Prod.mk.injEq] at H
    obtain ⟨rfl, rfl⟩ := H
    go_enter Try.func47, Try.ntmps47
    go_wp2_with (first | ((with_reducible refine gate_dst (N := 5) rfl ?_); refine box_event ?hg (N := 5) ?hd (cs := #[.slice A0_0 l0_0.length c0_0, .slice A0_1 l0_1.length c0_1]) (t := 31) ?hr ?_; (case hd => rfl); (case hg => rfl); (case hr => first | (go_simp; done) | (go_simp; rfl)); intro gb966 hg w25 hbox hb; have n0_ := Aside0.mk (below_step (by repeat first | exact HB.out | apply below_alloc | apply pw_below_drewN | apply below_drew1) hb); have n1_ := Aside0.mk (hbox); have n2_ := Aside0.mk ((by rw [hg]; exact (below_size (by repeat first | exact HB.out | apply below_alloc | apply pw_below_drewN | apply below_drew1)) : w.heap.size ≤ gb966)); have n3_ := Aside0.mk ((by rw [hg]; exact (below_size (by repeat first | exact HB.out | apply below_alloc | apply pw_below_drewN | apply below_drew1)) : w.heap.size ≤ gb966)); clear HB; have HB := n0_; have BK966 := n1_; have GW966 := n2_; have GE966 := n3_; clear n0_ n1_ n2_ n3_; clear hb hbox hg; have hcz26_0 : w25.cell? ⟨gb966, 0, none⟩ = some (.slice A0_0 l0_0.length c0_0) := (blk_cell BK966.out 0).trans rfl; have hcz26_1 : w25.cell? ⟨gb966, 1, none⟩ = some (.slice A0_1 l0_1.length c0_1) := (blk_cell BK966.out 1).trans rfl; have hfz26_0 := blk_frozen BK966.out 0; have hfz26_1 := blk_frozen BK966.out 1) | ((with_reducible refine gate_callee (f := 54) rfl ?_); refine goesL_ (some 16) rfl rfl Try.func54 (by kernel_rfl) rfl #[.agg #[.slice A0_0 l0_0.length c0_0, .slice A0_1 l0_1.length c0_1]] rfl (by (try simp only [List.map_toArray, List.map_cons, List.map_nil]); first | done | rfl | (simp only [List.length_drop, List.length_take]; rfl)) ?_; (with_reducible refine (impl_TreeOk.calls k _ _ l0_0 _ _ l0_1 false _ ?side1 ?side2 ?side3 ?side4 A6.out).mono ?_); (case side1 => repeat (first | exact (Kd.C_below HR0_0.out HB.out) | (with_reducible refine Kd.C_alloc ?_ _) | (with_reducible refine Kd.C_drewN ?_ _) | (with_reducible refine Kd.C_drew ?_))); (case side2 => exact HC0_0.out); (case side3 => repeat (first | exact (Kd.C_below HR0_1.out HB.out) | (with_reducible refine Kd.C_alloc ?_ _) | (with_reducible refine Kd.C_drewN ?_ _) | (with_reducible refine Kd.C_drew ?_))); (case side4 => exact HC0_1.out); rintro e w27 ⟨rfl, hb⟩; refine ⟨_, rfl, ?_⟩; have n0_ := Aside0.mk (blk_below (g := gb966) (o := .cells #[.slice A0_0 l0_0.length c0_0, .slice A0_1 l0_1.length c0_1] 31 (0, 0)) (by (with_reducible repeat first | apply blk_drewN | apply blk_drew | apply blk_alloc); exact BK966.out) hb); have n1_ := Aside0.mk (below_step (by repeat (first | (with_reducible first | exact HB.out | apply below_alloc | apply pw_below_drewN | apply below_drew1 | refine below_set ?_ GE966.out) | exact HB.out)) hb); clear BK966; clear HB; have BK966 := n0_; have HB := n1_; clear n0_ n1_; (try clear hb); (try clear hb2); (try clear hk); (try clear hi)))
    go_ret2
    exact ⟨by first | rfl | (simp [*, errW_none, errW_some] <;> rfl), by repeat (first | (with_reducible first | exact HB.out | apply below_alloc | apply pw_below_drewN | apply below_drew1 | refine below_set ?_ GE966.out) | exact HB.out)⟩

end Go.Proofs.Ytkadeelplnkpgaa.Q

-- text Qf12
namespace Go.Proofs.Ytkadeelplnkpgaa.Q
open Go.RowKit Go.Proofs.YtkadeelplnkpgaaW.PrintWords Go.Proofs.YtkadeelplnkpgaaW.PrintLast Go.Proofs.YtkadeelplnkpgaaW.PrintMore
attribute [local go_sem] max2_int min2_int max_two min_two max_three min_three max_four min_four   -- for this text's walks alone
set_option linter.unusedVariables false
set_option linter.unusedSimpArgs false

/-! ### laws_FnExactDescend: function 12 -/
def laws_FnExactDescend.j0 : Nat → Bool → List (S110) → List (S106) → List (S50) → List (S108) → Option (Bool)
  | 0, _, _, _, _, _ => none
  | k + 1, x50, x972000, x972001, x988000, x988001 => if x50 = true then (some false) else ((laws_toTree.f k x972000 x972001).bind fun bt990 => ((laws_eqTree.f k x988000 x988001 bt990.1 bt990.2).bind fun t996 => (if t996 = true then (some true) else (some false))))
def laws_FnExactDescend.f (k : Nat) (l0_0 : List (S110)) (l0_1 : List (S106)) (a1 : Int) (a2 : Int) (a3 : Int) (a4 : Int) : Option (Bool) := (laws_szTree.f k l0_0 l0_1 1048576).bind fun t972 => (if t972 < 0 then (some true) else ((laws_toTree.f k l0_0 l0_1).bind fun bt973 => ((spec_Descend.f k bt973.1 bt973.2 a1 a2 a3 a4).bind fun bt979 => ((laws_toTree.f k l0_0 l0_1).bind fun bt981 => ((impl_Descend.f k bt981.1 bt981.2 a1 a2 a3 a4).bind fun bt988 => (if bt988.1 = bt979.1 then (laws_FnExactDescend.j0 k (bt988.2 != bt979.2) l0_0 l0_1 bt981.1 bt981.2) else (laws_FnExactDescend.j0 k true l0_0 l0_1 bt981.1 bt981.2)))))))
theorem pu_z12 {P : Program} {ops : Array Oper} {Q : Exit → Act → World → Prop} {md : Region.Mode} {S : World → Prop} {ds : List Nat} {oi : Oper} {fuel : Nat} {l : Array Bool} {a : Act} {w : World} (i : Nat) (N : Option Tmp) (v : Value) (l' : Array Bool) (hi : ops[i]? = some oi) (hN : oi.dst = N) (hc : anyB md ops l l' i = true)
    (hQ : ∀ c a w, Q (.panic c) (a.put oi.dst v) w → Q (.panic c) a w) (hy : Yields P ops oi v a) (a' : Act) (ha : a.put N v = a')
    (h : wpAnyLast P md ops Q S ds fuel l' a' w) : wpAnyLast P md ops Q S ds (fuel + 1) l a w := pure_ l' hi hN hc hQ hy ha h
theorem pq_z12 : (∀ (l : List Value) (i : Nat) (v : Value), l.toArray.setIfInBounds i v = (l.set i v).toArray) ∧ (∀ (x v : Value) (xs : List Value), (x :: xs).set 0 v = v :: xs) ∧ (∀ (x v : Value) (xs : List Value) (n : Nat), (x :: xs).set (n + 1) v = x :: xs.set n v) ∧ (∀ n : Int, IntKind.i64.wrap n = Go.RowKit.wrap64 n) ∧ (∀ n : Int, IntKind.i32.wrap n = Go.RowKit.wrap32 n) :=
  ⟨fun l i v => List.setIfInBounds_toArray l i v, fun _ _ _ => rfl, fun _ _ _ _ => rfl, i64_w, i32_w⟩
set_option maxHeartbeats 8000000 in
set_option maxRecDepth 100000 in
theorem laws_FnExactDescend.calls (k : Nat) (A0_0 : Option Addr) (c0_0 : Nat) (l0_0 : List (S110)) (A0_1 : Option Addr) (c0_1 : Nat) (l0_1 : List (S106)) (a1 : Int) (a2 : Int) (a3 : Int) (a4 : Int) (r : Bool) (w : World) (hr0_0 : Kd.C k110 w A0_0 l0_0.length l0_0) (hc0_0 : l0_0.length ≤ c0_0) (hr0_1 : Kd.C k106 w A0_1 l0_1.length l0_1) (hc0_1 : l0_1.length ≤ c0_1) (h : laws_FnExactDescend.f k l0_0 l0_1 a1 a2 a3 a4 = some r) :
  Calls Try.prog 12 #[.agg #[.slice A0_0 l0_0.length c0_0, .slice A0_1 l0_1.length c0_1], .int .i64 a1, .int .i64 a2, .int .i64 a3, .int .i64 a4] w fun e w' => e = .returned (.bool r) ∧ Below w.heap.size w w' := by
  have HA0 := Aside0.mk hr0_0
  have HA1 := Aside0.mk hr0_1
  have HC0 := Aside0.mk hc0_0
  have HC1 := Aside0.mk hc0_1
  have H0 := Aside0.mk h
  clear hr0_0 hr0_1 hc0_0 hc0_1 h
  unfold laws_FnExactDescend.f at H0
  go_enter Try.func12, Try.ntmps12
  go_wp2_with fail
  have BA := Aside0.mk (blk_new w (.cells #[.slice A0_0 l0_0.length c0_0, .slice A0_1 l0_1.length c0_1] 25))
  have HB := Aside0.mk (below_alloc (Below.refl w.heap.size w) (.cells #[.slice A0_0 l0_0.length c0_0, .slice A0_1 l0_1.length c0_1] 25))
  generalize (w.alloc (.cells #[.slice A0_0 l0_0.length c0_0, .slice A0_1 l0_1.length c0_1] 25)) = w1 at BA HB ⊢
  obtain ⟨t1, E1, H1⟩ := Option.bind_eq_some_iff.1 H0.out
  replace E1 := Aside0.mk E1
  replace H1 := Aside0.mk H1
  clear H0
  (with_reducible refine (laws_szTree.calls k A0_0 c0_0 l0_0 A0_1 c0_1 l0_1 1048576 t1 _ (Kd.C_below HA0.out HB.out) HC0.out (Kd.C_below HA1.out HB.out) HC1.out E1.out).mono ?_)
  rintro e w2 ⟨rfl, hb⟩
  replace BA := Aside0.mk (blk_below BA.out hb)
  replace HB := Aside0.mk (below_step HB.out hb)
  clear hb
  have hBA0 := (blk_cell BA.out 0).trans rfl
  have hBA1 := (blk_cell BA.out 1).trans rfl
  by_cases d1 : t1 < 0
  case pos =>
    have HF := Aside0.mk (show r = true from by have := H1.out; rw [if_pos d1] at this; exact (Option.some.inj this).symm)
    have db := decide_eq_true d1
    clear d1
    go_wp2_with fail
    go_ret
    exact ⟨by rw [HF.out]; rfl, HB.out⟩
  replace H1 := Aside0.mk (by have := H1.out; rwa [if_neg d1] at this)
  have db1 := decide_eq_false d1
  clear d1
  go_wp2_with fail
  clear db1
  obtain ⟨⟨D2, B2⟩, E2, H2⟩ := Option.bind_eq_some_iff.1 H1.out
  replace E2 := Aside0.mk E2
  replace H2 := Aside0.mk H2
  clear H1
  (with_reducible refine (toTreeC.calls k A0_0 c0_0 l0_0 A0_1 c0_1 l0_1 D2 B2 _ (Kd.C_below HA0.out HB.out) HC0.out (Kd.C_below HA1.out HB.out) HC1.out E2.out).mono ?_)
  rintro e w12 ⟨P0, p0, P1, p1, rfl, TP, hb⟩
  clear hBA0 hBA1
  replace BA := Aside0.mk (blk_below BA.out hb)
  replace HB := Aside0.mk (below_step HB.out hb)
  clear hb
  have hBA0 := (blk_cell BA.out 0).trans rfl
  have hBA1 := (blk_cell BA.out 1).trans rfl
  replace TP := Aside0.mk TP
  go_wp2_with fail
  obtain ⟨⟨s, s2⟩, E3, H3⟩ := Option.bind_eq_some_iff.1 H2.out
  replace E3 := Aside0.mk E3
  replace H3 := Aside0.mk H3
  clear H2
  (with_reducible refine (spec_Descend.calls k P0 p0 D2 P1 p1 B2 a1 a2 a3 a4 s s2 _ TP.out.d TP.out.hd TP.out.b TP.out.hb E3.out).mono ?_)
  rintro e w13 ⟨rfl, hb⟩
  clear hBA0 hBA1
  replace BA := Aside0.mk (blk_below BA.out hb)
  replace HB := Aside0.mk (below_step HB.out hb)
  replace TP := Aside0.mk (TP.out.below hb)
  clear hb
  have hBA0 := (blk_cell BA.out 0).trans rfl
  have hBA1 := (blk_cell BA.out 1).trans rfl
  go_wp2_with fail
  clear TP
  obtain ⟨⟨D4, B4⟩, E4, H4⟩ := Option.bind_eq_some_iff.1 H3.out
  replace E4 := Aside0.mk E4
  replace H4 := Aside0.mk H4
  clear H3
  (with_reducible refine (toTreeC.calls k A0_0 c0_0 l0_0 A0_1 c0_1 l0_1 D4 B4 _ (Kd.C_below HA0.out HB.out) HC0.out (Kd.C_below HA1.out HB.out) HC1.out E4.out).mono ?_)
  rintro e w14 ⟨X0, x0, X1, x1, rfl, TX, hb⟩
  clear hBA0 hBA1
  replace BA := Aside0.mk (blk_below BA.out hb)
  replace HB := Aside0.mk (below_step HB.out hb)
  clear hb
  have hBA0a := fun o => (blk_cell (blk_alloc BA.out o) 0).trans rfl
  have hBA1a := fun o => (blk_cell (blk_alloc BA.out o) 1).trans rfl
  have hBA0 := (blk_cell BA.out 0).trans rfl
  have hBA1 := (blk_cell BA.out 1).trans rfl
  replace TX := Aside0.mk TX
  go_wp2_with fail
  have hb := below_alloc (Below.refl w14.heap.size w14) (.cells #[.slice X0 D4.length x0, .slice X1 B4.length x1] 31)
  have BX := Aside0.mk (blk_new w14 (.cells #[.slice X0 D4.length x0, .slice X1 B4.length x1] 31))
  clear hBA0 hBA1
  clear hBA0a hBA1a
  replace BA := Aside0.mk (blk_below BA.out hb)
  replace HB := Aside0.mk (below_step HB.out hb)
  replace TX := Aside0.mk (TX.out.below hb)
  clear hb
  generalize (w14.alloc (.cells #[.slice X0 D4.length x0, .slice X1 B4.length x1] 31)) = wx at BA HB TX BX ⊢
  generalize w14.heap.size = gx at BX ⊢
  have hBA0 := (blk_cell BA.out 0).trans rfl
  have hBA1 := (blk_cell BA.out 1).trans rfl
  have hBX0 := (blk_cell BX.out 0).trans rfl
  have hBX1 := (blk_cell BX.out 1).trans rfl
  obtain ⟨⟨v, v2⟩, E5, H5⟩ := Option.bind_eq_some_iff.1 H4.out
  replace E5 := Aside0.mk E5
  replace H5 := Aside0.mk H5
  clear H4
  (with_reducible refine (impl_Descend.calls k X0 x0 D4 X1 x1 B4 a1 a2 a3 a4 v v2 _ TX.out.d TX.out.hd TX.out.b TX.out.hb E5.out).mono ?_)
  rintro e w15 ⟨rfl, hb⟩
  clear hBA0 hBA1 hBX0 hBX1
  replace BA := Aside0.mk (blk_below BA.out hb)
  replace HB := Aside0.mk (below_step HB.out hb)
  replace TX := Aside0.mk (TX.out.below hb)
  replace BX := Aside0.mk (blk_below BX.out hb)
  clear hb
  have hBA0 := (blk_cell BA.out 0).trans rfl
  have hBA1 := (blk_cell BA.out 1).trans rfl
  have hBX0 := (blk_cell BX.out 0).trans rfl
  have hBX1 := (blk_cell BX.out 1).trans rfl
  cases k with
  | zero =>
    exact absurd H5.out (by simp [laws_FnExactDescend.j0])
  | succ k0 =>
  by_cases dv : v = s
  case neg =>
    have HF := Aside0.mk (show r = false from by have := H5.out; rw [if_neg dv] at this; simpa [laws_FnExactDescend.j0] using this.symm)
    have dv1 : (v == s) = false := by simpa using dv
    have dv2 : (v != s) = true := by simpa using dv
    clear dv
    go_wp2_with fail
    go_ret
    exact ⟨by rw [HF.out]; rfl, HB.out⟩
  subst dv
  by_cases dw : v2 = s2
  case neg =>
    have HF := Aside0.mk (show r = false from by have := H5.out; rw [if_pos rfl] at this; simpa [laws_FnExactDescend.j0, dw] using this.symm)
    have dw1 : (v2 == s2) = false := by simpa using dw
    have dw2 : (v2 != s2) = true := by simpa using dw
    clear dw
    go_wp2_with fail
    go_ret
    exact ⟨by rw [HF.out]; rfl, HB.out⟩
  subst dw
  replace H5 := Aside0.mk (by have := H5.out; simpa only [laws_FnExactDescend.j0, if_true, bne_self_eq_false, Bool.false_eq_true, if_false] using this)
  go_wp2_with fail
  obtain ⟨⟨D6, B6⟩, E6, H6⟩ := Option.bind_eq_some_iff.1 H5.out
  replace E6 := Aside0.mk E6
  replace H6 := Aside0.mk H6
  clear H5
  obtain ⟨qt, E7, H7⟩ := Option.bind_eq_some_iff.1 H6.out
  replace E7 := Aside0.mk E7
  replace H7 := Aside0.mk H7
  clear H6
  have HK := Aside0.mk (show ∀ w', Below w15.heap.size w15 w' → (fun w' => w'.cell? ⟨w.heap.size, 0, none⟩ = some (.slice A0_0 l0_0.length c0_0) ∧ w'.cell? ⟨w.heap.size, 1, none⟩ = some (.slice A0_1 l0_1.length c0_1) ∧ w'.cell? ⟨gx, 0, none⟩ = some (.slice X0 D4.length x0) ∧ w'.cell? ⟨gx, 1, none⟩ = some (.slice X1 B4.length x1) ∧ Below w15.heap.size w15 w') w' from fun w' h => ⟨(h.cell (blk_lt BA.out)).trans hBA0, (h.cell (blk_lt BA.out)).trans hBA1, (h.cell (blk_lt BX.out)).trans hBX0, (h.cell (blk_lt BX.out)).trans hBX1, h⟩)
  go_region_held3 (fun w' => w'.cell? ⟨w.heap.size, 0, none⟩ = some (.slice A0_0 l0_0.length c0_0) ∧ w'.cell? ⟨w.heap.size, 1, none⟩ = some (.slice A0_1 l0_1.length c0_1) ∧ w'.cell? ⟨gx, 0, none⟩ = some (.slice X0 D4.length x0) ∧ w'.cell? ⟨gx, 1, none⟩ = some (.slice X1 B4.length x1) ∧ Below w15.heap.size w15 w') (first | exact HK.out _ hbb | exact HK.out _ (below_drew1 (Below.refl _ _)) | exact HK.out _ (Below.refl _ _)) (first | (go_at_call 15; go_split_ands; (with_reducible refine (toTreeC.calls k0 A0_0 c0_0 l0_0 A0_1 c0_1 l0_1 D6 B6 _ (Kd.C_below HA0.out (below_step HB.out (show Below w15.heap.size w15 _ by assumption))) HC0.out (Kd.C_below HA1.out (below_step HB.out (show Below w15.heap.size w15 _ by assumption))) HC1.out E6.out).mono ?_); rintro e wz ⟨Z0, z0, Z1, z1, rfl, TZ, hb⟩; have hbb : Below w15.heap.size w15 _ := below_step (by assumption) hb) | (go_at_call 17; go_split_ands; (with_reducible refine (laws_eqTree.calls k0 X0 x0 D4 X1 x1 B4 Z0 z0 D6 Z1 z1 B6 qt _ (TX.out.below (show Below w15.heap.size w15 _ by assumption)).d TX.out.hd (TX.out.below (show Below w15.heap.size w15 _ by assumption)).b TX.out.hb TZ.d TZ.hd TZ.b TZ.hb E7.out).mono ?_); rintro e wy ⟨rfl, hb⟩; have hbb : Below w15.heap.size w15 _ := below_step (by assumption) hb))
  have hb := hbb
  clear hBA0 hBA1 hBX0 hBX1
  replace BA := Aside0.mk (blk_below BA.out hb)
  replace HB := Aside0.mk (below_step HB.out hb)
  replace TX := Aside0.mk (TX.out.below hb)
  replace BX := Aside0.mk (blk_below BX.out hb)
  clear hb HK
  clear TZ
  have hBA0 := (blk_cell BA.out 0).trans rfl
  have hBA1 := (blk_cell BA.out 1).trans rfl
  have hBX0 := (blk_cell BX.out 0).trans rfl
  have hBX1 := (blk_cell BX.out 1).trans rfl
  cases qt with
  | false =>
    have HF := Aside0.mk (show r = false from by have := H7.out; rw [if_neg (by decide)] at this; exact (Option.some.inj this).symm)
    go_wp2_with fail
    go_ret
    exact ⟨by rw [HF.out]; rfl, HB.out⟩
  | true =>
  have HF := Aside0.mk (show r = true from by have := H7.out; rw [if_pos rfl] at this; exact (Option.some.inj this).symm)
  go_wp2_with fail
  go_ret
  exact ⟨by rw [HF.out]; rfl, HB.out⟩
end Go.Proofs.Ytkadeelplnkpgaa.Q

-- text OLoop
namespace Go.Proofs.Ytkadeelplnkpgaa.Pure
open Go.RowKit Go.Proofs.YtkadeelplnkpgaaW.PrintWords Go.Proofs.YtkadeelplnkpgaaW.PrintLast Go.Proofs.YtkadeelplnkpgaaW.PrintMore
set_option linter.unusedVariables false
set_option linter.unusedSimpArgs false

theorem up64 (i n : Nat) (h : i < n) (hn : n ≤ 9223372036854775807) : wrap64 ((i : Int) + 1) = ((i + 1 : Nat) : Int) := by unfold wrap64; omega
/-- A loop over i from 0 to n: an invariant, and what is known of the answer. -/
theorem loop_from {σ ρ : Type} (n : Nat) (L : Nat → σ → Int → Option ρ) (I : Nat → σ → Prop) (Post : ρ → Prop)
    (hs : ∀ (i : Nat) s, i < n → I i s → (∃ r, Post r ∧ Ev (fun k => L k s (i : Int)) r) ∨ ∃ s', I (i + 1) s' ∧ ∀ r, Ev (fun k => L k s' ((i + 1 : Nat) : Int)) r → Ev (fun k => L k s (i : Int)) r)
    (he : ∀ s, I n s → ∃ r, Post r ∧ Ev (fun k => L k s (n : Int)) r) : ∀ (d i : Nat) s, i + d = n → I i s → ∃ r, Post r ∧ Ev (fun k => L k s (i : Int)) r
  | 0, i, s, hd, hI => by
    obtain rfl : i = n := by omega
    exact he s hI
  | d + 1, i, s, hd, hI => by
    rcases hs i s (by omega) hI with h | ⟨s', hI', h⟩
    · exact h
    · obtain ⟨r, hr, hE⟩ := loop_from n L I Post hs he d (i + 1) s' (by omega) hI'
      exact ⟨r, hr, h r hE⟩
theorem loop_up {σ ρ : Type} (n : Nat) (L : Nat → σ → Int → Option ρ) (I : Nat → σ → Prop) (Post : ρ → Prop)
    (hs : ∀ (i : Nat) s, i < n → I i s → (∃ r, Post r ∧ Ev (fun k => L k s (i : Int)) r) ∨ ∃ s', I (i + 1) s' ∧ ∀ r, Ev (fun k => L k s' ((i + 1 : Nat) : Int)) r → Ev (fun k => L k s (i : Int)) r)
    (he : ∀ s, I n s → ∃ r, Post r ∧ Ev (fun k => L k s (n : Int)) r) (s : σ) (h0 : I 0 s) : ∃ r, Post r ∧ Ev (fun k => L k s 0) r :=
  loop_from n L I Post hs he n 0 s (by omega) h0
/-- The same where one answer is told. -/
theorem loop_is {σ ρ : Type} (n : Nat) (L : Nat → σ → Int → Option ρ) (I : Nat → σ → Prop) (a : ρ)
    (hs : ∀ (i : Nat) s, i < n → I i s → Ev (fun k => L k s (i : Int)) a ∨ ∃ s', I (i + 1) s' ∧ ∀ r, Ev (fun k => L k s' ((i + 1 : Nat) : Int)) r → Ev (fun k => L k s (i : Int)) r)
    (he : ∀ s, I n s → Ev (fun k => L k s (n : Int)) a) (s : σ) (h0 : I 0 s) : Ev (fun k => L k s 0) a := by
  obtain ⟨r, hr, hE⟩ := loop_up n L I (· = a) (fun i s hi hI => (hs i s hi hI).imp (fun h => ⟨a, rfl, h⟩) id) (fun s hI => ⟨a, rfl, he s hI⟩) s h0
  exact hr ▸ hE
theorem ev_some {α : Type} {g : Nat → Option α} {r : α} (h : ∀ k, g k = some r) : Ev g r := ⟨0, fun k _ => h k⟩
theorem ev_next {α : Type} {g f : Nat → Option α} (h : ∀ k, g (k + 1) = f k) : ∀ r, Ev f r → Ev g r := fun _ k => Ev.step h k
theorem ev_end {α : Type} {g : Nat → Option α} {r : α} (h : ∀ k, g (k + 1) = some r) : Ev g r := Ev.step h (Ev.now r)
theorem ev_of {α : Type} {g : Nat → Option α} {r : α} {K : Nat} (h : ∀ k, K ≤ k → g k = some r) : Ev g r := ⟨K, h⟩
theorem ev_then1 {α : Type} {g : Nat → Option α} {r : α} (h : Ev g r) : Ev (fun k => (g k).bind fun t => some t) r := Ev.bind h (Ev.now r)
/-- what is bound comes to the same -/
theorem ev_bind_some {α β : Type} {a : α} {f : Nat → α → Option β} {r : β} (k : Ev (fun n => f n a) r) : Ev (fun n => (some a).bind (f n)) r := k

theorem take_set {α : Type} (l y : List α) (i : Nat) (v : α) (hl : y.length = l.length) (hi : i < l.length) (hv : v = l[i]) (h : y.take i = l.take i) : (y.set i v).take (i + 1) = l.take (i + 1) := by
  rw [List.take_succ_eq_append_getElem (by rw [List.length_set]; omega), List.take_succ_eq_append_getElem hi]
  congr 1
  · rw [List.take_set_of_le (by omega)]; exact h
  · simp [hv]
theorem take_all {α : Type} (l y : List α) (n : Nat) (hl : y.length = n) (hn : l.length = n) (h : y.take n = l.take n) : y = l := by
  rw [List.take_of_length_le (by omega), List.take_of_length_le (by omega)] at h
  exact h
theorem getD_get {α : Type} (l : List α) (i : Nat) (z : α) (h : i < l.length) : l.getD i z = l[i] := by
  rw [List.getD_eq_getElem?_getD, List.getElem?_eq_getElem h]; rfl
theorem map_loop {α β : Type} (L : Nat → List β → Int → Option (List β)) (l : List α) (c : α → β)
    (hs : ∀ (i : Nat) (h : i < l.length) y, y.length = l.length → ∀ r, Ev (fun k => L k (y.set i (c l[i])) ((i + 1 : Nat) : Int)) r → Ev (fun k => L k y (i : Int)) r)
    (he : ∀ k y, L (k + 1) y (l.length : Int) = some y) (y : List β) (hy : y.length = l.length) : Ev (fun k => L k y 0) (l.map c) := by
  refine loop_is l.length L (fun i y => y.length = l.length ∧ y.take i = (l.map c).take i) _ ?_ ?_ y ⟨hy, by simp⟩
  · intro i s hi ⟨h1, h2⟩
    exact .inr ⟨s.set i (c l[i]), ⟨by rw [List.length_set]; exact h1, take_set (l.map c) s i _ (by simpa using h1) (by simpa using hi) (by simp) h2⟩, hs i hi s h1⟩
  · intro s ⟨h1, h2⟩
    have e := take_all (l.map c) s l.length h1 (by simp) h2
    exact e ▸ ev_end (fun k => he k s)
theorem eq_loop (n : Nat) (L : Nat → Int → Option Bool) (hs : ∀ i : Nat, i < n → ∀ r, Ev (fun k => L k ((i + 1 : Nat) : Int)) r → Ev (fun k => L k (i : Int)) r) (he : ∀ k, L (k + 1) (n : Int) = some true) : Ev (fun k => L k 0) true :=
  loop_is n (fun k (_ : Unit) i => L k i) (fun _ _ => True) true (fun i _ hi _ => .inr ⟨(), trivial, hs i hi⟩) (fun _ _ => ev_end he) () trivial
theorem same_loop {α : Type} [DecidableEq α] (a b : List α) (hl : a.length = b.length) (L : Nat → Int → Option Bool)
    (hs : ∀ k (i : Nat) (h : i < a.length) (h' : i < b.length), L (k + 1) (i : Int) = if a[i] = b[i] then L k ((i + 1 : Nat) : Int) else some false) (he : ∀ k, L (k + 1) (a.length : Int) = some true) : Ev (fun k => L k 0) (decide (a = b)) := by
  refine loop_is a.length (fun k (_ : Unit) i => L k i) (fun i _ => a.take i = b.take i) _ ?_ ?_ () (by simp)
  · intro i _ hi hI
    have hi' : i < b.length := by omega
    by_cases c : a[i] = b[i]
    · refine .inr ⟨(), ?_, ev_next (fun k => ?_)⟩
      · rw [List.take_succ_eq_append_getElem hi, List.take_succ_eq_append_getElem hi', hI, c]
      · rw [hs k i hi hi', if_pos c]
    · left
      rw [decide_eq_false (fun e => c (by subst e; rfl))]
      exact ev_end (fun k => by rw [hs k i hi hi', if_neg c])
  · intro _ hI
    rw [List.take_length, hl, List.take_length] at hI
    rw [decide_eq_true hI]
    exact ev_end he
/-- numbers from c on -/
def cnt (c n : Nat) : List Int := (List.range n).map fun j => ((c + j : Nat) : Int)
theorem cnt_length (c n : Nat) : (cnt c n).length = n := by simp [cnt]
theorem cnt_get (c n i : Nat) (h : i < (cnt c n).length) : (cnt c n)[i] = ((c + i : Nat) : Int) := by simp [cnt]
theorem mark_loop (n c : Nat) (hc : c + n ≤ 4611686018427387904) (L : Nat → List Int × Int → Int → Option (Int × List Int))
    (hs : ∀ k (i : Nat) x (m : Nat), i < n → x.length = n → m ≤ 4611686018427387904 → L (k + 1) (x, (m : Int)) (i : Int) = L k (x.set i (m : Int), ((m + 1 : Nat) : Int)) ((i + 1 : Nat) : Int))
    (he : ∀ k x m, x.length = n → L (k + 1) (x, m) (n : Int) = some (m, x)) (x : List Int) (hx : x.length = n) : Ev (fun k => L k (x, (c : Int)) 0) (((c + n : Nat) : Int), cnt c n) := by
  refine loop_is n L (fun i s => s.1.length = n ∧ s.2 = ((c + i : Nat) : Int) ∧ s.1.take i = (cnt c n).take i) _ ?_ ?_ (x, (c : Int)) ⟨hx, by simp, by simp⟩
  · rintro i ⟨x, m⟩ hi ⟨h1, h2, h3⟩
    simp only at h1 h2 h3
    subst h2
    exact .inr ⟨(x.set i ((c + i : Nat) : Int), ((c + i + 1 : Nat) : Int)), ⟨by simpa using h1, rfl, take_set (cnt c n) x i _ (by rw [cnt_length]; exact h1) (by rw [cnt_length]; exact hi) (by rw [cnt_get]) h3⟩, ev_next (fun k => hs k i x (c + i) hi h1 (by omega))⟩
  · rintro ⟨x, m⟩ ⟨h1, h2, h3⟩
    simp only at h1 h2 h3
    have e := take_all (cnt c n) x n h1 (cnt_length c n) h3
    subst h2 e
    exact ev_end (fun k => he k _ _ h1)
theorem held_loop (n c : Nat) (hc : c + n ≤ 4611686018427387904) (L : Nat → Int → Int → Option Int)
    (hs : ∀ k (i : Nat), i < n → L (k + 1) ((c + i : Nat) : Int) (i : Int) = L k ((c + i + 1 : Nat) : Int) ((i + 1 : Nat) : Int))
    (he : ∀ k m, L (k + 1) m (n : Int) = some m) : Ev (fun k => L k (c : Int) 0) ((c + n : Nat) : Int) := by
  refine loop_is n L (fun i s => s = ((c + i : Nat) : Int)) _ ?_ ?_ (c : Int) (by simp)
  · rintro i _ hi rfl
    exact .inr ⟨((c + i + 1 : Nat) : Int), rfl, ev_next (fun k => hs k i hi)⟩
  · rintro _ rfl
    exact ev_end (fun k => he k _)
/-- marking rows of several numbers: how far it counts -/
theorem count_loop {α : Type} (n c w : Nat) (L : Nat → List α × Int → Int → Option (Int × List α))
    (hs : ∀ (i : Nat) x (m : Nat), i < n → x.length = n → m ≤ c + w * n → ∃ x' : List α, x'.length = n ∧ ∀ k, L (k + 1) (x, (m : Int)) (i : Int) = L k (x', ((m + w : Nat) : Int)) ((i + 1 : Nat) : Int))
    (he : ∀ k x m, x.length = n → L (k + 1) (x, m) (n : Int) = some (m, x)) (x : List α) (hx : x.length = n) : ∃ x', Ev (fun k => L k (x, (c : Int)) 0) (((c + w * n : Nat) : Int), x') := by
  obtain ⟨r, hr, hE⟩ := loop_up n L (fun i s => s.1.length = n ∧ s.2 = ((c + w * i : Nat) : Int)) (fun r : Int × List α => r.1 = ((c + w * n : Nat) : Int)) (by
    rintro i ⟨x, m⟩ hi ⟨h1, h2⟩
    simp only at h1 h2
    subst h2
    have hle : w * i ≤ w * n := Nat.mul_le_mul_left _ (by omega)
    obtain ⟨x', g1, g2⟩ := hs i x (c + w * i) hi h1 (by omega)
    exact .inr ⟨(x', ((c + w * i + w : Nat) : Int)), ⟨g1, by simp only [Nat.mul_add, Nat.mul_one, Nat.add_assoc]⟩, ev_next g2⟩) (by
    rintro ⟨x, m⟩ ⟨h1, h2⟩
    simp only at h1 h2
    subst h2
    exact ⟨_, rfl, ev_end (fun k => he k _ _ h1)⟩) (x, (c : Int)) ⟨hx, by simp⟩
  obtain ⟨a, b⟩ := r
  simp only at hr
  subst hr
  exact ⟨b, hE⟩

end Go.Proofs.Ytkadeelplnkpgaa.Pure

-- text OLInt
namespace Go.Proofs.Ytkadeelplnkpgaa.Pure
open Go.RowKit Go.Proofs.Ytkadeelplnkpgaa.Q Go.Proofs.YtkadeelplnkpgaaW.PrintWords Go.Proofs.YtkadeelplnkpgaaW.PrintLast Go.Proofs.YtkadeelplnkpgaaW.PrintMore
set_option linter.unusedVariables false
set_option linter.unusedSimpArgs false

theorem rd_get (l : List Int) (i : Nat) (h : i < l.length) : rd l (i : Int) = l[i] := by
  unfold rd
  rw [Int.toNat_natCast, getD_get l i 0 h]
theorem toInt64S_ev (l : List Int) (hl : l.length ≤ 1048576) : Ev (fun k => laws_toInt64S.f k l) l := by
  have h := map_loop (fun k y i => laws_toInt64S.l0 k l y i) l id (fun i hi y hy => ev_next (fun k => by
    simp only [laws_toInt64S.l0]
    rw [if_pos (by omega), if_pos (by omega), if_pos (by omega), up64 i l.length hi (by omega), Int.toNat_natCast, rd_get l i hi]
    rfl)) (fun k y => by simp only [laws_toInt64S.l0]; rw [if_neg (by omega)]) (List.replicate ((l.length : Int) : Int).toNat 0) (by simp)
  rw [List.map_id] at h
  refine Ev.congr (fun k => ?_) h
  unfold laws_toInt64S.f
  rw [if_pos (by omega), if_pos (by omega)]
theorem eqInt64S_ev (l : List Int) (hl : l.length ≤ 9223372036854775807) : Ev (fun k => laws_eqInt64S.f k l l) true := by
  refine Ev.congr (fun k => ?_) (eq_loop l.length (fun k i => laws_eqInt64S.l0 k l l i) (fun i hi => ev_next (fun k => by
    simp only [laws_eqInt64S.l0]
    rw [if_pos (by omega), if_pos (by omega), if_pos (by omega), if_pos trivial, up64 i l.length hi hl])) (fun k => by simp only [laws_eqInt64S.l0]; rw [if_neg (by omega)]))
  unfold laws_eqInt64S.f
  rw [if_pos rfl]

end Go.Proofs.Ytkadeelplnkpgaa.Pure

-- text OLTree
namespace Go.Proofs.Ytkadeelplnkpgaa.Pure
open Go.RowKit Go.Proofs.Ytkadeelplnkpgaa.Q Go.Proofs.Ytkadeelplnkpgaa.Opens Go.Proofs.YtkadeelplnkpgaaW.PrintWords Go.Proofs.YtkadeelplnkpgaaW.PrintLast Go.Proofs.YtkadeelplnkpgaaW.PrintMore
set_option linter.unusedVariables false
set_option linter.unusedSimpArgs false

def devOf (x : S110) : S50 := ⟨x.f0, x.f1⟩
def bktOf (x : S106) : S108 := ⟨x.f0, x.f1, x.f2⟩
theorem rd_devL (l : List S110) (i : Nat) (h : i < l.length) : rd_T110 l (i : Int) = l[i] := by
  unfold rd_T110
  rw [Int.toNat_natCast, getD_get l i _ h]
theorem rd_dev (l : List S50) (i : Nat) (h : i < l.length) : rd_T50 l (i : Int) = l[i] := by
  unfold rd_T50
  rw [Int.toNat_natCast, getD_get l i _ h]
theorem rd_bktL (l : List S106) (i : Nat) (h : i < l.length) : rd_T106 l (i : Int) = l[i] := by
  unfold rd_T106
  rw [Int.toNat_natCast, getD_get l i _ h]
theorem rd_bkt (l : List S108) (i : Nat) (h : i < l.length) : rd_T108 l (i : Int) = l[i] := by
  unfold rd_T108
  rw [Int.toNat_natCast, getD_get l i _ h]
theorem toDeviceS_ev (l : List S110) (hl : l.length ≤ 1048576) : Ev (fun k => laws_toDeviceS.f k l) (l.map devOf) := by
  have h := map_loop (fun k y i => laws_toDeviceS.l0 k l y i) l devOf (fun i hi y hy => ev_next (fun k => by
    simp only [laws_toDeviceS.l0, laws_toDevice.f, Option.bind_some]
    rw [if_pos (by omega), if_pos (by omega), if_pos (by omega), up64 i l.length hi (by omega), Int.toNat_natCast, rd_devL l i hi]
    all_goals exact rfl)) (fun k y => by simp only [laws_toDeviceS.l0]; rw [if_neg (by omega)]) (List.replicate ((l.length : Int) : Int).toNat z50) (by simp)
  refine Ev.congr (fun k => ?_) h
  unfold laws_toDeviceS.f
  rw [if_pos (by omega), if_pos (by omega)]
theorem toBucketS_ev (l : List S106) (hl : l.length ≤ 1048576) (hb : ∀ x ∈ l, x.f2.length ≤ 1048576) : Ev (fun k => laws_toBucketS.f k l) (l.map bktOf) := by
  have h := map_loop (fun k y i => laws_toBucketS.l0 k l y i) l bktOf (fun i hi y hy => fun r hr => by
    refine Ev.step (f := ?f) (fun k => ?_) ?_
    rotate_left
    · simp only [laws_toBucketS.l0]
      rw [if_pos (by omega), if_pos (by omega), rd_bktL l i hi, up64 i l.length hi (by omega), Int.toNat_natCast]
      all_goals exact rfl
    · refine Ev.bind (a := (l[i].f0, l[i].f1, l[i].f2)) ?_ ?_
      · unfold laws_toBucket.f
        exact Ev.bind (toInt64S_ev _ (hb _ (List.getElem_mem hi))) (Ev.now _)
      · refine Ev.congr (fun k => ?_) hr
        rw [if_pos (by omega)]
        rfl) (fun k y => by simp only [laws_toBucketS.l0]; rw [if_neg (by omega)]) (List.replicate ((l.length : Int) : Int).toNat z108) (by simp)
  refine Ev.congr (fun k => ?_) h
  unfold laws_toBucketS.f
  rw [if_pos (by omega), if_pos (by omega)]
theorem eqDeviceS_ev (l : List S50) (hl : l.length ≤ 9223372036854775807) : Ev (fun k => laws_eqDeviceS.f k l l) true := by
  refine Ev.congr (fun k => ?_) (eq_loop l.length (fun k i => laws_eqDeviceS.l0 k l l i) (fun i hi => ev_next (fun k => by
    simp only [laws_eqDeviceS.l0, laws_eqDevice.f, Option.bind_some, if_true]
    rw [if_pos (by omega), if_pos (by omega), if_pos (by omega), up64 i l.length hi hl])) (fun k => by simp only [laws_eqDeviceS.l0]; rw [if_neg (by omega)]))
  unfold laws_eqDeviceS.f
  rw [if_pos rfl]
theorem eqBucketS_ev (l : List S108) (hl : l.length ≤ 9223372036854775807) (hb : ∀ x ∈ l, x.f2.length ≤ 9223372036854775807) : Ev (fun k => laws_eqBucketS.f k l l) true := by
  refine Ev.congr (fun k => ?_) (eq_loop l.length (fun k i => laws_eqBucketS.l0 k l l i) (fun i hi => fun r hr => by
    refine Ev.step (f := ?f) (fun k => ?_) ?_
    rotate_left
    · simp only [laws_eqBucketS.l0]
      rw [if_pos (by omega), if_pos (by omega), if_pos (by omega), up64 i l.length hi hl, rd_bkt l i hi]
      all_goals exact rfl
    · refine Ev.bind (a := true) ?_ (Ev.congr (fun k => if_pos rfl) hr)
      unfold laws_eqBucket.f
      simp only [if_true]
      exact Ev.bind (eqInt64S_ev _ (hb _ (List.getElem_mem hi))) (ev_some fun k => if_pos rfl)) (fun k => by simp only [laws_eqBucketS.l0]; rw [if_neg (by omega)]))
  unfold laws_eqBucketS.f
  rw [if_pos rfl]
theorem szInt64S_left (l : List Int) (left : Int) (hl : l.length ≤ 9223372036854775807) (h0 : 0 ≤ left) (h1 : left ≤ 1048576) : laws_szInt64S.f l left = some (if (l.length : Int) ≤ left then left - (l.length : Int) else -1) := by
  have e : wrap64 (left - (l.length : Int)) = left - (l.length : Int) := by unfold wrap64; omega
  unfold laws_szInt64S.f
  rw [e]
  by_cases h : (l.length : Int) ≤ left
  · rw [if_neg (by omega), if_pos h]
  · rw [if_pos (by omega), if_neg h]
theorem szDeviceS_left (l : List S110) (left : Int) (hl : l.length ≤ 9223372036854775807) (h0 : 0 ≤ left) (h1 : left ≤ 1048576) : laws_szDeviceS.f l left = some (if (l.length : Int) ≤ left then left - (l.length : Int) else -1) := by
  have e : wrap64 (left - (l.length : Int)) = left - (l.length : Int) := by unfold wrap64; omega
  unfold laws_szDeviceS.f
  rw [e]
  by_cases h : (l.length : Int) ≤ left
  · rw [if_neg (by omega), if_pos h]
  · rw [if_pos (by omega), if_neg h]
/-- the sizes are small -/
def Small (d : List S110) (b : List S106) : Prop := d.length ≤ 1048576 ∧ b.length ≤ 1048576 ∧ ∀ x ∈ b, x.f2.length ≤ 1048576
theorem szBucketS_ev (l : List S106) (left : Int) (hl : l.length ≤ 9223372036854775807) (hb : ∀ x ∈ l, x.f2.length ≤ 9223372036854775807) (h0 : 0 ≤ left) (h1 : left ≤ 1048576) :
    ∃ t, (0 ≤ t → t ≤ 1048576 ∧ l.length ≤ 1048576 ∧ ∀ x ∈ l, x.f2.length ≤ 1048576) ∧ Ev (fun k => laws_szBucketS.f k l left) t := by
  have e : wrap64 (left - (l.length : Int)) = left - (l.length : Int) := by unfold wrap64; omega
  unfold laws_szBucketS.f
  simp only [e]
  by_cases h : (left - (l.length : Int)) < 0
  · simp only [if_pos h]
    exact ⟨-1, by omega, Ev.now _⟩
  · simp only [if_neg h]
    refine loop_up l.length (fun k s i => laws_szBucketS.l0 k l s i) (fun i s => 0 ≤ s ∧ s ≤ 1048576 ∧ ∀ x ∈ l.take i, x.f2.length ≤ 1048576) _ ?_ ?_ _ ⟨by omega, by omega, by simp⟩
    · intro i s hi ⟨g0, g1, g2⟩
      have hsz := hb l[i] (List.getElem_mem hi)
      have hz := szInt64S_left l[i].f2 s hsz g0 g1
      have hu : ∀ k, laws_szBucketS.l0 (k + 1) l s i = (laws_szBucket.f l[i].f0 l[i].f1 l[i].f2 s).bind fun t => if t < 0 then some (-1) else laws_szBucketS.l0 k l t ((i + 1 : Nat) : Int) := fun k => by
        simp only [laws_szBucketS.l0]
        rw [if_pos (by omega), if_pos (by omega), rd_bktL l i hi, up64 i l.length hi hl]
      unfold laws_szBucket.f at hu
      by_cases c : (l[i].f2.length : Int) ≤ s
      · refine .inr ⟨s - (l[i].f2.length : Int), ⟨by omega, by omega, fun x hx => ?_⟩, ev_next (fun k => ?_)⟩
        · rw [List.take_succ_eq_append_getElem hi] at hx
          rcases List.mem_append.1 hx with hx | hx
          · exact g2 x hx
          · simp only [List.mem_singleton] at hx
            subst hx
            omega
        · rw [hu k, hz, if_pos c]
          simp only [Option.bind_some]
          rw [if_neg (by omega), Option.bind_some, if_neg (by omega)]
      · refine .inl ⟨-1, by omega, ev_end (fun k => ?_)⟩
        rw [hu k, hz, if_neg c]
        simp
    · intro s ⟨g0, g1, g2⟩
      rw [List.take_length] at g2
      refine ⟨s, fun _ => ⟨by omega, by omega, g2⟩, ev_end (fun k => ?_)⟩
      simp only [laws_szBucketS.l0]
      rw [if_neg (by omega)]
theorem szTree_ev (d : List S110) (b : List S106) (left : Int) (hd : d.length ≤ 9223372036854775807) (hl : b.length ≤ 9223372036854775807) (hb : ∀ x ∈ b, x.f2.length ≤ 9223372036854775807) (h0 : 0 ≤ left) (h1 : left ≤ 1048576) :
    ∃ t, (0 ≤ t → t ≤ 1048576 ∧ Small d b) ∧ Ev (fun k => laws_szTree.f k d b left) t := by
  unfold laws_szTree.f
  simp only [szDeviceS_left d left hd h0 h1, Option.bind_some]
  by_cases c : (d.length : Int) ≤ left
  · simp only [if_pos c, show ¬ (left - (d.length : Int) < 0) by omega, if_false]
    obtain ⟨t, ht, hE⟩ := szBucketS_ev b (left - (d.length : Int)) hl hb (by omega) (by omega)
    by_cases c2 : t < 0
    · exact ⟨-1, by omega, Ev.bind hE (ev_some fun k => if_pos c2)⟩
    · have := ht (by omega)
      exact ⟨t, fun _ => ⟨this.1, by omega, this.2.1, this.2.2⟩, Ev.bind hE (ev_some fun k => if_neg c2)⟩
  · simp only [if_neg c]
    exact ⟨-1, by omega, ev_some fun k => by simp⟩
theorem toTree_ev (d : List S110) (b : List S106) (h : Small d b) : Ev (fun k => laws_toTree.f k d b) (d.map devOf, b.map bktOf) := by
  unfold laws_toTree.f
  exact Ev.bind (toDeviceS_ev d h.1) (Ev.bind (toBucketS_ev b h.2.1 h.2.2) (Ev.now _))
theorem eqTree_ev (d : List S110) (b : List S106) (h : Small d b) : Ev (fun k => laws_eqTree.f k (d.map devOf) (b.map bktOf) (d.map devOf) (b.map bktOf)) true := by
  obtain ⟨h1, h2, h3⟩ := h
  unfold laws_eqTree.f
  refine Ev.bind (eqDeviceS_ev _ (by rw [List.length_map]; omega)) ?_
  simp only [if_true]
  refine Ev.bind (eqBucketS_ev _ (by rw [List.length_map]; omega) (fun x hx => ?_)) (ev_some fun k => if_pos rfl)
  obtain ⟨y, hy, rfl⟩ := List.mem_map.1 hx
  have := h3 y hy
  show y.f2.length ≤ _
  omega
/-- the numbers of a law's topology are of their kind -/
theorem wf_of_good (d : List S110) (b : List S106) (hd : good_t22 d) (hb : good_t23 b) : wfTree (d.map devOf) (b.map bktOf) = true := by
  unfold wfTree
  rw [Bool.and_eq_true, List.all_eq_true, List.all_eq_true]
  constructor
  · intro x hx
    obtain ⟨y, hy, rfl⟩ := List.mem_map.1 hx
    have := hd.2 y hy
    rw [Bool.and_eq_true]
    exact ⟨wf_wfI this.1, wf_wfI this.2⟩
  · intro x hx
    obtain ⟨y, hy, rfl⟩ := List.mem_map.1 hx
    have := hb.2 y hy
    rw [Bool.and_eq_true, Bool.and_eq_true]
    refine ⟨⟨wf_wfI this.1, wf_wfI this.2.1⟩, ?_⟩
    rw [List.all_eq_true]
    intro z hz
    exact wf_wfI (this.2.2.2 z hz)
theorem small_of_good (d : List S110) (b : List S106) (hd : good_t22 d) (hb : good_t23 b) : d.length ≤ 9223372036854775807 ∧ b.length ≤ 9223372036854775807 ∧ ∀ x ∈ b, x.f2.length ≤ 9223372036854775807 :=
  ⟨hd.1, hb.1, fun x hx => (hb.2 x hx).2.2.1⟩

end Go.Proofs.Ytkadeelplnkpgaa.Pure

-- text OTree
namespace Go.Proofs.Ytkadeelplnkpgaa.Pure
open Go.RowKit Go.Proofs.Ytkadeelplnkpgaa.Q Go.Proofs.YtkadeelplnkpgaaW.PrintWords Go.Proofs.YtkadeelplnkpgaaW.PrintLast Go.Proofs.YtkadeelplnkpgaaW.PrintMore
set_option linter.unusedVariables false
set_option linter.unusedSimpArgs false

theorem in_inB (a b c : Int) : spec_l00In.f a b c = some (inB a b c) := between_inB a b c
/-- a loop that asks each place in turn -/
theorem all_loop (n : Nat) (L : Nat → Int → Option Bool) (c : Nat → Bool) (ht : ∀ i : Nat, i < n → c i = true → ∀ r, Ev (fun k => L k ((i + 1 : Nat) : Int)) r → Ev (fun k => L k (i : Int)) r)
    (hf : ∀ i : Nat, i < n → c i = false → Ev (fun k => L k (i : Int)) false) (he : ∀ k, L (k + 1) (n : Int) = some true) : Ev (fun k => L k 0) ((List.range n).all c) := by
  refine loop_is n (fun k (_ : Unit) i => L k i) (fun i _ => ∀ j, j < i → c j = true) _ ?_ ?_ () (fun j hj => absurd hj (Nat.not_lt_zero j))
  · intro i _ hi hI
    cases hc : c i with
    | true =>
      refine .inr ⟨(), fun j hj => ?_, ht i hi hc⟩
      rcases Nat.lt_succ_iff_lt_or_eq.1 hj with h | h
      · exact hI j h
      · rw [h]; exact hc
    | false =>
      left
      have e : (List.range n).all c = false := by
        rw [List.all_eq_false]
        exact ⟨i, by simpa using hi, by simp [hc]⟩
      rw [e]
      exact hf i hi hc
  · intro _ hI
    have e : (List.range n).all c = true := by
      rw [List.all_eq_true]
      intro j hj
      exact hI j (by simpa using hj)
    rw [e]
    exact ev_end he
theorem has_ev (l : List Int) (x : Int) (hl : l.length ≤ 9223372036854775807) : Ev (fun k => spec_l00Has.f k l x) (l.any fun y => y == x) := by
  refine loop_is l.length (fun k (_ : Unit) i => spec_l00Has.l0 k l x i) (fun i _ => (l.take i).any (fun y => y == x) = false) _ ?_ ?_ () (by simp)
  · intro i _ hi hI
    have hu : ∀ k, spec_l00Has.l0 (k + 1) l x i = if l[i] = x then some true else spec_l00Has.l0 k l x ((i + 1 : Nat) : Int) := fun k => by
      simp only [spec_l00Has.l0]
      rw [if_pos (by omega), if_pos (by omega), rd_get l i hi, up64 i l.length hi hl]
    by_cases c : l[i] = x
    · left
      have e : l.any (fun y => y == x) = true := by
        rw [List.any_eq_true]
        exact ⟨l[i], List.getElem_mem hi, by simpa using c⟩
      rw [e]
      exact ev_end (fun k => by rw [hu k, if_pos c])
    · refine .inr ⟨(), ?_, ev_next (fun k => by rw [hu k, if_neg c])⟩
      rw [List.take_succ_eq_append_getElem hi, List.any_append, hI]
      simpa using c
  · intro _ hI
    rw [List.take_length] at hI
    rw [hI]
    exact ev_end (fun k => by simp only [spec_l00Has.l0]; rw [if_neg (by omega)])
/-- the index of a device -/
def devAt (D : List S50) (id : Int) : Int := idxFrom (fun x : S50 => x.f0 == id) D 0
theorem idx_step {α : Type} (p : α → Bool) (l : List α) (i : Nat) (hi : i < l.length) : idxFrom p (l.drop i) i = if p l[i] = true then (i : Int) else idxFrom p (l.drop (i + 1)) ((i + 1 : Nat) : Int) := by
  rw [List.drop_eq_getElem_cons hi]
  rfl
theorem specDevice_ev (D : List S50) (B : List S108) (id : Int) (hD : D.length ≤ 9223372036854775807) : Ev (fun k => spec_l06Device.f k D B id) (devAt D id) := by
  refine loop_is D.length (fun k (_ : Unit) i => spec_l06Device.l0 k id i D B) (fun i _ => devAt D id = idxFrom (fun x : S50 => x.f0 == id) (D.drop i) i) _ ?_ ?_ () rfl
  · intro i _ hi hI
    have hu : ∀ k, spec_l06Device.l0 (k + 1) id i D B = if D[i].f0 = id then some (i : Int) else spec_l06Device.l0 k id ((i + 1 : Nat) : Int) D B := fun k => by
      simp only [spec_l06Device.l0]
      rw [if_pos (by omega), if_pos (by omega), rd_dev D i hi, up64 i D.length hi hD]
    rw [idx_step _ D i hi] at hI
    by_cases c : D[i].f0 = id
    · left
      rw [if_pos (by simpa using c)] at hI
      rw [hI]
      exact ev_end (fun k => by rw [hu k, if_pos c])
    · rw [if_neg (by simpa using c)] at hI
      exact .inr ⟨(), hI, ev_next (fun k => by rw [hu k, if_neg c])⟩
  · intro _ hI
    rw [List.drop_length] at hI
    rw [hI]
    exact ev_end (fun k => by simp only [spec_l06Device.l0]; rw [if_neg (by omega)]; rfl)
theorem specBucket_ev (D : List S50) (B : List S108) (id : Int) (hB : B.length ≤ 9223372036854775807) : Ev (fun k => spec_l06Bucket.f k D B id) (bucketAt B id) := by
  refine loop_is B.length (fun k (_ : Unit) i => spec_l06Bucket.l0 k id i D B) (fun i _ => bucketAt B id = idxFrom (fun x : S108 => x.f0 == id) (B.drop i) i) _ ?_ ?_ () rfl
  · intro i _ hi hI
    have hu : ∀ k, spec_l06Bucket.l0 (k + 1) id i D B = if B[i].f0 = id then some (i : Int) else spec_l06Bucket.l0 k id ((i + 1 : Nat) : Int) D B := fun k => by
      simp only [spec_l06Bucket.l0]
      rw [if_pos (by omega), if_pos (by omega), rd_bkt B i hi, up64 i B.length hi hB]
    rw [idx_step _ B i hi] at hI
    by_cases c : B[i].f0 = id
    · left
      rw [if_pos (by simpa using c)] at hI
      rw [hI]
      exact ev_end (fun k => by rw [hu k, if_pos c])
    · rw [if_neg (by simpa using c)] at hI
      exact .inr ⟨(), hI, ev_next (fun k => by rw [hu k, if_neg c])⟩
  · intro _ hI
    rw [List.drop_length] at hI
    rw [hI]
    exact ev_end (fun k => by simp only [spec_l06Bucket.l0]; rw [if_neg (by omega)]; rfl)
theorem specKind_ev (D : List S50) (B : List S108) (id : Int) (hD : D.length ≤ 9223372036854775807) (hB : B.length ≤ 9223372036854775807) : Ev (fun k => spec_l06Kind.f k D B id) (kindAt D B id) := by
  unfold spec_l06Kind.f
  have hk : kindAt D B id = if 0 ≤ devAt D id then 0 else if bucketAt B id < 0 then -1 else (rd_T108 B (bucketAt B id)).f1 := rfl
  refine Ev.bind (specDevice_ev D B id hD) ?_
  by_cases c : 0 ≤ devAt D id
  · rw [hk, if_pos c]
    simp only [show devAt D id ≥ 0 from c, if_true]
    exact Ev.now _
  · rw [hk, if_neg c]
    simp only [show ¬ (devAt D id ≥ 0) from c, if_false]
    refine Ev.bind (specBucket_ev D B id hB) ?_
    by_cases c2 : bucketAt B id < 0
    · rw [if_pos c2]
      simp only [show ¬ (bucketAt B id ≥ 0) by omega, if_false]
      exact Ev.now _
    · rw [if_neg c2]
      have := bucketAt_lt B id (by omega)
      simp only [show bucketAt B id ≥ 0 by omega, show 0 ≤ bucketAt B id by omega, this, if_true]
      exact Ev.now _
/-! numbers, each once -/
theorem mem_addOnce (acc : List Int) (x y : Int) : y ∈ addOnce acc x ↔ y ∈ acc ∨ y = x := by
  unfold addOnce
  split
  · rename_i h
    rw [List.any_eq_true] at h
    obtain ⟨z, hz, he⟩ := h
    have : z = x := by simpa using he
    subst this
    constructor
    · exact .inl
    · rintro (h | rfl)
      · exact h
      · exact hz
  · simp
theorem mem_fold_once : ∀ (S acc : List Int) (y : Int), y ∈ S.foldl addOnce acc ↔ y ∈ acc ∨ y ∈ S
  | [], acc, y => by simp
  | x :: S, acc, y => by
    rw [List.foldl_cons, mem_fold_once S, mem_addOnce]
    simp only [List.mem_cons]
    constructor
    · rintro ((h | h) | h)
      · exact .inl h
      · exact .inr (.inl h)
      · exact .inr (.inr h)
    · rintro (h | h | h)
      · exact .inl (.inl h)
      · exact .inl (.inr h)
      · exact .inr h
theorem nodup_addOnce (acc : List Int) (x : Int) (h : acc.Nodup) : (addOnce acc x).Nodup := by
  unfold addOnce
  split
  · exact h
  · rename_i hn
    rw [List.nodup_append]
    refine ⟨h, by simp, fun a ha b hb => ?_⟩
    simp only [List.mem_singleton] at hb
    subst hb
    intro e
    subst e
    exact hn (by rw [List.any_eq_true]; exact ⟨a, ha, by simp⟩)
theorem nodup_fold_once : ∀ (S acc : List Int), acc.Nodup → (S.foldl addOnce acc).Nodup
  | [], _, h => h
  | x :: S, acc, h => nodup_fold_once S _ (nodup_addOnce acc x h)
theorem mem_once (S : List Int) (y : Int) : y ∈ onceOf S ↔ y ∈ S := by
  unfold onceOf
  rw [mem_fold_once]
  simp
theorem nodup_once (S : List Int) : (onceOf S).Nodup := nodup_fold_once S [] List.nodup_nil
theorem once_one (S : List Int) : (onceOf S).length ≤ 1 ↔ ∀ x ∈ S, ∀ y ∈ S, x = y := by
  have hm := mem_once S
  have hn := nodup_once S
  generalize onceOf S = T at hm hn
  constructor
  · intro h x hx y hy
    match T, h with
    | [], _ => have := (hm x).2 hx; simp at this
    | [z], _ =>
      have h1 := (hm x).2 hx
      have h2 := (hm y).2 hy
      simp only [List.mem_singleton] at h1 h2
      rw [h1, h2]
  · intro h
    match T, hn with
    | [], _ => simp
    | [z], _ => simp
    | z :: z' :: T', hn =>
      have h1 := (hm z).1 (by simp)
      have h2 := (hm z').1 (by simp)
      have e := h z h1 z' h2
      subst e
      simp at hn

end Go.Proofs.Ytkadeelplnkpgaa.Pure

-- text OTreeOk
namespace Go.Proofs.Ytkadeelplnkpgaa.Pure
open Go.RowKit Go.Proofs.Ytkadeelplnkpgaa.Q Go.Proofs.YtkadeelplnkpgaaW.PrintWords Go.Proofs.YtkadeelplnkpgaaW.PrintLast Go.Proofs.YtkadeelplnkpgaaW.PrintMore
set_option linter.unusedVariables false
set_option linter.unusedSimpArgs false

/-! devices -/
def devStep (D : List S50) (i : Nat) : Bool := inB (rd_T50 D i).f0 0 15 && inB (rd_T50 D i).f1 0 8 && !(decide (0 < i) && decide ((rd_T50 D i).f0 ≤ (rd_T50 D ((i : Int) - 1)).f0))
def devsB (D : List S50) : Bool := (List.range D.length).all (devStep D) && decide (D.length ≤ 16)
theorem wrap_down (i : Nat) (h : 0 < i) (hn : i ≤ 9223372036854775807) : wrap64 ((i : Int) - 1) = (i : Int) - 1 := by unfold wrap64; omega
theorem spec_devs_ev (D : List S50) (B : List S108) : Ev (fun k => spec_l06Devices.f k D B) (devsB D) := by
  unfold spec_l06Devices.f devsB
  by_cases h : (D.length : Int) > 16
  · simp only [if_pos h, decide_eq_false (show ¬ (D.length ≤ 16) by omega), Bool.and_false]
    exact Ev.now _
  · simp only [if_neg h, decide_eq_true (show D.length ≤ 16 by omega), Bool.and_true]
    have hu : ∀ (i : Nat), i < D.length → ∀ k, spec_l06Devices.l0 (k + 1) i D B = if devStep D i = true then spec_l06Devices.l0 k ((i + 1 : Nat) : Int) D B else some false := fun i hi k => by
      simp only [spec_l06Devices.l0]
      rw [if_pos (by omega), if_pos (by omega), in_inB, in_inB, up64 i D.length hi (by omega)]
      simp only [Option.bind_some]
      unfold devStep
      cases inB (rd_T50 D i).f0 0 15 with
      | false => simp
      | true =>
        cases inB (rd_T50 D i).f1 0 8 with
        | false => simp
        | true =>
          by_cases c : 0 < i
          · rw [if_pos rfl, if_pos rfl, if_pos (by omega), wrap_down i c (by omega), if_pos (by omega), if_pos (by omega)]
            by_cases c2 : (rd_T50 D i).f0 ≤ (rd_T50 D ((i : Int) - 1)).f0 <;> simp [c, c2]
          · rw [if_pos rfl, if_pos rfl, if_neg (by omega)]
            simp [c]
    exact all_loop D.length (fun k i => spec_l06Devices.l0 k i D B) (devStep D) (fun i hi hc => ev_next (fun k => by rw [hu i hi k, if_pos hc])) (fun i hi hc => ev_end (fun k => by rw [hu i hi k, if_neg (by rw [hc]; decide)])) (fun k => by simp only [spec_l06Devices.l0]; rw [if_neg (by omega)])
theorem isNode_inB (a : Int) : impl_isNode.f a = some (inB a 0 15) := by
  unfold impl_isNode.f
  rw [between_inB]; rfl
theorem impl_devs_ev (D : List S50) (B : List S108) (hD : D.length ≤ 9223372036854775807) : Ev (fun k => impl_Tree_devicesOk.f k D B) (devsB D) := by
  have hu : ∀ (i : Nat), i < D.length → ∀ k, impl_Tree_devicesOk.l0 (k + 1) D D.length i D B = if devStep D i = true then impl_Tree_devicesOk.l0 k D D.length ((i + 1 : Nat) : Int) D B else some false := fun i hi k => by
    simp only [impl_Tree_devicesOk.l0]
    rw [if_pos (by omega), if_pos (by omega), if_pos (by omega), isNode_inB, up64 i D.length hi hD]
    simp only [Option.bind_some, between_inB]
    unfold devStep
    cases inB (rd_T50 D i).f0 0 15 with
    | false => simp
    | true =>
      by_cases c : 0 < i
      · rw [if_pos rfl, if_pos (by omega), wrap_down i c (by omega), if_pos (by omega), if_pos (by omega)]
        by_cases c2 : (rd_T50 D i).f0 ≤ (rd_T50 D ((i : Int) - 1)).f0
        · simp [c, c2]
        · cases inB (rd_T50 D i).f1 0 8 <;> simp [c, c2]
      · rw [if_pos rfl, if_neg (by omega)]
        cases inB (rd_T50 D i).f1 0 8 <;> simp [c]
  refine loop_is D.length (fun k (_ : Unit) i => impl_Tree_devicesOk.l0 k D D.length i D B) (fun i _ => ∀ j, j < i → devStep D j = true) _ ?_ ?_ () (fun j hj => absurd hj (Nat.not_lt_zero j))
  · intro i _ hi hI
    cases hc : devStep D i with
    | true =>
      refine .inr ⟨(), fun j hj => ?_, ev_next (fun k => by rw [hu i hi k, if_pos hc])⟩
      rcases Nat.lt_succ_iff_lt_or_eq.1 hj with h | h
      · exact hI j h
      · rw [h]; exact hc
    | false =>
      left
      have e : devsB D = false := by
        unfold devsB
        have : (List.range D.length).all (devStep D) = false := by
          rw [List.all_eq_false]
          exact ⟨i, by simpa using hi, by simp [hc]⟩
        rw [this, Bool.false_and]
      rw [e]
      exact ev_end (fun k => by rw [hu i hi k, if_neg (by rw [hc]; decide)])
  · intro _ hI
    have e : devsB D = decide ((D.length : Int) ≤ 16) := by
      unfold devsB
      have : (List.range D.length).all (devStep D) = true := by
        rw [List.all_eq_true]
        intro j hj
        exact hI j (by simpa using hj)
      rw [this, Bool.true_and]
      exact decide_eq_decide.2 (by omega)
    rw [e]
    exact ev_end (fun k => by simp only [impl_Tree_devicesOk.l0]; rw [if_neg (by omega)])
/-! buckets -/
def bktStep (B : List S108) (i : Nat) : Bool := inB (rd_T108 B i).f0 (-12) (-1) && inB (rd_T108 B i).f1 1 3 && decide ((rd_T108 B i).f2.length ≤ 8) && !(decide (0 < i) && decide ((rd_T108 B ((i : Int) - 1)).f0 ≤ (rd_T108 B i).f0))
def bktsB (B : List S108) : Bool := (List.range B.length).all (bktStep B) && decide (B.length ≤ 12)
theorem spec_bkts_ev (D : List S50) (B : List S108) : Ev (fun k => spec_l06Buckets.f k D B) (bktsB B) := by
  unfold spec_l06Buckets.f bktsB
  by_cases h : (B.length : Int) > 12
  · simp only [if_pos h, decide_eq_false (show ¬ (B.length ≤ 12) by omega), Bool.and_false]
    exact Ev.now _
  · simp only [if_neg h, decide_eq_true (show B.length ≤ 12 by omega), Bool.and_true]
    have hu : ∀ (i : Nat), i < B.length → ∀ k, spec_l06Buckets.l0 (k + 1) i D B = if bktStep B i = true then spec_l06Buckets.l0 k ((i + 1 : Nat) : Int) D B else some false := fun i hi k => by
      simp only [spec_l06Buckets.l0]
      rw [if_pos (by omega), if_pos (by omega), in_inB, in_inB, up64 i B.length hi (by omega)]
      simp only [Option.bind_some]
      unfold bktStep
      cases inB (rd_T108 B i).f0 (-12) (-1) with
      | false => simp
      | true =>
        cases inB (rd_T108 B i).f1 1 3 with
        | false => simp
        | true =>
          rw [if_pos rfl, if_pos rfl]
          by_cases c8 : (rd_T108 B i).f2.length ≤ 8
          · rw [if_neg (by omega)]
            by_cases c : 0 < i
            · rw [if_pos (by omega), wrap_down i c (by omega), if_pos (by omega), if_pos (by omega)]
              by_cases c2 : (rd_T108 B ((i : Int) - 1)).f0 ≤ (rd_T108 B i).f0 <;> simp [c, c2, c8]
            · rw [if_neg (by omega)]
              simp [c, c8]
          · rw [if_pos (by omega)]
            simp [c8]
    exact all_loop B.length (fun k i => spec_l06Buckets.l0 k i D B) (bktStep B) (fun i hi hc => ev_next (fun k => by rw [hu i hi k, if_pos hc])) (fun i hi hc => ev_end (fun k => by rw [hu i hi k, if_neg (by rw [hc]; decide)])) (fun k => by simp only [spec_l06Buckets.l0]; rw [if_neg (by omega)])
/-! nothing twice -/
def onceGo (B : List S108) : Nat → Int → List Int → Bool
  | 0, _, _ => true
  | d + 1, i, u => match useGo u (rd_T108 B i).f2 with | some u' => onceGo B d (i + 1) u' | none => false
def onceTail (B : List S108) (d : Nat) (i : Int) (u items : List Int) : Bool := match useGo u items with | some u' => onceGo B d (i + 1) u' | none => false
def onceB (B : List S108) : Bool := onceGo B B.length 0 []
theorem useGo_cons (u : List Int) (x : Int) (xs : List Int) : useGo u (x :: xs) = if (u.any fun y => y == x) = true then none else useGo (u ++ [x]) xs := rfl
theorem useGo_length : ∀ (items u u' : List Int), useGo u items = some u' → u' = u ++ items
  | [], u, u', h => by simp only [useGo, Option.some.injEq] at h; simp [h]
  | x :: xs, u, u', h => by
    unfold useGo at h
    split at h
    · cases h
    · rw [useGo_length xs _ _ h]; simp
theorem spec_once_ev (D : List S50) (B : List S108) (hB : B.length ≤ 12) (hI : ∀ x ∈ B, x.f2.length ≤ 8) : Ev (fun k => spec_l06Once.f k D B) (onceB B) := by
  refine loop_is B.length (fun k (u : List Int) i => spec_l06Once.l0 k u i D B) (fun i u => u.length ≤ 8 * i ∧ onceB B = onceGo B (B.length - i) i u) _ ?_ ?_ [] ⟨by simp, rfl⟩
  · rintro i u hi ⟨hu, hT⟩
    have hx := hI B[i] (List.getElem_mem hi)
    have hT1 : onceB B = onceTail B (B.length - (i + 1)) i u B[i].f2 := by
      rw [hT, show B.length - i = (B.length - (i + 1)) + 1 from by omega]
      unfold onceTail
      rw [← rd_bkt B i hi]
      rfl
    -- the inner loop
    have hinner : ∀ (r : Bool), (∀ u', useGo u B[i].f2 = some u' → Ev (fun k => spec_l06Once.l0 k u' ((i + 1 : Nat) : Int) D B) r) → (useGo u B[i].f2 = none → r = false) → Ev (fun k => spec_l06Once.l1 k u i 0 D B) r := by
      intro r hgood hbad
      refine loop_is B[i].f2.length (fun k (v : List Int) j => spec_l06Once.l1 k v i j D B) (fun j v => v.length = u.length + j ∧ useGo u B[i].f2 = useGo v (B[i].f2.drop j)) _ ?_ ?_ u ⟨by simp, by simp⟩
      · rintro j v hj ⟨hv, hG⟩
        have hd : B[i].f2.drop j = B[i].f2[j] :: B[i].f2.drop (j + 1) := List.drop_eq_getElem_cons hj
        have hstep : ∀ q, Ev (fun k => if (v.any fun y => y == B[i].f2[j]) = true then some false else (if v.length < 17592186044416 then spec_l06Once.l1 k (v ++ [B[i].f2[j]]) i ((j + 1 : Nat) : Int) D B else none)) q → Ev (fun k => spec_l06Once.l1 k v i j D B) q := fun q hq => by
          refine Ev.step (f := ?f) (fun k => ?_) ?_
          rotate_left
          · simp only [spec_l06Once.l1]
            rw [if_pos (by omega), if_pos (by omega), rd_bkt B i hi, if_pos (by omega), if_pos (by omega), rd_get _ j hj, up64 j B[i].f2.length hj (by omega)]
            all_goals exact rfl
          · exact Ev.bind (has_ev v _ (by omega)) hq
        rw [hd] at hG
        rw [useGo_cons] at hG
        by_cases c : (v.any fun y => y == B[i].f2[j]) = true
        · left
          rw [if_pos c] at hG
          rw [hbad hG]
          exact hstep _ (ev_some fun k => if_pos c)
        · rw [if_neg c] at hG
          exact .inr ⟨v ++ [B[i].f2[j]], ⟨by simp; omega, hG⟩, fun q hq => hstep q (Ev.congr (fun k => by rw [if_neg c, if_pos (by omega)]) hq)⟩
      · rintro v ⟨hv, hG⟩
        rw [List.drop_length] at hG
        refine Ev.step (fun k => ?_) (hgood v hG)
        simp only [spec_l06Once.l1]
        rw [if_pos (by omega), if_pos (by omega), rd_bkt B i hi, if_neg (by omega), up64 i B.length hi (by omega)]
    have hout : ∀ q, Ev (fun k => spec_l06Once.l1 k u i 0 D B) q → Ev (fun k => spec_l06Once.l0 k u i D B) q := fun q hq => Ev.step (fun k => by
      simp only [spec_l06Once.l0]
      rw [if_pos (by omega)]) hq
    cases hc : useGo u B[i].f2 with
    | none =>
      left
      have e : onceB B = false := by rw [hT1]; unfold onceTail; rw [hc]
      rw [e]
      refine hout _ (hinner false (fun u' h => ?_) (fun _ => rfl))
      rw [hc] at h; cases h
    | some u' =>
      have hl := useGo_length _ _ _ hc
      refine .inr ⟨u', ⟨by rw [hl, List.length_append]; omega, ?_⟩, fun q hq => hout q (hinner q (fun v h => ?_) (fun h => ?_))⟩
      · rw [hT1]; unfold onceTail; rw [hc]; rfl
      · rw [hc] at h
        obtain rfl := Option.some.inj h
        exact hq
      · rw [hc] at h; cases h
  · rintro u ⟨hu, hT⟩
    rw [hT, Nat.sub_self]
    exact ev_end (fun k => by simp only [spec_l06Once.l0]; rw [if_neg (by omega)]; rfl)

/-! what lies in a bucket -/
def fitOne (D : List S50) (B : List S108) (kd : Int) (items : List Int) (x : Int) : Bool := if kd < 3 then kindAt D B x == kd - 1 else kindAt D B x == kindAt D B (rd items 0) && (kindAt D B x == 1 || kindAt D B x == 2)
def fitsB (D : List S50) (B : List S108) (kd : Int) (items : List Int) : Bool := (List.range items.length).all fun j => fitOne D B kd items (rd items j)
theorem spec_fits_ev (D : List S50) (B : List S108) (hD : D.length ≤ 9223372036854775807) (hB : B.length ≤ 9223372036854775807) (id kd : Int) (items : List Int) (h1 : 1 ≤ kd) (h3 : kd ≤ 3) (hl : items.length ≤ 9223372036854775807) : Ev (fun k => spec_l06Fits.f k D B id kd items) (fitsB D B kd items) := by
  have hmain : ∀ (j : Nat), j < items.length → ∀ r, (fitOne D B kd items (rd items j) = true → Ev (fun k => spec_l06Fits.l0 k ((j + 1 : Nat) : Int) D B id kd items) r) → (fitOne D B kd items (rd items j) = false → r = false) → Ev (fun k => spec_l06Fits.l0 k j D B id kd items) r := by
    intro j hj r hgood hbad
    have hw : wrap64 (kd - 1) = kd - 1 := by unfold wrap64; omega
    refine Ev.step (f := ?f) (fun k => ?_) ?_
    rotate_left
    · simp only [spec_l06Fits.l0]
      rw [if_pos (by omega), if_pos (by omega)]
      all_goals exact rfl
    · refine Ev.bind (specKind_ev D B _ hD hB) ?_
      by_cases ck : kd < 3
      · simp only [if_pos ck, hw]
        refine Ev.step (f := ?g) (fun k => ?_) ?_
        rotate_left
        · simp only [spec_l06Fits.j1]
          exact rfl
        · unfold fitOne at hgood hbad
          rw [if_pos ck] at hgood hbad
          by_cases c : kindAt D B (rd items j) = kd - 1
          · refine Ev.congr (fun k => ?_) (hgood (by simpa using c))
            rw [if_neg (by simp [c]), if_neg (by omega), up64 j items.length hj hl]
          · have e := hbad (by simpa using c)
            subst e
            refine ev_some (fun k => ?_)
            rw [if_pos (by simpa using c)]
      · simp only [if_neg ck]
        refine Ev.step (f := ?g2) (fun k => ?_) ?_
        rotate_left
        · simp only [spec_l06Fits.j1]
          exact rfl
        · simp only [Bool.false_eq_true, if_false, show kd = 3 by omega, if_true, show (0 : Int) < (items.length : Int) by omega]
          unfold fitOne at hgood hbad
          rw [if_neg ck] at hgood hbad
          refine Ev.bind (specKind_ev D B _ hD hB) ?_
          by_cases c0 : kindAt D B (rd items j) = kindAt D B (rd items 0)
          · by_cases c1 : kindAt D B (rd items j) = 1
            · refine Ev.congr (fun k => ?_) (hgood (by simp [← c0, c1]))
              rw [if_pos c0, if_pos c1, up64 j items.length hj hl, show kd = 3 by omega]
            · by_cases c2 : kindAt D B (rd items j) = 2
              · refine Ev.congr (fun k => ?_) (hgood (by simp [← c0, c2]))
                rw [if_pos c0, if_neg c1, if_pos c2, up64 j items.length hj hl, show kd = 3 by omega]
              · have e := hbad (by simp [c1, c2])
                subst e
                exact ev_some fun k => by rw [if_pos c0, if_neg c1, if_neg c2]
          · have e := hbad (by simp [c0])
            subst e
            exact ev_some fun k => by rw [if_neg c0]
  exact all_loop items.length (fun k j => spec_l06Fits.l0 k j D B id kd items) (fun j => fitOne D B kd items (rd items j)) (fun j hj hc r hr => hmain j hj r (fun _ => hr) (fun h => by rw [hc] at h; cases h)) (fun j hj hc => hmain j hj false (fun h => by rw [hc] at h; cases h) (fun _ => rfl)) (fun k => by simp only [spec_l06Fits.l0]; rw [if_neg (by omega)])
theorem range_all (items : List Int) (p : Int → Bool) : ((List.range items.length).all fun j => p (rd items j)) = items.all p := by
  rw [Bool.eq_iff_iff, List.all_eq_true, List.all_eq_true]
  constructor
  · intro h x hx
    obtain ⟨j, hj, rfl⟩ := List.mem_iff_getElem.1 hx
    have := h j (by simpa using hj)
    rwa [rd_get items j hj] at this
  · intro h j hj
    have hj' : j < items.length := by simpa using hj
    rw [rd_get items j hj']
    exact h _ (List.getElem_mem hj')
theorem fits_items (D : List S50) (B : List S108) (kd : Int) (items : List Int) (h1 : 1 ≤ kd) (h3 : kd ≤ 3) : fitsB D B kd items = itemsOkB D B kd items := by
  unfold fitsB itemsOkB
  rw [range_all items (fitOne D B kd items)]
  have hw : wrap64 (kd - 1) = kd - 1 := by unfold wrap64; omega
  rw [hw]
  match items with
  | [] => simp
  | x :: xs =>
    rw [if_neg (by simp)]
    have ho := once_one ((x :: xs).map (kindAt D B))
    have hhead : rd (x :: xs) 0 = x := rfl
    unfold fitOne
    rw [hhead]
    have hm : ∀ y, y ∈ (x :: xs).map (kindAt D B) ↔ ∃ z ∈ x :: xs, kindAt D B z = y := fun y => List.mem_map
    generalize hS : (x :: xs).map (kindAt D B) = S at ho hm
    by_cases c1 : 1 < (onceOf S).length
    · rw [if_pos c1]
      rw [Bool.eq_false_iff]
      intro hall
      rw [List.all_eq_true] at hall
      refine absurd (ho.2 ?_) (by omega)
      intro a ha b hb
      obtain ⟨p, hp, rfl⟩ := (hm a).1 ha
      obtain ⟨q, hq, rfl⟩ := (hm b).1 hb
      have h1 := hall p hp
      have h2 := hall q hq
      by_cases ck : kd < 3
      · rw [if_pos ck] at h1 h2
        rw [eq_of_beq h1, eq_of_beq h2]
      · rw [if_neg ck, Bool.and_eq_true] at h1 h2
        rw [eq_of_beq h1.1, eq_of_beq h2.1]
    · rw [if_neg c1]
      have hsame := ho.1 (by omega)
      have hx : kindAt D B x ∈ S := (hm _).2 ⟨x, by simp, rfl⟩
      have hall : ∀ z ∈ x :: xs, kindAt D B z = kindAt D B x := fun z hz => hsame _ ((hm _).2 ⟨z, hz, rfl⟩) _ hx
      have hany : ∀ v : Int, (S.any fun y => y == v) = (kindAt D B x == v) := fun v => by
        rw [Bool.eq_iff_iff, List.any_eq_true]
        constructor
        · rintro ⟨y, hy, e⟩
          rw [hsame _ hx y hy]; exact e
        · intro e
          exact ⟨_, hx, e⟩
      rw [hany, hany, hany]
      by_cases ck : kd < 3
      · rw [if_neg (show ¬ kd = 3 by omega), Bool.eq_iff_iff, List.all_eq_true]
        constructor
        · intro h
          have := h x (by simp)
          rwa [if_pos ck] at this
        · intro h z hz
          rw [if_pos ck, hall z hz]; exact h
      · rw [if_pos (show kd = 3 by omega), Bool.eq_iff_iff, List.all_eq_true]
        constructor
        · intro h
          have := h x (by simp)
          rw [if_neg ck, Bool.and_eq_true] at this
          exact this.2
        · intro h z hz
          rw [if_neg ck, hall z hz, Bool.and_eq_true]
          exact ⟨by simp, h⟩
/-! the whole -/
def allB (D : List S50) (B : List S108) : Nat → Int → Bool
  | 0, _ => true
  | d + 1, i => bktB D B i && allB D B d (i + 1)
theorem treeGo_parts (D : List S50) (B : List S108) : ∀ (d : Nat) (i : Int) (u : List Int), treeGo D B d i u = (allB D B d i && onceGo B d i u)
  | 0, _, _ => rfl
  | d + 1, i, u => by
    have ht : treeGo D B (d + 1) i u = if bktB D B i = true then (match useGo u (rd_T108 B i).f2 with | some u' => treeGo D B d (i + 1) u' | none => false) else false := rfl
    have ho : onceGo B (d + 1) i u = match useGo u (rd_T108 B i).f2 with | some u' => onceGo B d (i + 1) u' | none => false := rfl
    have ha : allB D B (d + 1) i = (bktB D B i && allB D B d (i + 1)) := rfl
    rw [ht, ho, ha]
    cases bktB D B i with
    | false => rfl
    | true =>
      cases useGo u (rd_T108 B i).f2 with
      | none => simp
      | some u' => simp [treeGo_parts D B d (i + 1) u']
theorem allB_all (D : List S50) (B : List S108) : ∀ (d i : Nat), allB D B d i = true ↔ ∀ j, i ≤ j → j < i + d → bktB D B j = true
  | 0, i => by simp [allB]; intro j h1 h2; omega
  | d + 1, i => by
    have ha : allB D B (d + 1) i = (bktB D B i && allB D B d ((i + 1 : Nat) : Int)) := rfl
    rw [ha, Bool.and_eq_true, allB_all D B d (i + 1)]
    constructor
    · rintro ⟨h1, h2⟩ j hj1 hj2
      by_cases e : j = i
      · subst e; exact h1
      · exact h2 j (by omega) (by omega)
    · intro h
      exact ⟨h i (by omega) (by omega), fun j h1 h2 => h j (by omega) (by omega)⟩
theorem bktB_parts (D : List S50) (B : List S108) (i : Nat) : bktB D B i = (bktStep B i && itemsOkB D B (rd_T108 B i).f1 (rd_T108 B i).f2) := by
  unfold bktB bktStep
  have e : decide ((0 : Int) < (i : Int)) = decide (0 < i) := decide_eq_decide.2 (by omega)
  rw [e]
  cases inB (rd_T108 B i).f0 (-12) (-1) <;> cases inB (rd_T108 B i).f1 1 3 <;> cases decide (0 < i) <;> cases decide ((rd_T108 B ((i : Int) - 1)).f0 ≤ (rd_T108 B i).f0) <;> cases decide ((rd_T108 B i).f2.length ≤ 8) <;> rfl
/-- is a topology valid? -/
def treeOkB (D : List S50) (B : List S108) : Bool := devsB D && (decide (B.length ≤ 12) && treeB D B)
theorem fits_all_ev (D : List S50) (B : List S108) (hD : D.length ≤ 16) (hB : B.length ≤ 12) (hS : ∀ j, j < B.length → bktStep B j = true) : Ev (fun k => spec_l06OK.l0 k 0 D B) ((List.range B.length).all fun i => fitsB D B (rd_T108 B i).f1 (rd_T108 B i).f2) := by
  have hst : ∀ (i : Nat), i < B.length → (1 ≤ (rd_T108 B i).f1 ∧ (rd_T108 B i).f1 ≤ 3) ∧ (rd_T108 B i).f2.length ≤ 8 := fun i hi => by
    have := hS i hi
    unfold bktStep inB at this
    simp only [Bool.and_eq_true, decide_eq_true_eq] at this
    exact ⟨this.1.1.2, this.1.2⟩
  have hu : ∀ (i : Nat), i < B.length → ∀ r, Ev (fun k => if fitsB D B (rd_T108 B i).f1 (rd_T108 B i).f2 = true then spec_l06OK.l0 k ((i + 1 : Nat) : Int) D B else some false) r → Ev (fun k => spec_l06OK.l0 k i D B) r := fun i hi r hr => by
    obtain ⟨⟨h1, h3⟩, h8⟩ := hst i hi
    refine Ev.step (f := ?f) (fun k => ?_) ?_
    rotate_left
    · simp only [spec_l06OK.l0]
      rw [if_pos (by omega), if_pos (by omega), up64 i B.length hi (by omega)]
      all_goals exact rfl
    · exact Ev.bind (spec_fits_ev D B (by omega) (by omega) _ _ _ h1 h3 (by omega)) hr
  exact all_loop B.length (fun k i => spec_l06OK.l0 k i D B) _ (fun i hi hc r hr => hu i hi r (Ev.congr (fun k => by rw [if_pos hc]) hr)) (fun i hi hc => hu i hi false (ev_some fun k => by rw [if_neg (by rw [hc]; decide)])) (fun k => by simp only [spec_l06OK.l0]; rw [if_neg (by omega)])
theorem spec_ok_ev (D : List S50) (B : List S108) : Ev (fun k => spec_l06OK.f k D B) (treeOkB D B) := by
  unfold spec_l06OK.f
  refine Ev.bind (spec_devs_ev D B) ?_
  have hj : ∀ r, r = false → Ev (fun k => spec_l06OK.j0 k true D B) r := fun r hr => by
    subst hr
    exact ev_end fun k => by simp only [spec_l06OK.j0]; rw [if_pos trivial]
  unfold treeOkB
  cases hd : devsB D with
  | false =>
    simp only [Bool.false_eq_true, if_false, Bool.false_and]
    exact hj _ rfl
  | true =>
    simp only [if_true, Bool.true_and]
    refine Ev.bind (spec_bkts_ev D B) ?_
    have hparts : treeB D B = (allB D B B.length 0 && onceB B) := treeGo_parts D B B.length 0 []
    have hall := allB_all D B B.length 0
    rw [show ((0 : Nat) : Int) = 0 from rfl] at hall
    have hD : D.length ≤ 16 := by
      unfold devsB at hd
      rw [Bool.and_eq_true] at hd
      exact of_decide_eq_true hd.2
    cases hb : bktsB B with
    | false =>
      simp only [Bool.false_eq_true, if_false]
      refine hj _ ?_
      by_cases c : B.length ≤ 12
      · have : allB D B B.length 0 = false := by
          rw [Bool.eq_false_iff]
          intro h
          have h2 := hall.1 h
          have : bktsB B = true := by
            unfold bktsB
            rw [decide_eq_true c, Bool.and_true, List.all_eq_true]
            intro j hj
            have := h2 j (by omega) (by simpa using hj)
            rw [bktB_parts, Bool.and_eq_true] at this
            exact this.1
          rw [this] at hb; cases hb
        rw [hparts, this]; simp
      · rw [decide_eq_false c, Bool.false_and]
    | true =>
      unfold bktsB at hb
      rw [Bool.and_eq_true, List.all_eq_true] at hb
      have h12 := of_decide_eq_true hb.2
      have hS : ∀ j, j < B.length → bktStep B j = true := fun j hj => hb.1 j (by simpa using hj)
      have h8 : ∀ x ∈ B, x.f2.length ≤ 8 := fun x hx => by
        obtain ⟨j, hj, rfl⟩ := List.mem_iff_getElem.1 hx
        have := hS j hj
        unfold bktStep at this
        simp only [Bool.and_eq_true, decide_eq_true_eq] at this
        rw [rd_bkt B j hj] at this
        exact this.1.2
      simp only [if_true]
      refine Ev.bind (spec_once_ev D B h12 h8) ?_
      rw [decide_eq_true h12, Bool.true_and, hparts]
      cases onceB B with
      | false =>
        rw [Bool.and_false]
        exact hj _ rfl
      | true =>
        rw [Bool.and_true]
        refine Ev.step (f := ?f) (fun k => ?_) ?_
        rotate_left
        · simp only [spec_l06OK.j0]
          exact rfl
        · simp only [Bool.not_true, Bool.false_eq_true, if_false]
          have hf := fits_all_ev D B hD h12 hS
          have e : ((List.range B.length).all fun i => fitsB D B (rd_T108 B i).f1 (rd_T108 B i).f2) = allB D B B.length 0 := by
            rw [Bool.eq_iff_iff, hall, List.all_eq_true]
            have hk : ∀ j, j < B.length → (fitsB D B (rd_T108 B j).f1 (rd_T108 B j).f2 = true ↔ bktB D B j = true) := fun j hj => by
              have hs := hS j hj
              rw [bktB_parts, hs, Bool.true_and]
              unfold bktStep inB at hs
              simp only [Bool.and_eq_true, decide_eq_true_eq] at hs
              rw [fits_items D B _ _ hs.1.1.2.1 hs.1.1.2.2]
            constructor
            · intro h j _ hj
              exact (hk j (by omega)).1 (h j (by simp; omega))
            · intro h j hj
              have hj' : j < B.length := by simpa using hj
              exact (hk j hj').2 (h j (by omega) (by omega))
          rw [e] at hf
          exact hf
theorem impl_ok_ev (D : List S50) (B : List S108) (hD : D.length ≤ 9223372036854775807) (hw : wfTree D B = true) : Ev (fun k => impl_TreeOk.f k D B) (treeOkB D B) := by
  unfold impl_TreeOk.f treeOkB
  simp only [if_pos hw]
  refine Ev.bind (impl_devs_ev D B hD) ?_
  cases devsB D <;> simp <;> first | exact Ev.now _ | exact ev_some fun k => rfl

end Go.Proofs.Ytkadeelplnkpgaa.Pure

-- text OValid
namespace Go.Proofs.Ytkadeelplnkpgaa.Pure
open Go.RowKit Go.Proofs.Ytkadeelplnkpgaa.Q Go.Proofs.YtkadeelplnkpgaaW.PrintWords Go.Proofs.YtkadeelplnkpgaaW.PrintLast Go.Proofs.YtkadeelplnkpgaaW.PrintMore
set_option linter.unusedVariables false
set_option linter.unusedSimpArgs false

/-- what a valid topology holds -/
structure Valid (D : List S50) (B : List S108) : Prop where
  dev : D.length ≤ 16
  bkt : B.length ≤ 12
  devs : ∀ i (h : i < D.length), 0 ≤ D[i].f0 ∧ D[i].f0 ≤ 15 ∧ 0 ≤ D[i].f1 ∧ D[i].f1 ≤ 8
  bkts : ∀ i (h : i < B.length), (-12 ≤ B[i].f0 ∧ B[i].f0 ≤ -1) ∧ (1 ≤ B[i].f1 ∧ B[i].f1 ≤ 3) ∧ B[i].f2.length ≤ 8
  down : ∀ i (h : i + 1 < B.length), B[i + 1].f0 < B[i].f0
  up : ∀ i (h : i + 1 < D.length), D[i].f0 < D[i + 1].f0
  fits : ∀ i (h : i < B.length), ∀ x ∈ B[i].f2, fitOne D B B[i].f1 B[i].f2 x = true
  once : onceB B = true
theorem valid_of (D : List S50) (B : List S108) (h : treeOkB D B = true) : Valid D B := by
  unfold treeOkB at h
  rw [Bool.and_eq_true, Bool.and_eq_true] at h
  obtain ⟨hd, h12, ht⟩ := h
  have h12 := of_decide_eq_true h12
  unfold devsB at hd
  rw [Bool.and_eq_true, List.all_eq_true] at hd
  have h16 := of_decide_eq_true hd.2
  have hparts : treeB D B = (allB D B B.length 0 && onceB B) := treeGo_parts D B B.length 0 []
  rw [hparts, Bool.and_eq_true] at ht
  have hall := (allB_all D B B.length 0).1 ht.1
  have hS : ∀ j, j < B.length → bktStep B j = true ∧ itemsOkB D B (rd_T108 B j).f1 (rd_T108 B j).f2 = true := fun j hj => by
    have := hall j (by omega) (by omega)
    rw [bktB_parts, Bool.and_eq_true] at this
    exact this
  have hdv : ∀ j, j < D.length → devStep D j = true := fun j hj => hd.1 j (by simpa using hj)
  have hk : ∀ i (h : i < B.length), (-12 ≤ B[i].f0 ∧ B[i].f0 ≤ -1) ∧ (1 ≤ B[i].f1 ∧ B[i].f1 ≤ 3) ∧ B[i].f2.length ≤ 8 := fun i h => by
    have := (hS i h).1
    unfold bktStep inB at this
    simp only [Bool.and_eq_true, decide_eq_true_eq] at this
    rw [rd_bkt B i h] at this
    exact ⟨this.1.1.1, this.1.1.2, this.1.2⟩
  refine ⟨h16, h12, ?_, hk, ?_, ?_, ?_, ht.2⟩
  · intro i h
    have := hdv i h
    unfold devStep inB at this
    simp only [Bool.and_eq_true, decide_eq_true_eq] at this
    rw [rd_dev D i h] at this
    exact ⟨this.1.1.1, this.1.1.2, this.1.2.1, this.1.2.2⟩
  · intro i h
    have := (hS (i + 1) h).1
    unfold bktStep at this
    rw [show (((i + 1 : Nat) : Int) - 1) = (i : Int) from by omega, rd_bkt B i (by omega), rd_bkt B (i + 1) h] at this
    simp at this
    omega
  · intro i h
    have := hdv (i + 1) h
    unfold devStep at this
    rw [show (((i + 1 : Nat) : Int) - 1) = (i : Int) from by omega, rd_dev D i (by omega), rd_dev D (i + 1) h] at this
    simp at this
    omega
  · intro i h x hx
    have h2 := (hS i h).2
    rw [rd_bkt B i h] at h2
    have hb := (hk i h).2.1
    rw [← fits_items D B _ _ hb.1 hb.2] at h2
    unfold fitsB at h2
    rw [range_all B[i].f2 (fitOne D B B[i].f1 B[i].f2), List.all_eq_true] at h2
    exact h2 x hx
theorem idx_none {α : Type} (p : α → Bool) (l : List α) (h : ∀ x ∈ l, p x = false) : ∀ (d i : Nat), i + d = l.length → idxFrom p (l.drop i) i = -1
  | 0, i, hd => by
    rw [List.drop_of_length_le (by omega)]; rfl
  | d + 1, i, hd => by
    rw [idx_step p l i (by omega), if_neg (by rw [h _ (List.getElem_mem (by omega))]; decide)]
    exact idx_none p l h d (i + 1) (by omega)
theorem idx_first {α : Type} (p : α → Bool) (l : List α) (n : Nat) (hn : n < l.length) (hp : p l[n] = true) (hb : ∀ j (h : j < n), p l[j] = false) : ∀ (d i : Nat), i + d = n → idxFrom p (l.drop i) i = (n : Int)
  | 0, i, hd => by
    obtain rfl : i = n := by omega
    rw [idx_step p l i hn, if_pos hp]
  | d + 1, i, hd => by
    rw [idx_step p l i (by omega), if_neg (by rw [hb i (by omega)]; decide)]
    exact idx_first p l n hn hp hb d (i + 1) (by omega)
/-- the index found is one that answers -/
theorem idx_hit {α : Type} (p : α → Bool) (l : List α) : ∀ (d i : Nat), i + d = l.length → idxFrom p (l.drop i) i = -1 ∨ ∃ n, ∃ (h : n < l.length), idxFrom p (l.drop i) i = (n : Int) ∧ p l[n] = true
  | 0, i, hd => by
    left
    rw [List.drop_of_length_le (by omega)]; rfl
  | d + 1, i, hd => by
    rw [idx_step p l i (by omega)]
    by_cases c : p (l[i]'(by omega)) = true
    · rw [if_pos c]
      exact .inr ⟨i, by omega, rfl, c⟩
    · rw [if_neg c]
      exact idx_hit p l d (i + 1) (by omega)
theorem bucketAt_hit (B : List S108) (id : Int) : bucketAt B id = -1 ∨ ∃ n, ∃ (h : n < B.length), bucketAt B id = (n : Int) ∧ B[n].f0 = id := by
  rcases idx_hit (fun x : S108 => x.f0 == id) B B.length 0 (by omega) with h | ⟨n, hn, h1, h2⟩
  · exact .inl h
  · exact .inr ⟨n, hn, h1, by simpa using h2⟩
theorem devAt_hit (D : List S50) (id : Int) : devAt D id = -1 ∨ ∃ n, ∃ (h : n < D.length), devAt D id = (n : Int) ∧ D[n].f0 = id := by
  rcases idx_hit (fun x : S50 => x.f0 == id) D D.length 0 (by omega) with h | ⟨n, hn, h1, h2⟩
  · exact .inl h
  · exact .inr ⟨n, hn, h1, by simpa using h2⟩
theorem down_lt {D : List S50} {B : List S108} (V : Valid D B) : ∀ (d i : Nat) (h : i + d + 1 < B.length), B[i + d + 1].f0 < B[i].f0
  | 0, i, h => V.down i h
  | d + 1, i, h => by
    have h1 := down_lt V d i (by omega)
    have h2 := V.down (i + d + 1) h
    exact Int.lt_trans h2 h1
theorem down_of {D : List S50} {B : List S108} (V : Valid D B) (i j : Nat) (hij : i < j) (h : j < B.length) : B[j].f0 < B[i].f0 := by
  obtain ⟨d, rfl⟩ : ∃ d, j = i + d + 1 := ⟨j - i - 1, by omega⟩
  exact down_lt V d i h
theorem bucketAt_own {D : List S50} {B : List S108} (V : Valid D B) (n : Nat) (hn : n < B.length) : bucketAt B B[n].f0 = (n : Int) :=
  idx_first (fun x : S108 => x.f0 == B[n].f0) B n hn (by simp) (fun j hj => by
    have := down_of V j n hj hn
    have : ¬ B[j].f0 = B[n].f0 := by omega
    simpa using this) n 0 (by omega)
theorem devAt_none {D : List S50} {B : List S108} (V : Valid D B) (id : Int) (h : id < 0) : devAt D id = -1 := by
  rcases devAt_hit D id with e | ⟨n, hn, _, e⟩
  · exact e
  · have := V.devs n hn
    omega
theorem kindAt_own {D : List S50} {B : List S108} (V : Valid D B) (n : Nat) (hn : n < B.length) : kindAt D B B[n].f0 = B[n].f1 := by
  have hk : kindAt D B B[n].f0 = if 0 ≤ devAt D B[n].f0 then 0 else if bucketAt B B[n].f0 < 0 then -1 else (rd_T108 B (bucketAt B B[n].f0)).f1 := rfl
  rw [hk, devAt_none V _ (by have := V.bkts n hn; omega), bucketAt_own V n hn, if_neg (by omega), if_neg (by omega), rd_bkt B n hn]
theorem kindAt_le {D : List S50} {B : List S108} (V : Valid D B) (id : Int) : -1 ≤ kindAt D B id ∧ kindAt D B id ≤ 3 := by
  have hk : kindAt D B id = if 0 ≤ devAt D id then 0 else if bucketAt B id < 0 then -1 else (rd_T108 B (bucketAt B id)).f1 := rfl
  rw [hk]
  split
  · omega
  · split
    · omega
    · rcases bucketAt_hit B id with e | ⟨n, hn, e, _⟩
      · omega
      · rw [e, rd_bkt B n hn]
        have := V.bkts n hn
        omega
/-- a kind of a bucket is a bucket's -/
theorem kindAt_bucket {D : List S50} {B : List S108} (V : Valid D B) (id : Int) (h : 1 ≤ kindAt D B id) : ∃ n, ∃ (h : n < B.length), bucketAt B id = (n : Int) ∧ B[n].f0 = id ∧ id < 0 ∧ kindAt D B id = B[n].f1 := by
  have hk : kindAt D B id = if 0 ≤ devAt D id then 0 else if bucketAt B id < 0 then -1 else (rd_T108 B (bucketAt B id)).f1 := rfl
  rw [hk] at h
  split at h
  · omega
  · split at h
    · omega
    · rcases bucketAt_hit B id with e | ⟨n, hn, e, e2⟩
      · omega
      · refine ⟨n, hn, e, e2, ?_, ?_⟩
        · have := V.bkts n hn; omega
        · rw [← e2]; exact kindAt_own V n hn
/-- what lies in a bucket is of a lower kind -/
theorem item_kind {D : List S50} {B : List S108} (V : Valid D B) (n : Nat) (hn : n < B.length) (x : Int) (hx : x ∈ B[n].f2) : 0 ≤ kindAt D B x ∧ kindAt D B x < B[n].f1 := by
  have h := V.fits n hn x hx
  have hb := (V.bkts n hn).2.1
  unfold fitOne at h
  by_cases c : B[n].f1 < 3
  · rw [if_pos c] at h
    have := eq_of_beq h
    omega
  · rw [if_neg c, Bool.and_eq_true, Bool.or_eq_true] at h
    rcases h.2 with h | h
    · have := eq_of_beq h; omega
    · have := eq_of_beq h; omega
end Go.Proofs.Ytkadeelplnkpgaa.Pure

-- text ORise
namespace Go.Proofs.Ytkadeelplnkpgaa.Pure
open Go.RowKit Go.Proofs.YtkadeelplnkpgaaW.PrintWords Go.Proofs.YtkadeelplnkpgaaW.PrintLast Go.Proofs.YtkadeelplnkpgaaW.PrintMore
set_option linter.unusedVariables false
set_option linter.unusedSimpArgs false

def Rise (l : List Int) : Prop := l.Pairwise (· < ·)
theorem rise_ext : ∀ (a b : List Int), Rise a → Rise b → (∀ x, x ∈ a ↔ x ∈ b) → a = b
  | [], [], _, _, _ => rfl
  | [], y :: b, _, _, h => absurd ((h y).2 (by simp)) (by simp)
  | x :: a, [], _, _, h => absurd ((h x).1 (by simp)) (by simp)
  | x :: a, y :: b, ha, hb, h => by
    obtain ⟨ha1, ha2⟩ := List.pairwise_cons.1 ha
    obtain ⟨hb1, hb2⟩ := List.pairwise_cons.1 hb
    have hxy : x = y := by
      rcases List.mem_cons.1 ((h x).1 (by simp)) with e | e
      · exact e
      · rcases List.mem_cons.1 ((h y).2 (by simp)) with e2 | e2
        · exact e2.symm
        · have := ha1 y e2
          have := hb1 x e
          omega
    subst hxy
    congr 1
    refine rise_ext a b ha2 hb2 (fun z => ⟨fun hz => ?_, fun hz => ?_⟩)
    · rcases List.mem_cons.1 ((h z).1 (List.mem_cons_of_mem _ hz)) with e | e
      · have := ha1 z hz
        omega
      · exact e
    · rcases List.mem_cons.1 ((h z).2 (List.mem_cons_of_mem _ hz)) with e | e
      · have := hb1 z hz
        omega
      · exact e
/-- a number put to its place, once -/
def putR : List Int → Int → List Int
  | [], n => [n]
  | x :: xs, n => if x < n then x :: putR xs n else if x = n then x :: xs else n :: x :: xs
theorem mem_putR (y n : Int) : ∀ l, y ∈ putR l n ↔ y = n ∨ y ∈ l
  | [] => by simp [putR]
  | x :: xs => by
    unfold putR
    by_cases c : x < n
    · rw [if_pos c, List.mem_cons, mem_putR y n xs, List.mem_cons]
      constructor
      · rintro (h | h | h)
        · exact .inr (.inl h)
        · exact .inl h
        · exact .inr (.inr h)
      · rintro (h | h | h)
        · exact .inr (.inl h)
        · exact .inl h
        · exact .inr (.inr h)
    · rw [if_neg c]
      by_cases c2 : x = n
      · rw [if_pos c2]
        subst c2
        simp
      · rw [if_neg c2]
        simp
theorem rise_putR (n : Int) : ∀ l, Rise l → Rise (putR l n)
  | [], _ => by simp [putR, Rise]
  | x :: xs, h => by
    obtain ⟨h1, h2⟩ := List.pairwise_cons.1 h
    unfold putR
    by_cases c : x < n
    · rw [if_pos c]
      refine List.pairwise_cons.2 ⟨fun y hy => ?_, rise_putR n xs h2⟩
      rcases (mem_putR y n xs).1 hy with rfl | hy
      · exact c
      · exact h1 y hy
    · rw [if_neg c]
      by_cases c2 : x = n
      · rw [if_pos c2]; exact h
      · rw [if_neg c2]
        refine List.pairwise_cons.2 ⟨fun y hy => ?_, h⟩
        rcases List.mem_cons.1 hy with rfl | hy
        · omega
        · have := h1 y hy
          omega
theorem putR_length (n : Int) : ∀ l, (putR l n).length ≤ l.length + 1
  | [] => by simp [putR]
  | x :: xs => by
    unfold putR
    have := putR_length n xs
    split
    · simp; omega
    · split <;> simp
theorem fold_putR : ∀ (l acc : List Int), Rise acc → Rise (l.foldl putR acc) ∧ (∀ y, y ∈ l.foldl putR acc ↔ y ∈ acc ∨ y ∈ l) ∧ (l.foldl putR acc).length ≤ acc.length + l.length
  | [], acc, h => ⟨h, by simp, by simp⟩
  | x :: l, acc, h => by
    obtain ⟨h1, h2, h3⟩ := fold_putR l (putR acc x) (rise_putR x acc h)
    refine ⟨h1, fun y => ?_, ?_⟩
    · rw [List.foldl_cons, h2 y, mem_putR, List.mem_cons]
      constructor
      · rintro ((h | h) | h)
        · exact .inr (.inl h)
        · exact .inl h
        · exact .inr (.inr h)
      · rintro (h | h | h)
        · exact .inl (.inr h)
        · exact .inl (.inl h)
        · exact .inr h
    · have := putR_length x acc
      rw [List.foldl_cons]
      simp only [List.length_cons]
      omega
theorem sortI_mem (l : List Int) (x : Int) : x ∈ sortI l ↔ x ∈ l := List.mem_mergeSort
theorem sortI_nodup (l : List Int) (h : l.Nodup) : (sortI l).Nodup := (List.mergeSort_perm l _).nodup_iff.2 h
theorem sortI_rise (l : List Int) (h : l.Nodup) : Rise (sortI l) := by
  have h1 : (sortI l).Pairwise fun a b => decide (a ≤ b) = true := List.pairwise_mergeSort (fun a b c => by simp only [decide_eq_true_eq]; omega) (fun a b => by simp only [Bool.or_eq_true, decide_eq_true_eq]; omega) l
  have h2 : (sortI l).Pairwise (· ≠ ·) := sortI_nodup l h
  exact (List.pairwise_and_iff.2 ⟨h1, h2⟩).imp (fun {a b} h => by have h1 := of_decide_eq_true h.1; have h2 := h.2; omega)
/-- put in one by one, or sorted at the end -/
theorem fold_sort (l : List Int) (h : l.Nodup) : l.foldl putR [] = sortI l := by
  obtain ⟨h1, h2, _⟩ := fold_putR l [] (by simp [Rise])
  exact rise_ext _ _ h1 (sortI_rise l h) (fun x => by rw [h2 x, sortI_mem]; simp)
theorem flatMap_length {α β : Type} (g : α → List β) (c : Nat) : ∀ l : List α, (∀ x ∈ l, (g x).length ≤ c) → (l.flatMap g).length ≤ l.length * c
  | [], _ => by simp
  | x :: xs, h => by
    rw [List.flatMap_cons, List.length_append, List.length_cons, Nat.add_mul, Nat.one_mul]
    have := flatMap_length g c xs (fun y hy => h y (List.mem_cons_of_mem _ hy))
    have := h x (by simp)
    omega
end Go.Proofs.Ytkadeelplnkpgaa.Pure

-- text OUnder
namespace Go.Proofs.Ytkadeelplnkpgaa.Pure
open Go.RowKit Go.Proofs.Ytkadeelplnkpgaa.Q Go.Proofs.YtkadeelplnkpgaaW.PrintWords Go.Proofs.YtkadeelplnkpgaaW.PrintLast Go.Proofs.YtkadeelplnkpgaaW.PrintMore
set_option linter.unusedVariables false
set_option linter.unusedSimpArgs false

/-- the devices below a thing, rising -/
def underN (B : List S108) : Nat → Int → List Int
  | 0, id => [id]
  | n + 1, id => if bucketAt B id < 0 then [id] else sortI ((rd_T108 B (bucketAt B id)).f2.flatMap (underN B n))
theorem bucket_kind {D : List S50} {B : List S108} (V : Valid D B) (id : Int) (h : ¬ bucketAt B id < 0) : ∃ j, ∃ (hj : j < B.length), bucketAt B id = (j : Int) ∧ B[j].f0 = id ∧ kindAt D B id = B[j].f1 ∧ rd_T108 B (bucketAt B id) = B[j] := by
  rcases bucketAt_hit B id with e | ⟨j, hj, e, e2⟩
  · omega
  · exact ⟨j, hj, e, e2, by rw [← e2]; exact kindAt_own V j hj, by rw [e]; exact rd_bkt B j hj⟩
theorem kind_dev {D : List S50} {B : List S108} (id : Int) (h : bucketAt B id < 0) (hk : 0 ≤ kindAt D B id) : 0 ≤ devAt D id ∧ kindAt D B id = 0 := by
  have e : kindAt D B id = if 0 ≤ devAt D id then 0 else if bucketAt B id < 0 then -1 else (rd_T108 B (bucketAt B id)).f1 := rfl
  by_cases c : 0 ≤ devAt D id
  · exact ⟨c, by rw [e, if_pos c]⟩
  · rw [e, if_neg c, if_pos h] at hk
    omega
theorem kind_zero {D : List S50} {B : List S108} (V : Valid D B) (id : Int) (h : kindAt D B id = 0) : bucketAt B id < 0 := by
  by_cases c : bucketAt B id < 0
  · exact c
  · obtain ⟨j, hj, _, _, e, _⟩ := bucket_kind V id c
    have := V.bkts j hj
    omega
theorem underN_length {D : List S50} {B : List S108} (V : Valid D B) : ∀ (n : Nat) (id : Int), (underN B n id).length ≤ 8 ^ n
  | 0, id => by simp [underN]
  | n + 1, id => by
    unfold underN
    by_cases c : bucketAt B id < 0
    · rw [if_pos c]
      exact Nat.one_le_pow _ _ (by omega)
    · rw [if_neg c, sortI_length]
      obtain ⟨j, hj, _, _, _, e⟩ := bucket_kind V id c
      rw [e]
      have h8 := (V.bkts j hj).2.2
      have h1 := flatMap_length (underN B n) (8 ^ n) B[j].f2 (fun x _ => underN_length V n x)
      have h2 : B[j].f2.length * 8 ^ n ≤ 8 * 8 ^ n := Nat.mul_le_mul_right _ h8
      rw [Nat.pow_succ, Nat.mul_comm]
      exact Nat.le_trans h1 h2
theorem useGo_nodup : ∀ (items u u' : List Int), useGo u items = some u' → u.Nodup → u'.Nodup
  | [], u, u', h, hn => by
    simp only [useGo, Option.some.injEq] at h
    subst h
    exact hn
  | x :: xs, u, u', h, hn => by
    rw [useGo_cons] at h
    by_cases c : (u.any fun y => y == x) = true
    · rw [if_pos c] at h; cases h
    · rw [if_neg c] at h
      refine useGo_nodup xs (u ++ [x]) u' h ?_
      rw [List.nodup_append]
      refine ⟨hn, by simp, fun a ha b hb e => ?_⟩
      simp only [List.mem_singleton] at hb
      subst hb
      subst e
      exact c (List.any_eq_true.2 ⟨a, ha, by simp⟩)
theorem onceGo_nodup (B : List S108) : ∀ (d i : Nat) (u : List Int), i + d = B.length → onceGo B d (i : Int) u = true → u.Nodup → (u ++ (B.drop i).flatMap (·.f2)).Nodup
  | 0, i, u, hd, _, hn => by
    rw [List.drop_of_length_le (by omega)]
    simpa using hn
  | d + 1, i, u, hd, h, hn => by
    have hi : i < B.length := by omega
    unfold onceGo at h
    rw [rd_bkt B i hi] at h
    cases hu : useGo u B[i].f2 with
    | none => rw [hu] at h; cases h
    | some u' =>
      rw [hu] at h
      have h' : onceGo B d (((i + 1 : Nat)) : Int) u' = true := h
      have := onceGo_nodup B d (i + 1) u' (by omega) h' (useGo_nodup _ _ _ hu hn)
      rw [useGo_length _ _ _ hu] at this
      rw [List.drop_eq_getElem_cons hi, List.flatMap_cons, ← List.append_assoc]
      exact this
theorem once_all {D : List S50} {B : List S108} (V : Valid D B) : (B.flatMap (·.f2)).Nodup := by
  have := onceGo_nodup B B.length 0 [] (by omega) V.once (by simp)
  simpa using this
theorem items_nodup {D : List S50} {B : List S108} (V : Valid D B) (j : Nat) (hj : j < B.length) : B[j].f2.Nodup := (List.pairwise_flatMap.1 (once_all V)).1 _ (List.getElem_mem hj)
theorem items_apart {D : List S50} {B : List S108} (V : Valid D B) (i j : Nat) (hi : i < B.length) (hj : j < B.length) (x : Int) (h1 : x ∈ B[i].f2) (h2 : x ∈ B[j].f2) : i = j := by
  have h := (List.pairwise_flatMap.1 (once_all V)).2
  rw [List.pairwise_iff_getElem] at h
  rcases Nat.lt_trichotomy i j with c | c | c
  · exact absurd rfl (h i j hi hj c x h1 x h2)
  · exact c
  · exact absurd rfl (h j i hj hi c x h2 x h1)
/-- the kinds of a bucket's things are all the same -/
theorem item_kinds {D : List S50} {B : List S108} (V : Valid D B) (j : Nat) (hj : j < B.length) (x y : Int) (hx : x ∈ B[j].f2) (hy : y ∈ B[j].f2) : kindAt D B x = kindAt D B y := by
  have h1 := V.fits j hj x hx
  have h2 := V.fits j hj y hy
  unfold fitOne at h1 h2
  by_cases c : B[j].f1 < 3
  · rw [if_pos c] at h1 h2
    rw [eq_of_beq h1, eq_of_beq h2]
  · rw [if_neg c, Bool.and_eq_true] at h1 h2
    rw [eq_of_beq h1.1, eq_of_beq h2.1]
theorem under_apart {D : List S50} {B : List S108} (V : Valid D B) (x : Int) : ∀ (n : Nat) (a b : Int), kindAt D B a = kindAt D B b → 0 ≤ kindAt D B a → kindAt D B a ≤ 2 → x ∈ underN B n a → x ∈ underN B n b → a = b
  | 0, a, b, _, _, _, ha, hb => by
    simp only [underN, List.mem_singleton] at ha hb
    rw [← ha, hb]
  | n + 1, a, b, hk, h0, h2, ha, hb => by
    unfold underN at ha hb
    by_cases c : bucketAt B a < 0
    · have ka := (kind_dev a c h0).2
      have cb := kind_zero V b (by rw [← hk]; exact ka)
      rw [if_pos c] at ha
      rw [if_pos cb] at hb
      simp only [List.mem_singleton] at ha hb
      rw [← ha, hb]
    · obtain ⟨i, hi, _, ea, ka, ra⟩ := bucket_kind V a c
      have hki := V.bkts i hi
      have cb : ¬ bucketAt B b < 0 := fun cb => by
        have := (kind_dev b cb (by rw [← hk]; exact h0)).2
        omega
      obtain ⟨j, hj, _, eb, kb, rb⟩ := bucket_kind V b cb
      rw [if_neg c, ra, sortI_mem, List.mem_flatMap] at ha
      rw [if_neg cb, rb, sortI_mem, List.mem_flatMap] at hb
      obtain ⟨y, hy, hxy⟩ := ha
      obtain ⟨z, hz, hxz⟩ := hb
      have fy := V.fits i hi y hy
      have fz := V.fits j hj z hz
      unfold fitOne at fy fz
      rw [if_pos (by omega)] at fy fz
      have fy := eq_of_beq fy
      have fz := eq_of_beq fz
      have hyz := under_apart V x n y z (by omega) (by omega) (by omega) hxy hxz
      subst hyz
      have hij := items_apart V i j hi hj y hy hz
      subst hij
      rw [← ea, ← eb]
theorem under_nodup {D : List S50} {B : List S108} (V : Valid D B) : ∀ (n : Nat) (id : Int), (underN B n id).Nodup
  | 0, id => by simp [underN]
  | n + 1, id => by
    unfold underN
    by_cases c : bucketAt B id < 0
    · rw [if_pos c]; simp
    · rw [if_neg c]
      obtain ⟨j, hj, _, _, _, e⟩ := bucket_kind V id c
      rw [e]
      refine sortI_nodup _ (List.pairwise_flatMap.2 ⟨fun a _ => under_nodup V n a, ?_⟩)
      refine List.Pairwise.imp_of_mem (fun {a b} ha hb hab x hx y hy hxy => ?_) (items_nodup V j hj)
      subst hxy
      have ka := item_kind V j hj a ha
      have := (V.bkts j hj).2.1
      exact hab (under_apart V x n a b (item_kinds V j hj a b ha hb) ka.1 (by omega) hx hy)
/-- the things of a bucket, their devices one behind the other: none twice -/
theorem flat_nodup {D : List S50} {B : List S108} (V : Valid D B) (n : Nat) (j : Nat) (hj : j < B.length) : (B[j].f2.flatMap (underN B n)).Nodup := by
  refine List.pairwise_flatMap.2 ⟨fun a _ => under_nodup V n a, ?_⟩
  refine List.Pairwise.imp_of_mem (fun {a b} ha hb hab x hx y hy hxy => ?_) (items_nodup V j hj)
  subst hxy
  have ka := item_kind V j hj a ha
  have := (V.bkts j hj).2.1
  exact hab (under_apart V x n a b (item_kinds V j hj a b ha hb) ka.1 (by omega) hx hy)
theorem under_dev {D : List S50} {B : List S108} (V : Valid D B) : ∀ (n : Nat) (id : Int), 0 ≤ kindAt D B id → kindAt D B id < n → ∀ x ∈ underN B n id, 0 ≤ devAt D x
  | 0, id, h0, h1, _, _ => by omega
  | n + 1, id, h0, h1, x, hx => by
    unfold underN at hx
    by_cases c : bucketAt B id < 0
    · rw [if_pos c] at hx
      simp only [List.mem_singleton] at hx
      subst hx
      exact (kind_dev x c h0).1
    · rw [if_neg c] at hx
      obtain ⟨j, hj, _, _, ek, e⟩ := bucket_kind V id c
      rw [e, sortI_mem, List.mem_flatMap] at hx
      obtain ⟨y, hy, hxy⟩ := hx
      have ky := item_kind V j hj y hy
      exact under_dev V n y ky.1 (by omega) x hxy
end Go.Proofs.Ytkadeelplnkpgaa.Pure

-- text OUnderEv
namespace Go.Proofs.Ytkadeelplnkpgaa.Pure
open Go.RowKit Go.Proofs.Ytkadeelplnkpgaa.Q Go.Proofs.YtkadeelplnkpgaaW.PrintWords Go.Proofs.YtkadeelplnkpgaaW.PrintLast Go.Proofs.YtkadeelplnkpgaaW.PrintMore
set_option linter.unusedVariables false
set_option linter.unusedSimpArgs false

/-- what the reference's put has come to -/
def PutAt (l : List Int) (n : Int) (i : Nat) (s : List Int × Bool) : Prop := s.1 ++ (if s.2 = true then l.drop i else putR (l.drop i) n) = putR l n ∧ s.1.length ≤ i + (if s.2 = true then 1 else 0)
theorem spec_put_ev (l : List Int) (n : Int) (hl : l.length ≤ 17592186044414) : Ev (fun k => spec_l00Put.f k l n) (putR l n) := by
  refine loop_is l.length (fun k (s : List Int × Bool) i => spec_l00Put.l0 k l n s.1 s.2 i) (PutAt l n) _ ?_ ?_ ([], false) ⟨rfl, by simp⟩
  · rintro i ⟨out, done⟩ hi ⟨h1, h2⟩
    simp only at h1 h2
    rw [List.drop_eq_getElem_cons hi] at h1
    cases done with
    | true =>
      simp only [if_true] at h1 h2
      refine .inr ⟨(out ++ [l[i]], true), ⟨by simpa using h1, by simp; omega⟩, fun r hr => Ev.step (f := fun k => spec_l00Put.j1 k l n out true i false) (fun k => ?_) (Ev.step (fun k => ?_) hr)⟩
      · simp only [spec_l00Put.l0]
        rw [if_pos (by omega)]
        rfl
      · simp only [spec_l00Put.j1, Bool.false_eq_true, if_false]
        rw [if_pos (by omega), if_pos (by omega), if_pos (by omega), up64 i l.length hi (by omega), rd_get l i hi]
    | false =>
      simp only [Bool.false_eq_true, if_false] at h1 h2
      simp only [putR] at h1
      have hstep : ∀ r, Ev (fun k => spec_l00Put.j1 k l n out false i (decide (l[i] ≥ n))) r → Ev (fun k => spec_l00Put.l0 k l n out false i) r := fun r hr => Ev.step (fun k => by
        simp only [spec_l00Put.l0]
        simp only [Bool.false_eq_true, if_false]
        rw [if_pos (by omega), if_pos (by omega), rd_get l i hi]) hr
      by_cases c : l[i] < n
      · rw [if_pos c] at h1
        refine .inr ⟨(out ++ [l[i]], false), ⟨by simpa using h1, by simp; omega⟩, fun r hr => hstep r ?_⟩
        rw [decide_eq_false (by omega)]
        refine Ev.step (fun k => ?_) hr
        simp only [spec_l00Put.j1, Bool.false_eq_true, if_false]
        rw [if_pos (by omega), if_pos (by omega), if_pos (by omega), up64 i l.length hi (by omega), rd_get l i hi]
      · rw [if_neg c] at h1
        by_cases c2 : l[i] = n
        · rw [if_pos c2] at h1
          refine .inr ⟨(out ++ [l[i]], true), ⟨by simpa using h1, by simp; omega⟩, fun r hr => hstep r ?_⟩
          rw [decide_eq_true (by omega)]
          refine Ev.step (fun k => ?_) hr
          simp only [spec_l00Put.j1, if_true]
          rw [if_pos (by omega), if_pos (by omega), rd_get l i hi, if_neg (by omega), if_pos (by omega), up64 i l.length hi (by omega)]
        · rw [if_neg c2] at h1
          refine .inr ⟨(out ++ [n] ++ [l[i]], true), ⟨by simpa using h1, ?_⟩, fun r hr => hstep r ?_⟩
          · simp only [List.length_append, List.length_singleton, if_true]; omega
          · rw [decide_eq_true (by omega)]
            refine Ev.step (fun k => ?_) hr
            simp only [spec_l00Put.j1, if_true]
            rw [if_pos (by omega), if_pos (by omega), rd_get l i hi, if_pos (by omega), if_pos (by omega)]
            simp only [Option.bind_some]
            rw [if_pos (by rw [List.length_append, List.length_singleton]; omega), up64 i l.length hi (by omega)]
  · rintro ⟨out, done⟩ ⟨h1, h2⟩
    simp only at h1 h2
    rw [List.drop_length] at h1
    cases done with
    | true =>
      refine ev_end (fun k => ?_)
      simp only [spec_l00Put.l0]
      rw [if_neg (by omega)]
      simp only [if_true, List.append_nil] at h1 ⊢
      rw [h1]
    | false =>
      refine ev_end (fun k => ?_)
      simp only [spec_l00Put.l0]
      simp only [Bool.false_eq_true, if_false, putR] at h1 h2 ⊢
      rw [if_neg (by omega), if_pos (by omega)]
      rw [h1]
theorem kind_neg {D : List S50} {B : List S108} (V : Valid D B) (id : Int) (h : kindAt D B id < 0) : bucketAt B id < 0 := by
  by_cases c : bucketAt B id < 0
  · exact c
  · obtain ⟨j, hj, _, _, e, _⟩ := bucket_kind V id c
    have := V.bkts j hj
    omega
theorem under_flat {D : List S50} {B : List S108} (V : Valid D B) (n : Nat) (j : Nat) (hj : j < B.length) (i : Nat) : ((B[j].f2.take i).flatMap (underN B n)).length ≤ 8 * 8 ^ n := by
  have h8 := (V.bkts j hj).2.2
  have h1 := flatMap_length (underN B n) (8 ^ n) (B[j].f2.take i) (fun x _ => underN_length V n x)
  exact Nat.le_trans h1 (Nat.mul_le_mul_right _ (by rw [List.length_take]; omega))
theorem underL_ev {D : List S50} {B : List S108} (V : Valid D B) (n : Nat) (j : Nat) (hj : j < B.length) (hn : 8 * 8 ^ n ≤ 1048576) (g : Nat → Int → Option (List Int)) (hg : ∀ x ∈ B[j].f2, Ev (fun k => g k x) (underN B n x)) : ∀ (d i : Nat), i + d = B[j].f2.length → Ev (fun k => underL (g k) ((B[j].f2.take i).flatMap (underN B n)) (B[j].f2.drop i)) (B[j].f2.flatMap (underN B n))
  | 0, i, hd => by
    rw [List.drop_of_length_le (by omega), List.take_of_length_le (by omega)]
    exact Ev.now _
  | d + 1, i, hd => by
    have hi : i < B[j].f2.length := by omega
    have h := underL_ev V n j hj hn g hg d (i + 1) (by omega)
    have hb := under_flat V n j hj (i + 1)
    rw [List.drop_eq_getElem_cons hi]
    simp only [underL]
    refine Ev.bind (hg _ (List.getElem_mem hi)) ?_
    rw [List.take_succ_eq_append_getElem hi, List.flatMap_append, List.flatMap_singleton] at h hb
    rw [List.length_append] at hb
    simp only [if_pos (Nat.le_trans hb hn)]
    exact h
theorem impl_under_ev {D : List S50} {B : List S108} (V : Valid D B) : ∀ (n : Nat) (id : Int), n ≤ 5 → kindAt D B id < n → Ev (fun k => impl_Tree_nodesUnder.f k D B id) (underN B n id)
  | 0, id, _, h => by
    refine ev_end (fun k => ?_)
    simp only [impl_Tree_nodesUnder.f]
    rw [if_pos (kind_neg V id (by omega))]
    rfl
  | n + 1, id, h5, h => by
    by_cases c : bucketAt B id < 0
    · refine ev_end (fun k => ?_)
      simp only [impl_Tree_nodesUnder.f, underN]
      rw [if_pos c, if_pos c]
    · obtain ⟨j, hj, _, _, ek, e⟩ := bucket_kind V id c
      have hn : 8 * 8 ^ n ≤ 1048576 := by
        have := Nat.pow_le_pow_right (n := 8) (by omega) (show n ≤ 4 by omega)
        omega
      have hL := underL_ev V n j hj hn (fun k x => impl_Tree_nodesUnder.f k D B x) (fun x hx => impl_under_ev V n x (by omega) (by have := item_kind V j hj x hx; omega)) B[j].f2.length 0 (by omega)
      refine Ev.step (f := ?f) (fun k => ?_) ?_
      rotate_left
      · simp only [impl_Tree_nodesUnder.f]
        rw [if_neg c, e]
        all_goals exact rfl
      · simp only [underN]
        rw [if_neg c, e]
        simp only [Option.map_eq_bind]
        exact Ev.bind hL (Ev.now _)
theorem spec_under_ev {D : List S50} {B : List S108} (V : Valid D B) : ∀ (n : Nat) (id : Int), n ≤ 5 → kindAt D B id < n → Ev (fun k => spec_l06Under.f k D B id) (underN B n id) := fun n id h5 h => by
  have hB := V.bkt
  refine Ev.step (f := fun k => (spec_l06Bucket.f k D B id).bind fun t => if t < 0 then some [id] else spec_l06Under.l0 k t [] 0 D B) (fun k => rfl) ?_
  refine Ev.bind (specBucket_ev D B id (by omega)) ?_
  by_cases c : bucketAt B id < 0
  · simp only [if_pos c]
    have e : underN B n id = [id] := by cases n with
      | zero => rfl
      | succ n => simp only [underN, if_pos c]
    rw [e]
    exact Ev.now _
  · simp only [if_neg c]
    obtain ⟨j, hj, ej, _, ek, e⟩ := bucket_kind V id c
    cases n with
    | zero => have := V.bkts j hj; omega
    | succ n =>
      have hu : underN B (n + 1) id = (B[j].f2.flatMap (underN B n)).foldl putR [] := by
        rw [fold_sort _ (flat_nodup V n j hj)]
        simp only [underN, if_neg c, e]
      have hn : 8 * 8 ^ n ≤ 1048576 := by
        have := Nat.pow_le_pow_right (n := 8) (by omega) (show n ≤ 4 by omega)
        omega
      rw [hu, ej]
      have h8 := (V.bkts j hj).2.2
      refine loop_is B[j].f2.length (fun k (s : List Int) i => spec_l06Under.l0 k j s i D B) (fun i s => s = ((B[j].f2.take i).flatMap (underN B n)).foldl putR []) _ ?_ ?_ [] (by simp)
      · rintro i s hi rfl
        refine .inr ⟨_, rfl, fun r hr => Ev.step (f := ?f) (fun k => ?_) ?_⟩
        rotate_left
        · simp only [spec_l06Under.l0]
          rw [if_pos (by omega), if_pos (by omega), rd_bkt B j hj, if_pos (by omega), if_pos (by omega), rd_get _ i hi]
          all_goals exact rfl
        · refine Ev.bind (spec_under_ev V n _ (by omega) (by have := item_kind V j hj _ (List.getElem_mem hi); omega)) ?_
          rw [List.take_succ_eq_append_getElem hi, List.flatMap_append, List.flatMap_singleton, List.foldl_append] at hr
          have hb : (((B[j].f2.take i).flatMap (underN B n)).foldl putR []).length ≤ 1048576 := by
            have := (fold_putR ((B[j].f2.take i).flatMap (underN B n)) [] (by simp [Rise])).2.2
            have h2 := under_flat V n j hj i
            simp only [List.length_nil] at this
            omega
          have hr0 := (fold_putR ((B[j].f2.take i).flatMap (underN B n)) [] (by simp [Rise])).1
          have ht : (underN B n B[j].f2[i]).length ≤ 1048576 := by have := underN_length V n B[j].f2[i]; omega
          generalize ((B[j].f2.take i).flatMap (underN B n)).foldl putR [] = acc at hr hb hr0 ⊢
          generalize underN B n B[j].f2[i] = t at hr ht ⊢
          refine loop_is t.length (fun k (s : List Int) u => spec_l06Under.l1 k j s i t u D B) (fun u s => s = (t.take u).foldl putR acc) _ ?_ ?_ acc (by simp)
          · rintro u s hu rfl
            refine .inr ⟨_, rfl, fun r hr => Ev.step (f := ?f2) (fun k => ?_) ?_⟩
            rotate_left
            · simp only [spec_l06Under.l1]
              rw [if_pos (by omega), if_pos (by omega), rd_get _ u hu, up64 u t.length hu (by omega)]
              all_goals exact rfl
            · have hl : ((t.take u).foldl putR acc).length ≤ 17592186044414 := by
                have := (fold_putR (t.take u) acc hr0).2.2
                rw [List.length_take] at this
                omega
              refine Ev.bind (spec_put_ev _ _ hl) ?_
              rw [List.take_succ_eq_append_getElem hu, List.foldl_append] at hr
              exact hr
          · rintro s rfl
            refine Ev.step (fun k => ?_) hr
            simp only [spec_l06Under.l1]
            rw [if_neg (by omega), up64 i B[j].f2.length hi (by omega), List.take_length]
      · rintro s rfl
        refine ev_end (fun k => ?_)
        simp only [spec_l06Under.l0]
        rw [if_pos (by omega), if_pos (by omega), rd_bkt B j hj, if_neg (by omega), List.take_length]
end Go.Proofs.Ytkadeelplnkpgaa.Pure

-- text OWeight
namespace Go.Proofs.Ytkadeelplnkpgaa.Pure
open Go.RowKit Go.Proofs.Ytkadeelplnkpgaa.Q Go.Proofs.YtkadeelplnkpgaaW.PrintWords Go.Proofs.YtkadeelplnkpgaaW.PrintLast Go.Proofs.YtkadeelplnkpgaaW.PrintMore
set_option linter.unusedVariables false
set_option linter.unusedSimpArgs false

/-- the weight of a device -/
def wOne (D : List S50) (x : Int) : Int := (rd_T50 D (devAt D x)).f1
/-- the weight of a thing: of all devices below it -/
def wL (D : List S50) (l : List Int) : Int := l.foldl (fun s x => s + wOne D x) 0
def weightN (D : List S50) (B : List S108) (id : Int) : Int := wL D (underN B 5 id)
theorem wOne_range {D : List S50} {B : List S108} (V : Valid D B) (x : Int) (h : 0 ≤ devAt D x) : (0 ≤ wOne D x ∧ wOne D x ≤ 8) ∧ devAt D x < (D.length : Int) := by
  rcases devAt_hit D x with e | ⟨n, hn, e, _⟩
  · omega
  · unfold wOne
    rw [e, rd_dev D n hn]
    have := V.devs n hn
    omega
theorem wL_take {D : List S50} (l : List Int) (i : Nat) (h : i < l.length) : wL D (l.take (i + 1)) = wL D (l.take i) + wOne D l[i] := by
  unfold wL
  rw [List.take_succ_eq_append_getElem h, List.foldl_append]
  rfl
theorem wL_range {D : List S50} {B : List S108} (V : Valid D B) (l : List Int) (h : ∀ x ∈ l, 0 ≤ devAt D x) : ∀ i, i ≤ l.length → 0 ≤ wL D (l.take i) ∧ wL D (l.take i) ≤ 8 * i
  | 0, _ => by simp [wL]
  | i + 1, hi => by
    have h1 := wL_range V l h i (by omega)
    have h2 := wOne_range V l[i] (h _ (List.getElem_mem (by omega)))
    rw [wL_take l i (by omega)]
    omega
theorem impl_sum_ev {D : List S50} {B : List S108} (V : Valid D B) (l : List Int) (hl : l.length ≤ 1048576) (h : ∀ x ∈ l, 0 ≤ devAt D x) : Ev (fun k => impl_Tree_weight.l0 k 0 l l.length 0 D B) (wL D l) := by
  refine loop_is l.length (fun k (s : Int) i => impl_Tree_weight.l0 k s l l.length i D B) (fun i s => s = wL D (l.take i)) _ ?_ ?_ 0 rfl
  · rintro i s hi rfl
    refine .inr ⟨_, rfl, fun r hr => Ev.step (fun k => ?_) hr⟩
    have h1 := wL_range V l h i (by omega)
    have h2 := wOne_range V l[i] (h _ (List.getElem_mem hi))
    have h3 := h _ (List.getElem_mem hi)
    have e : impl_Tree_device.f D B (rd l i) = some (devAt D l[i]) := by rw [rd_get l i hi]; rfl
    simp only [impl_Tree_weight.l0]
    rw [if_pos (by omega), if_pos (by omega), if_pos (by omega), e]
    simp only [Option.bind_some]
    rw [if_pos h3, if_pos h2.2, up64 i l.length hi (by omega), wL_take l i hi]
    have e2 : wrap64 (wL D (l.take i) + (rd_T50 D (devAt D l[i])).f1) = wL D (l.take i) + wOne D l[i] := by
      have : (rd_T50 D (devAt D l[i])).f1 = wOne D l[i] := rfl
      rw [this]
      unfold wrap64
      omega
    rw [e2]
  · rintro s rfl
    refine ev_end (fun k => ?_)
    simp only [impl_Tree_weight.l0]
    rw [if_neg (by omega), List.take_length]
theorem spec_sum_ev {D : List S50} {B : List S108} (V : Valid D B) (l : List Int) (hl : l.length ≤ 1048576) (h : ∀ x ∈ l, 0 ≤ devAt D x) : Ev (fun k => spec_l06Weight.l0 k l 0 0 D B) (wL D l) := by
  have hD := V.dev
  refine loop_is l.length (fun k (s : Int) i => spec_l06Weight.l0 k l s i D B) (fun i s => s = wL D (l.take i)) _ ?_ ?_ 0 rfl
  · rintro i s hi rfl
    have h1 := wL_range V l h i (by omega)
    have h2 := wOne_range V l[i] (h _ (List.getElem_mem hi))
    have h3 := h _ (List.getElem_mem hi)
    refine .inr ⟨_, rfl, fun r hr => Ev.step (f := ?f) (fun k => ?_) ?_⟩
    rotate_left
    · simp only [spec_l06Weight.l0]
      rw [if_pos (by omega), if_pos (by omega), rd_get l i hi, up64 i l.length hi (by omega)]
      all_goals exact rfl
    · refine Ev.bind (specDevice_ev D B l[i] (by omega)) ?_
      simp only [if_pos h3, if_pos h2.2]
      have e2 : wrap64 (wL D (l.take i) + (rd_T50 D (devAt D l[i])).f1) = wL D (l.take i) + wOne D l[i] := by
        have : (rd_T50 D (devAt D l[i])).f1 = wOne D l[i] := rfl
        rw [this]
        unfold wrap64
        omega
      rw [wL_take l i hi] at hr
      rw [e2]
      exact hr
  · rintro s rfl
    refine ev_end (fun k => ?_)
    simp only [spec_l06Weight.l0]
    rw [if_neg (by omega), List.take_length]
theorem under5 {D : List S50} {B : List S108} (V : Valid D B) (id : Int) : (underN B 5 id).length ≤ 1048576 := by
  have := underN_length V 5 id
  omega
theorem impl_weight_ev {D : List S50} {B : List S108} (V : Valid D B) (id : Int) (h : 0 ≤ kindAt D B id) : Ev (fun k => impl_Tree_weight.f k D B id) (weightN D B id) := by
  have hk := kindAt_le V id
  unfold impl_Tree_weight.f
  exact Ev.bind (impl_under_ev V 5 id (by omega) (by omega)) (impl_sum_ev V _ (under5 V id) (under_dev V 5 id h (by omega)))
theorem spec_weight_ev {D : List S50} {B : List S108} (V : Valid D B) (id : Int) (h : 0 ≤ kindAt D B id) : Ev (fun k => spec_l06Weight.f k D B id) (weightN D B id) := by
  have hk := kindAt_le V id
  unfold spec_l06Weight.f
  exact Ev.bind (spec_under_ev V 5 id (by omega) (by omega)) (spec_sum_ev V _ (under5 V id) (under_dev V 5 id h (by omega)))
theorem weight_range {D : List S50} {B : List S108} (V : Valid D B) (id : Int) (h : 0 ≤ kindAt D B id) : 0 ≤ weightN D B id ∧ weightN D B id ≤ 8388608 := by
  have hk := kindAt_le V id
  have := wL_range V _ (under_dev V 5 id h (by omega)) (underN B 5 id).length (by omega)
  rw [List.take_length] at this
  have := under5 V id
  unfold weightN
  omega
end Go.Proofs.Ytkadeelplnkpgaa.Pure

-- text OBits
namespace Go.Proofs.Ytkadeelplnkpgaa.Pure
open Go.RowKit Go.Proofs.YtkadeelplnkpgaaW.PrintWords Go.Proofs.YtkadeelplnkpgaaW.PrintLast Go.Proofs.YtkadeelplnkpgaaW.PrintMore
set_option linter.unusedVariables false
set_option linter.unusedSimpArgs false

theorem and32 (x : Int) : Go.bits .and .i64 x 4294967295 = x % 4294967296 := by
  have h : (BitVec.ofInt 64 x &&& BitVec.ofInt 64 4294967295).toNat = (x % 4294967296).toNat := by
    rw [BitVec.toNat_and]
    have e1 : (BitVec.ofInt 64 4294967295).toNat = 2 ^ 32 - 1 := by decide
    have e2 : (BitVec.ofInt 64 x).toNat = (x % 18446744073709551616).toNat := by simp [BitVec.toNat_ofInt]
    rw [e1, e2, Nat.and_two_pow_sub_one_eq_mod]
    omega
  show IntKind.i64.wrap ((BitVec.ofInt 64 x &&& BitVec.ofInt 64 4294967295).toNat : Int) = _
  rw [h, IntKind.wrap_i64]
  omega
theorem xor64 (a b : Nat) (ha : a < 2 ^ 63) (hb : b < 2 ^ 63) : Go.bits .xor .i64 (a : Int) (b : Int) = ((a ^^^ b : Nat) : Int) := by
  have hx : a ^^^ b < 2 ^ 63 := Nat.xor_lt_two_pow ha hb
  have h : (BitVec.ofInt 64 (a : Int) ^^^ BitVec.ofInt 64 (b : Int)).toNat = a ^^^ b := by
    rw [BitVec.toNat_xor, BitVec.ofInt_natCast, BitVec.ofInt_natCast, BitVec.toNat_ofNat, BitVec.toNat_ofNat, Nat.mod_eq_of_lt (by omega), Nat.mod_eq_of_lt (by omega)]
  show IntKind.i64.wrap ((BitVec.ofInt 64 (a : Int) ^^^ BitVec.ofInt 64 (b : Int)).toNat : Int) = _
  rw [h, IntKind.wrap_i64]
  omega
theorem xor32 (a b : Nat) (ha : a < 2 ^ 32) (hb : b < 2 ^ 32) : Go.bits .xor .u32 (a : Int) (b : Int) = ((a ^^^ b : Nat) : Int) := by
  have hx : a ^^^ b < 2 ^ 32 := Nat.xor_lt_two_pow ha hb
  have h : (BitVec.ofInt 32 (a : Int) ^^^ BitVec.ofInt 32 (b : Int)).toNat = a ^^^ b := by
    rw [BitVec.toNat_xor, BitVec.ofInt_natCast, BitVec.ofInt_natCast, BitVec.toNat_ofNat, BitVec.toNat_ofNat, Nat.mod_eq_of_lt (by omega), Nat.mod_eq_of_lt (by omega)]
  show IntKind.u32.wrap ((BitVec.ofInt 32 (a : Int) ^^^ BitVec.ofInt 32 (b : Int)).toNat : Int) = _
  rw [h, IntKind.wrap_u32]
  omega
theorem xor_same (a b : Int) (ha : 0 ≤ a) (ha' : a < 4294967296) (hb : 0 ≤ b) (hb' : b < 4294967296) : Go.bits .xor .i64 a b = Go.bits .xor .u32 a b ∧ 0 ≤ Go.bits .xor .u32 a b ∧ Go.bits .xor .u32 a b < 4294967296 := by
  obtain ⟨n, rfl⟩ := Int.eq_ofNat_of_zero_le ha
  obtain ⟨m, rfl⟩ := Int.eq_ofNat_of_zero_le hb
  have h1 : n < 2 ^ 32 := by omega
  have h2 : m < 2 ^ 32 := by omega
  have hx : n ^^^ m < 2 ^ 32 := Nat.xor_lt_two_pow h1 h2
  rw [xor64 n m (by omega) (by omega), xor32 n m h1 h2]
  exact ⟨rfl, by omega, by omega⟩

/-- two calls that return the same number: comparing them says true -/
theorem eq_then (x y : Option Int) (h : Int) (hx : x = some h) (hy : y = some h) : (x.bind fun t115 => (y.bind fun t116 => (if t116 = t115 then (some true) else (some false)))) = some true := by
  subst hx hy
  simp
theorem eq_then2 (x y : Option (Int × Int)) (h : Int × Int) (hx : x = some h) (hy : y = some h) : (x.bind fun b1 => (y.bind fun b2 => (if b2.1 = b1.1 then (if b2.2 = b1.2 then (some true) else (some false)) else (some false)))) = some true := by
  subst hx hy
  simp
theorem eq_thenB (x y : Option Bool) (h : Bool) (hx : x = some h) (hy : y = some h) : (x.bind fun t1 => (y.bind fun t2 => (if (t2 != t1) = true then (some false) else (some true)))) = some true := by
  subst hx hy
  simp
end Go.Proofs.Ytkadeelplnkpgaa.Pure

-- text OMix
namespace Go.Proofs.Ytkadeelplnkpgaa.Pure
open Go.RowKit Go.Proofs.Ytkadeelplnkpgaa.Q Go.Proofs.YtkadeelplnkpgaaW.PrintWords Go.Proofs.YtkadeelplnkpgaaW.PrintLast Go.Proofs.YtkadeelplnkpgaaW.PrintMore
set_option linter.unusedVariables false
set_option linter.unusedSimpArgs false

def mixA (h x : Int) : Int := (Go.bits .xor .u32 h (x % 4294967296) * 16777619) % 4294967296
def mixB (a : Int) : Int := (Go.bits .xor .u32 a (a / 32768) * 1540483477) % 4294967296
def mixC (b : Int) : Int := Go.bits .xor .u32 b (b / 8192)
def mixStep (h x : Int) : Int := mixC (mixB (mixA h x))
def mixL (l : List Int) (h : Int) : Int := l.foldl mixStep h
theorem mixA_range (h x : Int) : 0 ≤ mixA h x ∧ mixA h x < 4294967296 := by unfold mixA; omega
theorem mixB_range (a : Int) : 0 ≤ mixB a ∧ mixB a < 4294967296 := by unfold mixB; omega
theorem mixC_range (b : Int) (h0 : 0 ≤ b) (h1 : b < 4294967296) : 0 ≤ mixC b ∧ mixC b < 4294967296 := (xor_same b (b / 8192) h0 h1 (by omega) (by omega)).2
theorem mixStep_range (h x : Int) : 0 ≤ mixStep h x ∧ mixStep h x < 4294967296 := mixC_range _ (mixB_range _).1 (mixB_range _).2
theorem mixL_range : ∀ (l : List Int) (h : Int), 0 ≤ h → h < 4294967296 → 0 ≤ mixL l h ∧ mixL l h < 4294967296
  | [], _, h0, h1 => ⟨h0, h1⟩
  | x :: l, h, _, _ => mixL_range l (mixStep h x) (mixStep_range h x).1 (mixStep_range h x).2
theorem mixL_drop (l : List Int) (i : Int) (h0 : 0 ≤ i) (h1 : i < l.length) (h : Int) : mixL (l.drop i.toNat) h = mixL (l.drop (i + 1).toNat) (mixStep h (rd l i)) := by
  obtain ⟨n, rfl⟩ := Int.eq_ofNat_of_zero_le h0
  have hl : n < l.length := by omega
  have e : ((n : Int) + 1).toNat = n + 1 := by omega
  have er : rd l n = l[n] := by
    unfold rd
    rw [Int.toNat_natCast, List.getD_eq_getElem?_getD, List.getElem?_eq_getElem hl]; rfl
  rw [e, er, Int.toNat_natCast, List.drop_eq_getElem_cons hl]
  rfl
theorem wrap_small (x : Int) (h0 : 0 ≤ x) (h1 : x < 4294967296) : wrap64 x = x := by unfold wrap64; omega
theorem wrap_next (i : Int) (h0 : 0 ≤ i) (h1 : i < 9223372036854775807) : wrap64 (i + 1) = i + 1 := by unfold wrap64; omega
theorem wrap_mod (x : Int) : wrap64 x % 4294967296 = x % 4294967296 := by unfold wrap64; omega

theorem impl_mix (l : List Int) (hm : (l.length : Int) ≤ 9223372036854775807) (d : Nat) : ∀ (k : Nat) (h i : Int), 0 ≤ h → h < 4294967296 → 0 ≤ i → i ≤ l.length → (l.length : Int) - i = d → d < k →
    impl_Mix.l0 k h l (l.length : Int) i = some (mixL (l.drop i.toNat) h) := by
  induction d with
  | zero =>
    intro k h i a0 a1 h0 h1 hd hk
    obtain ⟨k, rfl⟩ : ∃ m, k = m + 1 := ⟨k - 1, by omega⟩
    simp only [impl_Mix.l0]
    rw [if_neg (by omega), wrap_small h a0 a1, List.drop_of_length_le (by omega)]
    rfl
  | succ d ih =>
    intro k h i a0 a1 h0 h1 hd hk
    obtain ⟨k, rfl⟩ : ∃ m, k = m + 1 := ⟨k - 1, by omega⟩
    have hlt : i < (l.length : Int) := by omega
    rw [mixL_drop l i h0 hlt h, ← ih k _ (i + 1) (mixStep_range h (rd l i)).1 (mixStep_range h (rd l i)).2 (by omega) (by omega) (by omega) (by omega)]
    simp only [impl_Mix.l0]
    rw [if_pos hlt, if_pos h0, if_pos hlt, wrap_next i h0 (by omega)]
    rfl
theorem spec_mix (l : List Int) (hm : (l.length : Int) ≤ 9223372036854775807) (d : Nat) : ∀ (k : Nat) (h i : Int), 0 ≤ h → h < 4294967296 → 0 ≤ i → i ≤ l.length → (l.length : Int) - i = d → d < k →
    spec_l01Mix.l0 k l h i = some (mixL (l.drop i.toNat) h) := by
  induction d with
  | zero =>
    intro k h i a0 a1 h0 h1 hd hk
    obtain ⟨k, rfl⟩ : ∃ m, k = m + 1 := ⟨k - 1, by omega⟩
    simp only [spec_l01Mix.l0]
    rw [if_neg (by omega), List.drop_of_length_le (by omega)]
    rfl
  | succ d ih =>
    intro k h i a0 a1 h0 h1 hd hk
    obtain ⟨k, rfl⟩ : ∃ m, k = m + 1 := ⟨k - 1, by omega⟩
    have hlt : i < (l.length : Int) := by omega
    rw [mixL_drop l i h0 hlt h, ← ih k _ (i + 1) (mixStep_range h (rd l i)).1 (mixStep_range h (rd l i)).2 (by omega) (by omega) (by omega) (by omega)]
    simp only [spec_l01Mix.l0, spec_l01Low.f, Option.bind_some]
    rw [if_pos hlt, if_pos h0, wrap_next i h0 (by omega), and32, and32, and32, wrap_mod, wrap_mod]
    have x1 := (xor_same h (rd l i % 4294967296) a0 a1 (by omega) (by omega)).1
    rw [x1]
    have x2 := mixA_range h (rd l i)
    have x3 := (xor_same (mixA h (rd l i)) (mixA h (rd l i) / 32768) x2.1 x2.2 (by omega) (by omega)).1
    have x4 := mixB_range (mixA h (rd l i))
    have x5 := (xor_same (mixB (mixA h (rd l i))) (mixB (mixA h (rd l i)) / 8192) x4.1 x4.2 (by omega) (by omega)).1
    show spec_l01Mix.l0 k l (Go.bits .xor .i64 ((Go.bits .xor .i64 (mixA h (rd l i)) (mixA h (rd l i) / 32768) * 1540483477) % 4294967296) (((Go.bits .xor .i64 (mixA h (rd l i)) (mixA h (rd l i) / 32768) * 1540483477) % 4294967296) / 8192)) (i + 1) = _
    rw [x3]
    show spec_l01Mix.l0 k l (Go.bits .xor .i64 (mixB (mixA h (rd l i))) (mixB (mixA h (rd l i)) / 8192)) (i + 1) = _
    rw [x5]
    rfl
/-- the hash of a list of words -/
def hash (l : List Int) : Int := mixL l 2166136261
theorem hash_range (l : List Int) : 0 ≤ hash l ∧ hash l < 4294967296 := mixL_range l _ (by decide) (by decide)
theorem impl_Mix_hash (l : List Int) (hm : (l.length : Int) ≤ 9223372036854775807) (k : Nat) (hk : l.length < k) : impl_Mix.f k l = some (hash l) :=
  impl_mix l hm l.length k _ 0 (by decide) (by decide) (by omega) (by omega) (by omega) hk
theorem spec_Mix_hash (l : List Int) (hm : (l.length : Int) ≤ 9223372036854775807) (k : Nat) (hk : l.length < k) : spec_l01Mix.f k l = some (hash l) :=
  spec_mix l hm l.length k _ 0 (by decide) (by decide) (by omega) (by omega) (by omega) hk

end Go.Proofs.Ytkadeelplnkpgaa.Pure

-- text OTicket
namespace Go.Proofs.Ytkadeelplnkpgaa.Pure
open Go.RowKit Go.Proofs.Ytkadeelplnkpgaa.Q Go.Proofs.YtkadeelplnkpgaaW.PrintWords Go.Proofs.YtkadeelplnkpgaaW.PrintLast
set_option linter.unusedVariables false
set_option linter.unusedSimpArgs false

theorem four_short (a b c d : Int) : (([a, b, c, d] : List Int).length : Int) ≤ 9223372036854775807 := by
  simp only [List.length_cons, List.length_nil]; omega
theorem spec_ticket7 (a0 a1 a2 a3 : Int) (k : Nat) (hk : 4 < k) : spec_l07Ticket.f k a0 a1 a2 a3 = some (hash [a2, a3, a0, a1]) := by
  unfold spec_l07Ticket.f
  rw [spec_Mix_hash _ (four_short a2 a3 a0 a1) k hk]
  simp only [Option.bind_some]
theorem impl_ticket (a0 a1 a2 a3 : Int) (k : Nat) (hk : 4 < k) : impl_TicketOf.f k a0 a1 a2 a3 = some (hash [a2, a3, a0, a1]) := by
  unfold impl_TicketOf.f
  rw [impl_Mix_hash _ (four_short a2 a3 a0 a1) k hk]
  simp only [Option.bind_some]

end Go.Proofs.Ytkadeelplnkpgaa.Pure

-- text OPick
namespace Go.Proofs.Ytkadeelplnkpgaa.Pure
open Go.RowKit Go.Proofs.Ytkadeelplnkpgaa.Q Go.Proofs.YtkadeelplnkpgaaW.PrintWords Go.Proofs.YtkadeelplnkpgaaW.PrintLast Go.Proofs.YtkadeelplnkpgaaW.PrintMore
set_option linter.unusedVariables false
set_option linter.unusedSimpArgs false

theorem rd_item (l : List S134) (i : Nat) (h : i < l.length) : rd_T134 l (i : Int) = l[i] := by
  unfold rd_T134
  rw [Int.toNat_natCast, getD_get l i _ h]
/-- the ticket of a unit of an item -/
def ticket (id u seed try_ : Int) : Int := hash [seed, try_, id, u]
/-- the highest of the first tickets; -1 of none -/
def bestN (id seed try_ : Int) : Nat → Int
  | 0 => -1
  | n + 1 => max (bestN id seed try_ n) (ticket id n seed try_)
def bestOf (x : S134) (seed try_ : Int) : Int := bestN x.f0 seed try_ x.f1.toNat
theorem ticket_range (id u seed try_ : Int) : 0 ≤ ticket id u seed try_ ∧ ticket id u seed try_ < 4294967296 := hash_range _
theorem bestN_range (id seed try_ : Int) : ∀ n, -1 ≤ bestN id seed try_ n ∧ bestN id seed try_ n < 4294967296 ∧ (0 < n → 0 ≤ bestN id seed try_ n)
  | 0 => by simp [bestN]
  | n + 1 => by
    have h := bestN_range id seed try_ n
    have h2 := ticket_range id n seed try_
    simp only [bestN]
    omega
theorem mx_max (a b : Int) : mx a b = max a b := by unfold mx; omega
theorem l00Max_is (a b : Int) : spec_l00Max.f a b = some (max a b) := by
  unfold spec_l00Max.f
  by_cases h : a > b
  · rw [if_pos h]; congr 1; omega
  · rw [if_neg h]; congr 1; omega
theorem impl_best_ev (id wt seed try_ : Int) (hw : wt ≤ 4611686018427387904) : Ev (fun k => impl_Item_best.f k id wt seed try_) (bestN id seed try_ wt.toNat) := by
  by_cases h0 : 0 ≤ wt
  · obtain ⟨n, rfl⟩ := Int.eq_ofNat_of_zero_le h0
    rw [Int.toNat_natCast]
    refine loop_is n (fun k s i => impl_Item_best.l0 k seed try_ s n i id n) (fun i s => s = bestN id seed try_ i) _ ?_ ?_ (-1) rfl
    · rintro i s hi rfl
      refine .inr ⟨bestN id seed try_ (i + 1), rfl, fun r hr => Ev.step (f := ?f) (fun k => ?_) ?_⟩
      rotate_left
      · simp only [impl_Item_best.l0, mx_max]
        rw [if_pos (by omega), up64 i n hi (by omega)]
        all_goals exact rfl
      · exact Ev.bind (ev_of (K := 5) fun k hk => impl_ticket id i seed try_ k (by omega)) hr
    · rintro s rfl
      exact ev_end (fun k => by simp only [impl_Item_best.l0]; rw [if_neg (by omega)])
  · have e : wt.toNat = 0 := by omega
    rw [e]
    exact ev_end (fun k => by simp only [impl_Item_best.f, impl_Item_best.l0]; rw [if_neg (by omega)]; rfl)
theorem spec_best_ev (id wt seed try_ : Int) (hw : wt ≤ 4611686018427387904) : Ev (fun k => spec_l07Best.f k id wt seed try_) (bestN id seed try_ wt.toNat) := by
  by_cases h0 : 0 ≤ wt
  · obtain ⟨n, rfl⟩ := Int.eq_ofNat_of_zero_le h0
    rw [Int.toNat_natCast]
    refine loop_is n (fun k s i => spec_l07Best.l0 k seed try_ s i id n) (fun i s => s = bestN id seed try_ i) _ ?_ ?_ (-1) rfl
    · rintro i s hi rfl
      refine .inr ⟨bestN id seed try_ (i + 1), rfl, fun r hr => Ev.step (f := ?f) (fun k => ?_) ?_⟩
      rotate_left
      · simp only [spec_l07Best.l0, l00Max_is, Option.bind_some]
        rw [if_pos (by omega), up64 i n hi (by omega)]
        all_goals exact rfl
      · exact Ev.bind (ev_of (K := 5) fun k hk => spec_ticket7 id i seed try_ k (by omega)) hr
    · rintro s rfl
      exact ev_end (fun k => by simp only [spec_l07Best.l0]; rw [if_neg (by omega)])
  · have e : wt.toNat = 0 := by omega
    rw [e]
    exact ev_end (fun k => by simp only [spec_l07Best.f, spec_l07Best.l0]; rw [if_neg (by omega)]; rfl)
/-- who has the highest ticket, the first of several: the ticket and the Id -/
def pickStep (seed try_ : Int) (s : Int × Int) (x : S134) : Int × Int := if bestOf x seed try_ > s.1 then (bestOf x seed try_, x.f0) else s
def pickL (l : List S134) (seed try_ : Int) : Int × Int := l.foldl (pickStep seed try_) (-1, 0)
def chooseL (l : List S134) (seed try_ : Int) : Int × Bool := ((pickL l seed try_).2, decide ((pickL l seed try_).1 ≥ 0))
/-- no weight is out of all bounds -/
def WtOk (l : List S134) : Prop := ∀ x ∈ l, x.f1 ≤ 4611686018427387904
theorem pick_take (l : List S134) (i : Nat) (h : i < l.length) (seed try_ : Int) : (l.take (i + 1)).foldl (pickStep seed try_) (-1, 0) = pickStep seed try_ ((l.take i).foldl (pickStep seed try_) (-1, 0)) l[i] := by
  rw [List.take_succ_eq_append_getElem h, List.foldl_append]
  rfl
theorem impl_choose_ev (l : List S134) (hl : l.length ≤ 1048576) (hw : WtOk l) (seed try_ : Int) : Ev (fun k => impl_choose.f k l seed try_) (chooseL l seed try_) := by
  refine loop_is l.length (fun k (s : Int × Int) i => impl_choose.l0 k seed try_ s.1 s.2 l l.length i) (fun i s => s = (l.take i).foldl (pickStep seed try_) (-1, 0)) _ ?_ ?_ (-1, 0) rfl
  · rintro i s hi rfl
    refine .inr ⟨_, rfl, fun r hr => Ev.step (f := ?f) (fun k => ?_) ?_⟩
    rotate_left
    · simp only [impl_choose.l0]
      rw [if_pos (by omega), if_pos (by omega), if_pos (by omega), up64 i l.length hi (by omega), rd_item l i hi]
      all_goals exact rfl
    · rw [pick_take l i hi] at hr
      generalize List.foldl (pickStep seed try_) (-1, 0) (l.take i) = s at hr ⊢
      refine Ev.bind (impl_best_ev _ _ seed try_ (hw _ (List.getElem_mem hi))) ?_
      unfold pickStep bestOf at hr
      by_cases c : bestN l[i].f0 seed try_ l[i].f1.toNat > s.1
      · rw [if_pos c] at hr
        refine Ev.congr (fun k => ?_) hr
        exact if_pos c
      · rw [if_neg c] at hr
        refine Ev.congr (fun k => ?_) hr
        exact if_neg c
  · rintro s rfl
    refine ev_end (fun k => ?_)
    simp only [impl_choose.l0]
    rw [if_neg (by omega), List.take_length]
    rfl
theorem spec_choose_ev (l : List S134) (hl : l.length ≤ 1048576) (hw : WtOk l) (seed try_ : Int) : Ev (fun k => spec_l07Choose.f k l seed try_) (chooseL l seed try_) := by
  refine loop_is l.length (fun k (s : Int × Int) i => spec_l07Choose.l0 k l seed try_ s.1 s.2 i) (fun i s => s = (l.take i).foldl (pickStep seed try_) (-1, 0)) _ ?_ ?_ (-1, 0) rfl
  · rintro i s hi rfl
    refine .inr ⟨_, rfl, fun r hr => Ev.step (f := ?f) (fun k => ?_) ?_⟩
    rotate_left
    · simp only [spec_l07Choose.l0]
      rw [if_pos (by omega), if_pos (by omega), up64 i l.length hi (by omega), rd_item l i hi]
      all_goals exact rfl
    · rw [pick_take l i hi] at hr
      generalize List.foldl (pickStep seed try_) (-1, 0) (l.take i) = s at hr ⊢
      refine Ev.bind (spec_best_ev _ _ seed try_ (hw _ (List.getElem_mem hi))) ?_
      unfold pickStep bestOf at hr
      by_cases c : bestN l[i].f0 seed try_ l[i].f1.toNat > s.1
      · rw [if_pos c] at hr
        refine Ev.congr (fun k => ?_) hr
        exact if_pos c
      · rw [if_neg c] at hr
        refine Ev.congr (fun k => ?_) hr
        exact if_neg c
  · rintro s rfl
    refine ev_end (fun k => ?_)
    simp only [spec_l07Choose.l0]
    rw [if_neg (by omega), List.take_length]
    rfl
end Go.Proofs.Ytkadeelplnkpgaa.Pure

-- text OChooseIn
namespace Go.Proofs.Ytkadeelplnkpgaa.Pure
open Go.RowKit Go.Proofs.Ytkadeelplnkpgaa.Q Go.Proofs.YtkadeelplnkpgaaW.PrintWords Go.Proofs.YtkadeelplnkpgaaW.PrintLast Go.Proofs.YtkadeelplnkpgaaW.PrintMore
set_option linter.unusedVariables false
set_option linter.unusedSimpArgs false

/-- a thing with its weight -/
def itemOf (D : List S50) (B : List S108) (x : Int) : S134 := ⟨x, weightN D B x⟩
/-- the choice among a bucket's things -/
def chooseV (D : List S50) (B : List S108) (id seed try_ : Int) : Int × Bool := if bucketAt B id < 0 then (0, false) else chooseL ((rd_T108 B (bucketAt B id)).f2.map (itemOf D B)) seed try_
theorem items_wt {D : List S50} {B : List S108} (V : Valid D B) (j : Nat) (hj : j < B.length) : WtOk (B[j].f2.map (itemOf D B)) := by
  intro x hx
  obtain ⟨y, hy, rfl⟩ := List.mem_map.1 hx
  have h := (weight_range V y (item_kind V j hj y hy).1).2
  have : (itemOf D B y).f1 = weightN D B y := rfl
  omega
theorem itemsW_ev (g : Nat → Int → Option Int) (c : Int → S134) (l : List Int) (hl : l.length ≤ 1048576) (hc : ∀ x, (c x).f0 = x) (hg : ∀ x ∈ l, Ev (fun k => g k x) (c x).f1) : ∀ (d i : Nat), i + d = l.length → Ev (fun k => itemsW (g k) ((l.take i).map c) (l.drop i)) (l.map c)
  | 0, i, hd => by
    rw [List.drop_of_length_le (by omega), List.take_of_length_le (by omega)]
    exact Ev.now _
  | d + 1, i, hd => by
    have hi : i < l.length := by omega
    have h := itemsW_ev g c l hl hc hg d (i + 1) (by omega)
    rw [List.drop_eq_getElem_cons hi]
    simp only [itemsW]
    refine Ev.bind (hg _ (List.getElem_mem hi)) ?_
    rw [List.take_succ_eq_append_getElem hi, List.map_append] at h
    simp only [if_pos (show ((l.take i).map c).length < 1048576 by rw [List.length_map, List.length_take]; omega)]
    have e : (⟨l[i], (c l[i]).f1⟩ : S134) = c l[i] := by
      have := hc l[i]
      cases hx : c l[i] with
      | mk a b => rw [hx] at this; simp only at this; rw [← this]
    rw [e]
    exact h
theorem impl_chooseIn_ev {D : List S50} {B : List S108} (V : Valid D B) (id seed try_ : Int) : Ev (fun k => impl_Tree_chooseIn.f k D B id seed try_) (chooseV D B id seed try_) := by
  unfold impl_Tree_chooseIn.f chooseV
  by_cases c : bucketAt B id < 0
  · simp only [if_pos c]
    exact Ev.now _
  · simp only [if_neg c]
    obtain ⟨j, hj, ej, _, ek, e⟩ := bucket_kind V id c
    rw [e]
    have h8 := (V.bkts j hj).2.2
    exact Ev.bind (itemsW_ev (fun k x => impl_Tree_weight.f k D B x) (itemOf D B) B[j].f2 (by omega) (fun _ => rfl) (fun x hx => impl_weight_ev V x (item_kind V j hj x hx).1) B[j].f2.length 0 (by omega)) (impl_choose_ev _ (by rw [List.length_map]; omega) (items_wt V j hj) seed try_)
theorem spec_in_ev {D : List S50} {B : List S108} (V : Valid D B) (id seed try_ : Int) : Ev (fun k => spec_l07In.f k D B id seed try_) (chooseV D B id seed try_) := by
  have hB := V.bkt
  unfold spec_l07In.f chooseV
  refine Ev.bind (specBucket_ev D B id (by omega)) ?_
  by_cases c : bucketAt B id < 0
  · simp only [if_pos c]
    exact Ev.now _
  · simp only [if_neg c]
    obtain ⟨j, hj, ej, _, ek, e⟩ := bucket_kind V id c
    rw [e, ej]
    have h8 := (V.bkts j hj).2.2
    refine loop_is B[j].f2.length (fun k (s : List S134) i => spec_l07In.l0 k seed try_ j s i D B) (fun i s => s = (B[j].f2.take i).map (itemOf D B)) _ ?_ ?_ [] rfl
    · rintro i s hi rfl
      refine .inr ⟨_, rfl, fun r hr => Ev.step (f := ?f) (fun k => ?_) ?_⟩
      rotate_left
      · simp only [spec_l07In.l0]
        rw [if_pos (by omega), if_pos (by omega), rd_bkt B j hj, if_pos (by omega), if_pos (by omega), rd_get _ i hi, up64 i B[j].f2.length hi (by omega)]
        all_goals exact rfl
      · refine Ev.bind (spec_weight_ev V _ (item_kind V j hj _ (List.getElem_mem hi)).1) ?_
        simp only [if_pos (show ((B[j].f2.take i).map (itemOf D B)).length < 8796093022208 by rw [List.length_map, List.length_take]; omega)]
        rw [List.take_succ_eq_append_getElem hi, List.map_append] at hr
        exact hr
    · rintro s rfl
      refine Ev.step (f := ?f3) (fun k => ?_) ?_
      rotate_left
      · simp only [spec_l07In.l0]
        rw [if_pos (by omega), if_pos (by omega), rd_bkt B j hj, if_neg (by omega), List.take_length]
        all_goals exact rfl
      · exact Ev.bind (spec_choose_ev _ (by rw [List.length_map]; omega) (items_wt V j hj) seed try_) (Ev.now _)
/-- who is chosen is one of them -/
theorem pick_mem (seed try_ : Int) : ∀ (l : List S134) (s : Int × Int), (l.foldl (pickStep seed try_) s).2 = s.2 ∧ (l.foldl (pickStep seed try_) s).1 = s.1 ∨ ∃ x ∈ l, (l.foldl (pickStep seed try_) s).2 = x.f0
  | [], s => .inl ⟨rfl, rfl⟩
  | x :: xs, s => by
    rw [List.foldl_cons]
    rcases pick_mem seed try_ xs (pickStep seed try_ s x) with ⟨h, h1⟩ | ⟨y, hy, h⟩
    · rw [h, h1]
      unfold pickStep
      by_cases c : bestOf x seed try_ > s.1
      · rw [if_pos c]
        exact .inr ⟨x, by simp, rfl⟩
      · rw [if_neg c]
        exact .inl ⟨rfl, rfl⟩
    · exact .inr ⟨y, List.mem_cons_of_mem _ hy, h⟩
theorem choose_mem (l : List S134) (seed try_ : Int) (h : (chooseL l seed try_).2 = true) : ∃ x ∈ l, (chooseL l seed try_).1 = x.f0 := by
  have h := of_decide_eq_true h
  rcases pick_mem seed try_ l (-1, 0) with ⟨_, h1⟩ | h2
  · have e : (pickL l seed try_).1 = (-1 : Int) := h1
    omega
  · exact h2
theorem chooseV_kind {D : List S50} {B : List S108} (V : Valid D B) (id seed try_ : Int) (h : (chooseV D B id seed try_).2 = true) : 0 ≤ kindAt D B (chooseV D B id seed try_).1 ∧ kindAt D B (chooseV D B id seed try_).1 < kindAt D B id := by
  unfold chooseV at h ⊢
  by_cases c : bucketAt B id < 0
  · rw [if_pos c] at h
    cases h
  · rw [if_neg c] at h ⊢
    obtain ⟨j, hj, ej, _, ek, e⟩ := bucket_kind V id c
    rw [e] at h ⊢
    obtain ⟨x, hx, h1⟩ := choose_mem _ seed try_ h
    obtain ⟨y, hy, rfl⟩ := List.mem_map.1 hx
    rw [h1, ek]
    exact item_kind V j hj y hy
end Go.Proofs.Ytkadeelplnkpgaa.Pure

-- text PureFnExactDescend
namespace Go.Proofs.Ytkadeelplnkpgaa.Pure
open Go.RowKit Go.Proofs.Ytkadeelplnkpgaa.Q Go.Proofs.Ytkadeelplnkpgaa.Opens Go.Proofs.YtkadeelplnkpgaaW.PrintWords Go.Proofs.YtkadeelplnkpgaaW.PrintLast Go.Proofs.YtkadeelplnkpgaaW.PrintMore
set_option linter.unusedVariables false
set_option linter.unusedSimpArgs false

/-- the thing of a kind that the choices lead to; an error where there is none -/
def descN (D : List S50) (B : List S108) (kd seed try_ : Int) : Nat → Int → Int × Bool
  | 0, _ => (0, false)
  | n + 1, id => if kindAt D B id = kd then (id, true) else if (chooseV D B id seed try_).2 = true then descN D B kd seed try_ n (chooseV D B id seed try_).1 else (0, false)
theorem spec_desc_ev {D : List S50} {B : List S108} (V : Valid D B) (kd seed try_ : Int) : ∀ (n : Nat) (id : Int), 0 ≤ kindAt D B id → kindAt D B id < n → Ev (fun k => spec_l07Descend.l0 k id kd seed try_ D B) (descN D B kd seed try_ n id)
  | 0, id, h0, h => by omega
  | n + 1, id, h0, h => by
    have hB := V.bkt
    have hD := V.dev
    refine Ev.step (f := ?f) (fun k => ?_) ?_
    rotate_left
    · simp only [spec_l07Descend.l0]
      exact rfl
    · refine Ev.bind (specKind_ev D B id (by omega) (by omega)) ?_
      unfold descN
      by_cases c : kindAt D B id = kd
      · simp only [if_pos c]
        exact Ev.now _
      · simp only [if_neg c]
        refine Ev.bind (spec_in_ev V id seed try_) ?_
        by_cases c2 : (chooseV D B id seed try_).2 = true
        · simp only [if_pos c2]
          have := chooseV_kind V id seed try_ c2
          exact spec_desc_ev V kd seed try_ n _ this.1 (by omega)
        · simp only [if_neg c2]
          exact Ev.now _
theorem impl_desc_ev {D : List S50} {B : List S108} (V : Valid D B) (kd seed try_ : Int) : ∀ (n : Nat) (id : Int), 0 ≤ kindAt D B id → kindAt D B id < n → ∃ p : Int × Bool, Ev (fun k => impl_Tree_descend.l0 k id kd seed try_ true D B) p ∧ p.2 = (descN D B kd seed try_ n id).2 ∧ (p.2 = true → p.1 = (descN D B kd seed try_ n id).1)
  | 0, id, h0, h => by omega
  | n + 1, id, h0, h => by
    have ek : impl_Tree_kindOf.f D B id = some (kindAt D B id) := rfl
    have hstep : ∀ r, Ev (fun k => if kindAt D B id = kd then some (id, true) else ((impl_Tree_chooseIn.f k D B id seed try_).bind fun b => impl_Tree_descend.l0 k b.1 kd seed try_ b.2 D B)) r → Ev (fun k => impl_Tree_descend.l0 k id kd seed try_ true D B) r := fun r hr => Ev.step (fun k => by
      simp only [impl_Tree_descend.l0, ek, Option.bind_some, if_true]) hr
    unfold descN
    by_cases c : kindAt D B id = kd
    · refine ⟨(id, true), hstep _ ?_, ?_, ?_⟩
      · simp only [if_pos c]
        exact Ev.now _
      · simp only [if_pos c]
      · exact fun _ => by rw [if_pos c]
    · simp only [if_neg c] at hstep ⊢
      by_cases c2 : (chooseV D B id seed try_).2 = true
      · simp only [if_pos c2]
        have hk := chooseV_kind V id seed try_ c2
        obtain ⟨p, h1, h2, h3⟩ := impl_desc_ev V kd seed try_ n _ hk.1 (by omega)
        refine ⟨p, hstep _ (Ev.bind (impl_chooseIn_ev V id seed try_) ?_), h2, h3⟩
        simp only [c2]
        exact h1
      · simp only [if_neg c2]
        have c3 := Bool.eq_false_iff.2 c2
        refine ⟨((chooseV D B id seed try_).1, false), hstep _ (Ev.bind (impl_chooseIn_ev V id seed try_) ?_), rfl, fun h => ?_⟩
        · simp only [c3]
          exact ev_end (fun k => by simp only [impl_Tree_descend.l0, Bool.false_eq_true, if_false])
        · cases h
def descV (D : List S50) (B : List S108) (id kd seed try_ : Int) : Int × Bool := if 0 ≤ kindAt D B id then descN D B kd seed try_ 5 id else (0, false)
theorem spec_descend_ev {D : List S50} {B : List S108} (V : Valid D B) (id kd seed try_ : Int) (hk : 0 ≤ kd) : Ev (fun k => spec_l07Descend.f k D B id kd seed try_) (descV D B id kd seed try_) := by
  have h := kindAt_le V id
  have hB := V.bkt
  have hD := V.dev
  unfold spec_l07Descend.f descV
  by_cases c : 0 ≤ kindAt D B id
  · rw [if_pos c]
    exact spec_desc_ev V kd seed try_ 5 id c (by omega)
  · rw [if_neg c]
    refine Ev.step (f := ?f) (fun k => ?_) ?_
    rotate_left
    · simp only [spec_l07Descend.l0]
      exact rfl
    · refine Ev.bind (specKind_ev D B id (by omega) (by omega)) ?_
      simp only [if_neg (show ¬ kindAt D B id = kd by omega)]
      refine Ev.bind (spec_in_ev V id seed try_) ?_
      have e : chooseV D B id seed try_ = (0, false) := by
        unfold chooseV
        rw [if_pos (kind_neg V id (by omega))]
      simp only [e, Bool.false_eq_true, if_false]
      exact Ev.now _
theorem impl_descend_ev {D : List S50} {B : List S108} (V : Valid D B) (id kd seed try_ : Int) : ∃ p : Int × Bool, Ev (fun k => impl_Tree_descend.f k D B id kd seed try_) p ∧ p.2 = (descV D B id kd seed try_).2 ∧ (p.2 = true → p.1 = (descV D B id kd seed try_).1) := by
  have h := kindAt_le V id
  have ek : impl_Tree_kindOf.f D B id = some (kindAt D B id) := rfl
  unfold impl_Tree_descend.f descV
  simp only [ek, Option.bind_some]
  by_cases c : 0 ≤ kindAt D B id
  · rw [if_pos c, decide_eq_true (show kindAt D B id ≥ 0 from c)]
    exact impl_desc_ev V kd seed try_ 5 id c (by omega)
  · rw [if_neg c, decide_eq_false (show ¬ kindAt D B id ≥ 0 by omega)]
    exact ⟨(id, false), ev_end (fun k => by simp only [impl_Tree_descend.l0, Bool.false_eq_true, if_false]), rfl, fun h => by cases h⟩
/-- the answer, and which error -/
def descAns (D : List S50) (B : List S108) (id kd seed try_ : Int) : Int × Int := if treeOkB D B = true then (if inB kd 0 3 = true then (if (descV D B id kd seed try_).2 = true then ((descV D B id kd seed try_).1, 0) else (0, 3)) else (0, 2)) else (0, 1)
theorem spec_descend (D : List S50) (B : List S108) (id kd seed try_ : Int) : Ev (fun k => spec_Descend.f k D B id kd seed try_) (descAns D B id kd seed try_) := by
  unfold spec_Descend.f descAns
  refine Ev.bind (spec_ok_ev D B) ?_
  by_cases c : treeOkB D B = true
  · simp only [if_pos c, in_inB, Option.bind_some]
    by_cases c1 : inB kd 0 3 = true
    · simp only [if_pos c1]
      have hk : 0 ≤ kd := by
        unfold inB at c1
        simp only [Bool.and_eq_true, decide_eq_true_eq] at c1
        omega
      refine Ev.bind (spec_descend_ev (valid_of D B c) id kd seed try_ hk) ?_
      by_cases c2 : (descV D B id kd seed try_).2 = true
      · simp only [if_pos c2]
        exact Ev.now _
      · simp only [if_neg c2]
        exact Ev.now _
    · simp only [if_neg c1]
      exact Ev.now _
  · simp only [if_neg c]
    exact Ev.now _
theorem impl_descend (D : List S50) (B : List S108) (hD : D.length ≤ 9223372036854775807) (hw : wfTree D B = true) (id kd seed try_ : Int) : Ev (fun k => impl_Descend.f k D B id kd seed try_) (descAns D B id kd seed try_) := by
  unfold impl_Descend.f descAns
  refine Ev.bind (impl_ok_ev D B hD hw) ?_
  by_cases c : treeOkB D B = true
  · simp only [if_pos c, between_inB, Option.bind_some]
    by_cases c1 : inB kd 0 3 = true
    · simp only [if_pos c1]
      obtain ⟨p, h1, h2, h3⟩ := impl_descend_ev (valid_of D B c) id kd seed try_
      refine Ev.bind h1 ?_
      rw [← h2]
      by_cases c2 : p.2 = true
      · simp only [if_pos c2, h3 c2]
        exact Ev.now _
      · simp only [if_neg c2]
        exact Ev.now _
    · simp only [if_neg c1]
      exact Ev.now _
  · simp only [if_neg c]
    exact Ev.now _
theorem FnExactDescend (l0_0 : List S110) (l0_1 : List S106) (a1 a2 a3 a4 : Int) (hd : good_t22 l0_0) (hb : good_t23 l0_1) (_ : (Lit.int .i64 a1).wf = true) (_ : (Lit.int .i64 a2).wf = true) (_ : (Lit.int .i64 a3).wf = true) (_ : (Lit.int .i64 a4).wf = true) : ∃ k, laws_FnExactDescend.f k l0_0 l0_1 a1 a2 a3 a4 = some true := by
  obtain ⟨g1, g2, g3⟩ := small_of_good l0_0 l0_1 hd hb
  obtain ⟨t, ht, hsz⟩ := szTree_ev l0_0 l0_1 1048576 g1 g2 g3 (by omega) (by omega)
  have hwf := wf_of_good l0_0 l0_1 hd hb
  refine Ev.rounds (r := true) ?_
  unfold laws_FnExactDescend.f
  refine Ev.bind hsz ?_
  by_cases c : t < 0
  · exact ev_some fun k => if_pos c
  · simp only [if_neg c]
    have hs := (ht (by omega)).2
    have hto := toTree_ev l0_0 l0_1 hs
    have heq := eqTree_ev l0_0 l0_1 hs
    have hD : (l0_0.map devOf).length ≤ 9223372036854775807 := by rw [List.length_map]; exact g1
    refine Ev.bind hto (Ev.bind (spec_descend _ _ a1 a2 a3 a4) (Ev.bind hto (Ev.bind (impl_descend _ _ hD hwf a1 a2 a3 a4) ?_)))
    simp only [if_true]
    refine Ev.step (f := ?f) (fun k => ?_) ?_
    rotate_left
    · simp only [laws_FnExactDescend.j0, bne_self_eq_false, Bool.false_eq_true, if_false]
      exact rfl
    · exact Ev.bind hto (Ev.bind heq (ev_some fun k => if_pos rfl))

end Go.Proofs.Ytkadeelplnkpgaa.Pure
