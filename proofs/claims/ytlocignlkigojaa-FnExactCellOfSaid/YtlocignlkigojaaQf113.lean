/- Walks of the Go functions that the laws call: each returns what a plain Lean function says. Written by a program for these claims. -/
import Derived.Test.YtlocignlkigojaaQ0
import Derived.Test.YtlocignlkigojaaQf146
import Derived.Test.YtlocignlkigojaaQf153
import Derived.Test.YtlocignlkigojaaQf96
namespace Go.Proofs.Ytlocignlkigojaa.Q
open Go.RowKit Go.Proofs.YtlocignlkigojaaW.PrintWords Go.Proofs.YtlocignlkigojaaW.PrintLast Go.Proofs.YtlocignlkigojaaW.PrintMore
attribute [local go_sem] max2_int min2_int max_two min_two max_three min_three max_four min_four   -- for this text's walks alone
set_option linter.unusedVariables false
set_option linter.unusedSimpArgs false

/-! ### spec_l05OK: function 113 -/
mutual
def spec_l05OK.j0 : Nat → Bool → Int → Int → Int → Int → List ByteArray → Option (Bool)
  | 0, _, _, _, _, _, _ => none
  | k + 1, x32, x506000, x506001, x506002, x506003, x506004 => if x32 = true then (some false) else (spec_l05OK.l0 k 0 x506000 x506001 x506002 x506003 x506004)
def spec_l05OK.l0 : Nat → Int → Int → Int → Int → Int → List ByteArray → Option (Bool)
  | 0, _, _, _, _, _, _ => none
  | k + 1, x3, x506000, x506001, x506002, x506003, x506004 => if x3 < (x506004.length : Int) then (if 0 ≤ x3 then ((spec_l05Tall.f x506000 x506001 x506002 x506003).bind fun t510 => (if ((rdOf ByteArray.empty x506004 x3).size : Int) = t510 then (spec_l05OK.l0 k (wrap64 (x3 + 1)) x506000 x506001 x506002 x506003 x506004) else (some false))) else (none)) else (some true)
end
def spec_l05OK.f (k : Nat) (a0_0 : Int) (a0_1 : Int) (a0_2 : Int) (a0_3 : Int) (l0_4 : List ByteArray) : Option (Bool) := (spec_l04Code.f a0_0 a0_1).bind fun t506 => (if t506 = true then ((spec_l00In.f a0_2 1 8).bind fun t507 => (if t507 = true then ((spec_l00In.f a0_3 0 256).bind fun t508 => (if t508 = true then (spec_l05OK.j0 k ((l0_4.length : Int) != (wrap64 (a0_0 + a0_1))) a0_0 a0_1 a0_2 a0_3 l0_4) else (spec_l05OK.j0 k true a0_0 a0_1 a0_2 a0_3 l0_4))) else (spec_l05OK.j0 k true a0_0 a0_1 a0_2 a0_3 l0_4))) else (spec_l05OK.j0 k true a0_0 a0_1 a0_2 a0_3 l0_4))
theorem spec_l05OK.mono_l : ∀ k, (∀ y0 y1 y2 y3 y4 y5, LeO (spec_l05OK.j0 k y0 y1 y2 y3 y4 y5) (spec_l05OK.j0 (k + 1) y0 y1 y2 y3 y4 y5)) ∧ (∀ y0 y1 y2 y3 y4 y5, LeO (spec_l05OK.l0 k y0 y1 y2 y3 y4 y5) (spec_l05OK.l0 (k + 1) y0 y1 y2 y3 y4 y5))
  | 0 => ⟨fun _ _ _ _ _ _ r h => by simp [spec_l05OK.j0] at h, fun _ _ _ _ _ _ r h => by simp [spec_l05OK.l0] at h⟩
  | k + 1 => by
    obtain ⟨ih0, ih1⟩ := spec_l05OK.mono_l k
    refine ⟨?_, ?_⟩
    · intro y0 y1 y2 y3 y4 y5
      unfold spec_l05OK.j0
      repeat' first
      | (with_reducible exact ih0 _ _ _ _ _ _)
      | (with_reducible exact ih1 _ _ _ _ _ _)
      | (with_reducible exact LeO.refl _)
      | (with_reducible exact LeO.none _)
      | (with_reducible refine LeO.ite ?_ ?_)
      | (with_reducible refine LeO.bind ?_ (fun _ => ?_))
      | exact ih0 _ _ _ _ _ _
      | exact ih1 _ _ _ _ _ _
      | exact LeO.none _
      | refine LeO.ite ?_ ?_
      | refine LeO.bind ?_ (fun _ => ?_)
    · intro y0 y1 y2 y3 y4 y5
      unfold spec_l05OK.l0
      repeat' first
      | (with_reducible exact ih0 _ _ _ _ _ _)
      | (with_reducible exact ih1 _ _ _ _ _ _)
      | (with_reducible exact LeO.refl _)
      | (with_reducible exact LeO.none _)
      | (with_reducible refine LeO.ite ?_ ?_)
      | (with_reducible refine LeO.bind ?_ (fun _ => ?_))
      | exact ih0 _ _ _ _ _ _
      | exact ih1 _ _ _ _ _ _
      | exact LeO.none _
      | refine LeO.ite ?_ ?_
      | refine LeO.bind ?_ (fun _ => ?_)
theorem spec_l05OK.mono : ∀ a0 a1 a2 a3 a4 k, LeO (spec_l05OK.f k a0 a1 a2 a3 a4) (spec_l05OK.f (k + 1) a0 a1 a2 a3 a4) := by
  intro a0 a1 a2 a3 a4 k
  obtain ⟨ih0, ih1⟩ := spec_l05OK.mono_l k
  unfold spec_l05OK.f
  repeat' first
      | (with_reducible exact ih0 _ _ _ _ _ _)
      | (with_reducible exact ih1 _ _ _ _ _ _)
      | (with_reducible exact LeO.refl _)
      | (with_reducible exact LeO.none _)
      | (with_reducible refine LeO.ite ?_ ?_)
      | (with_reducible refine LeO.bind ?_ (fun _ => ?_))
      | exact ih0 _ _ _ _ _ _
      | exact ih1 _ _ _ _ _ _
      | exact LeO.none _
      | refine LeO.ite ?_ ?_
      | refine LeO.bind ?_ (fun _ => ?_)
def spec_l05OK.T6 : Bool × List (List Nat × List Nat) := (true, [([], []), ([0], [0]), ([], []), ([1, 2], [1, 2]), ([3], [3]), ([4], [4]), ([], []), ([6], [6]), ([], []), ([8], [8]), ([], []), ([10], [10]), ([7, 9, 11], [7, 9, 11]), ([5, 12], [5, 12])])
def spec_l05OK.B6 : List Nat := [0, 1, 0, 7, 15, 31, 0, 64, 0, 256, 0, 1024, 4032, 8191]
theorem spec_l05OK.tab6 : rtab .any (opsOf Try.f113 6) = spec_l05OK.T6 := by kernel_rfl
theorem spec_l05OK.bits6 : waitsOk spec_l05OK.T6.2 spec_l05OK.B6 = true := by kernel_rfl
set_option maxHeartbeats 8000000 in
set_option maxRecDepth 100000 in
theorem spec_l05OK.calls (k : Nat) (a0_0 : Int) (a0_1 : Int) (a0_2 : Int) (a0_3 : Int) (A0_4 : Option Addr) (c0_4 : Nat) (l0_4 : List ByteArray) (r : Bool) (w : World) (hr0_4 : Kd.C Kd.string w A0_4 l0_4.length l0_4) (hc0_4 : l0_4.length ≤ c0_4) (h : spec_l05OK.f k a0_0 a0_1 a0_2 a0_3 l0_4 = some r) :
    Calls Try.prog 113 #[.agg #[.int .i64 a0_0, .int .i64 a0_1, .int .i64 a0_2, .int .i64 a0_3, .slice A0_4 l0_4.length c0_4]] w fun e w' => e = .returned (.bool r) ∧ Below w.heap.size w w' := by
  have hu83 := Try.underlying83
  have hu57 := Try.underlying57
  have HR0_4 := Aside0.mk hr0_4
  have HC0_4 := Aside0.mk hc0_4
  clear hr0_4 hc0_4
  have HB := Aside0.mk (Below.refl w.heap.size w)
  have H : ((spec_l04Code.f a0_0 a0_1).bind fun t506 => (if t506 = true then ((spec_l00In.f a0_2 1 8).bind fun t507 => (if t507 = true then ((spec_l00In.f a0_3 0 256).bind fun t508 => (if t508 = true then (spec_l05OK.j0 k ((l0_4.length : Int) != (wrap64 (a0_0 + a0_1))) a0_0 a0_1 a0_2 a0_3 l0_4) else (spec_l05OK.j0 k true a0_0 a0_1 a0_2 a0_3 l0_4))) else (spec_l05OK.j0 k true a0_0 a0_1 a0_2 a0_3 l0_4))) else (spec_l05OK.j0 k true a0_0 a0_1 a0_2 a0_3 l0_4))) = some r := h
  clear h
  have HC2 := Aside0.mk H
  clear H
  go_enter Try.func113, Try.ntmps113
  go_upto_region 1 with (first | ((with_reducible refine gate_dst (N := 1) rfl ?_); (try (refine gate_guard (by rfl) ?_; dsimp only)); refine box_event ?hg (N := 1) ?hd (cs := #[.int .i64 a0_0, .int .i64 a0_1, .int .i64 a0_2, .int .i64 a0_3, .slice A0_4 l0_4.length c0_4]) (t := 83) ?hr ?_; (case hd => rfl); (case hg => rfl); (case hr => first | (go_simp; done) | (go_simp; rfl)); intro gb505 hg w3 hbox hb; have n0_ := Aside0.mk (below_step (by repeat (first | (with_reducible first | exact HB.out | apply below_alloc | apply pw_below_drewN | apply below_drew1) | exact HB.out)) hb); have n1_ := Aside0.mk (hbox); have n2_ := Aside0.mk ((by rw [hg]; exact (below_size (by repeat (first | (with_reducible first | exact HB.out | apply below_alloc | apply pw_below_drewN | apply below_drew1) | exact HB.out))) : w.heap.size ≤ gb505)); have n3_ := Aside0.mk ((by rw [hg]; exact (below_size (by repeat (first | (with_reducible first | exact HB.out | apply below_alloc | apply pw_below_drewN | apply below_drew1) | exact HB.out))) : w.heap.size ≤ gb505)); clear HB; have HB := n0_; have BK505 := n1_; have GW505 := n2_; have GE505 := n3_; clear n0_ n1_ n2_ n3_; clear hb hbox hg))
  (try simp only [Act.put, List.setIfInBounds_toArray, List.set_cons_zero, List.set_cons_succ])
  go_cut [32] (fun v32 wc => ∃ (kq : Nat) (x32_1 : Bool), v32 = .bool x32_1 ∧ Aside0 (spec_l05OK.j0 kq x32_1 a0_0 a0_1 a0_2 a0_3 l0_4 = some r) ∧ Aside0 (kq ≤ k) ∧ Aside0 (wc.heap[gb505]? = some (.cells #[.int .i64 a0_0, .int .i64 a0_1, .int .i64 a0_2, .int .i64 a0_3, (.slice A0_4 l0_4.length c0_4)] 83 (0, 0))) ∧ Aside0 (Below w.heap.size w wc))
  case first =>
    have H := HC2.out
    clear HC2
    replace H := Option.bind_eq_some_iff.mp H
    obtain ⟨t506, A40, H⟩ := H
    replace H : (if t506 = true then ((spec_l00In.f a0_2 1 8).bind fun t507 => (if t507 = true then ((spec_l00In.f a0_3 0 256).bind fun t508 => (if t508 = true then (spec_l05OK.j0 k ((l0_4.length : Int) != (wrap64 (a0_0 + a0_1))) a0_0 a0_1 a0_2 a0_3 l0_4) else (spec_l05OK.j0 k true a0_0 a0_1 a0_2 a0_3 l0_4))) else (spec_l05OK.j0 k true a0_0 a0_1 a0_2 a0_3 l0_4))) else (spec_l05OK.j0 k true a0_0 a0_1 a0_2 a0_3 l0_4)) = some r := H
    have A4 := Aside0.mk A40
    clear A40
    by_cases c5 : t506 = true
    · subst c5
      have H1 : ((spec_l00In.f a0_2 1 8).bind fun t507 => (if t507 = true then ((spec_l00In.f a0_3 0 256).bind fun t508 => (if t508 = true then (spec_l05OK.j0 k ((l0_4.length : Int) != (wrap64 (a0_0 + a0_1))) a0_0 a0_1 a0_2 a0_3 l0_4) else (spec_l05OK.j0 k true a0_0 a0_1 a0_2 a0_3 l0_4))) else (spec_l05OK.j0 k true a0_0 a0_1 a0_2 a0_3 l0_4))) = some r := by rw [if_pos rfl] at H; exact H
      clear H
      have H := H1
      clear H1
      replace H := Option.bind_eq_some_iff.mp H
      obtain ⟨t507, A60, H⟩ := H
      replace H : (if t507 = true then ((spec_l00In.f a0_3 0 256).bind fun t508 => (if t508 = true then (spec_l05OK.j0 k ((l0_4.length : Int) != (wrap64 (a0_0 + a0_1))) a0_0 a0_1 a0_2 a0_3 l0_4) else (spec_l05OK.j0 k true a0_0 a0_1 a0_2 a0_3 l0_4))) else (spec_l05OK.j0 k true a0_0 a0_1 a0_2 a0_3 l0_4)) = some r := H
      have A6 := Aside0.mk A60
      clear A60
      by_cases c7 : t507 = true
      · subst c7
        have H1 : ((spec_l00In.f a0_3 0 256).bind fun t508 => (if t508 = true then (spec_l05OK.j0 k ((l0_4.length : Int) != (wrap64 (a0_0 + a0_1))) a0_0 a0_1 a0_2 a0_3 l0_4) else (spec_l05OK.j0 k true a0_0 a0_1 a0_2 a0_3 l0_4))) = some r := by rw [if_pos rfl] at H; exact H
        clear H
        have H := H1
        clear H1
        replace H := Option.bind_eq_some_iff.mp H
        obtain ⟨t508, A80, H⟩ := H
        replace H : (if t508 = true then (spec_l05OK.j0 k ((l0_4.length : Int) != (wrap64 (a0_0 + a0_1))) a0_0 a0_1 a0_2 a0_3 l0_4) else (spec_l05OK.j0 k true a0_0 a0_1 a0_2 a0_3 l0_4)) = some r := H
        have A8 := Aside0.mk A80
        clear A80
        by_cases c9 : t508 = true
        · subst c9
          have H1 : (spec_l05OK.j0 k ((l0_4.length : Int) != (wrap64 (a0_0 + a0_1))) a0_0 a0_1 a0_2 a0_3 l0_4) = some r := by rw [if_pos rfl] at H; exact H
          clear H
          have H := H1
          clear H1
          have H' := Aside0.mk H
          clear H
          have hcz10_0 : w3.cell? ⟨gb505, 0, none⟩ = some (.int .i64 a0_0) := (blk_cell BK505.out 0).trans rfl
          have hcz10_1 : w3.cell? ⟨gb505, 1, none⟩ = some (.int .i64 a0_1) := (blk_cell BK505.out 1).trans rfl
          have hcz10_2 : w3.cell? ⟨gb505, 2, none⟩ = some (.int .i64 a0_2) := (blk_cell BK505.out 2).trans rfl
          have hcz10_3 : w3.cell? ⟨gb505, 3, none⟩ = some (.int .i64 a0_3) := (blk_cell BK505.out 3).trans rfl
          have hcz10_4 : w3.cell? ⟨gb505, 4, none⟩ = some (.slice A0_4 l0_4.length c0_4) := (blk_cell BK505.out 4).trans rfl
          have hfz10_0 := blk_frozen BK505.out 0
          have hfz10_1 := blk_frozen BK505.out 1
          have hfz10_2 := blk_frozen BK505.out 2
          have hfz10_3 := blk_frozen BK505.out 3
          have hfz10_4 := blk_frozen BK505.out 4
          go_wp2_with (first | ((with_reducible refine gate_callee (f := 146) rfl ?_); refine goesL_ (some 6) rfl rfl Try.func146 (by kernel_rfl) rfl #[.agg #[.int .i64 a0_0, .int .i64 a0_1]] rfl (by (try simp only [List.map_toArray, List.map_cons, List.map_nil]); first | done | rfl | (simp only [List.length_drop, List.length_take]; rfl)) ?_; (with_reducible refine (spec_l04Code.calls a0_0 a0_1 true _ A4.out).mono ?_); rintro e w11 ⟨rfl, hb⟩; refine ⟨_, rfl, ?_⟩; have n0_ := Aside0.mk (blk_below (g := gb505) (o := .cells #[.int .i64 a0_0, .int .i64 a0_1, .int .i64 a0_2, .int .i64 a0_3, .slice A0_4 l0_4.length c0_4] 83 (0, 0)) (by (with_reducible repeat (first | refine blk_drewN ?_ _ | refine blk_drew ?_ | refine blk_alloc ?_ _)); exact BK505.out) hb); have n1_ := Aside0.mk (below_step (by repeat (first | (with_reducible first | exact HB.out | apply below_alloc | apply pw_below_drewN | apply below_drew1 | refine below_set ?_ GE505.out) | exact HB.out)) hb); clear BK505; clear HB; have BK505 := n0_; have HB := n1_; clear n0_ n1_; (try clear hb); (try clear hb2); (try clear hk); (try clear hi); have hcz12_0 : w11.cell? ⟨gb505, 0, none⟩ = some (.int .i64 a0_0) := (blk_cell BK505.out 0).trans rfl; have hcz12_1 : w11.cell? ⟨gb505, 1, none⟩ = some (.int .i64 a0_1) := (blk_cell BK505.out 1).trans rfl; have hcz12_2 : w11.cell? ⟨gb505, 2, none⟩ = some (.int .i64 a0_2) := (blk_cell BK505.out 2).trans rfl; have hcz12_3 : w11.cell? ⟨gb505, 3, none⟩ = some (.int .i64 a0_3) := (blk_cell BK505.out 3).trans rfl; have hcz12_4 : w11.cell? ⟨gb505, 4, none⟩ = some (.slice A0_4 l0_4.length c0_4) := (blk_cell BK505.out 4).trans rfl; have hfz12_0 := blk_frozen BK505.out 0; have hfz12_1 := blk_frozen BK505.out 1; have hfz12_2 := blk_frozen BK505.out 2; have hfz12_3 := blk_frozen BK505.out 3; have hfz12_4 := blk_frozen BK505.out 4) | (go_at_call 96; (with_reducible refine (spec_l00In.calls a0_2 1 8 true _ A6.out).mono ?_); rintro e w' ⟨rfl, ⟨nd, rfl⟩⟩) | (go_at_call 96; (with_reducible refine (spec_l00In.calls a0_3 0 256 true _ A8.out).mono ?_); rintro e w' ⟨rfl, ⟨nd, rfl⟩⟩))
          go_meet
          case rel => exact ⟨_, (((l0_4.length : Int) != (wrap64 (a0_0 + a0_1)))), (by first | rfl | (simp; done) | (simp [*]; done)), H', ⟨by first | omega | exact Nat.le_refl _⟩, ⟨by (with_reducible repeat (first | refine blk_drewN ?_ _ | refine blk_drew ?_ | refine blk_alloc ?_ _)); exact BK505.out⟩, ⟨by repeat (first | (with_reducible first | exact HB.out | apply below_alloc | apply pw_below_drewN | apply below_drew1 | refine below_set ?_ GE505.out) | exact HB.out)⟩⟩
        · replace c9 := Bool.eq_false_iff.mpr c9
          subst c9
          have H1 : (spec_l05OK.j0 k true a0_0 a0_1 a0_2 a0_3 l0_4) = some r := by rw [if_neg (show ¬ (false = true) by decide)] at H; exact H
          clear H
          have H := H1
          clear H1
          have H' := Aside0.mk H
          clear H
          have hcz13_0 : w3.cell? ⟨gb505, 0, none⟩ = some (.int .i64 a0_0) := (blk_cell BK505.out 0).trans rfl
          have hcz13_1 : w3.cell? ⟨gb505, 1, none⟩ = some (.int .i64 a0_1) := (blk_cell BK505.out 1).trans rfl
          have hcz13_2 : w3.cell? ⟨gb505, 2, none⟩ = some (.int .i64 a0_2) := (blk_cell BK505.out 2).trans rfl
          have hcz13_3 : w3.cell? ⟨gb505, 3, none⟩ = some (.int .i64 a0_3) := (blk_cell BK505.out 3).trans rfl
          have hcz13_4 : w3.cell? ⟨gb505, 4, none⟩ = some (.slice A0_4 l0_4.length c0_4) := (blk_cell BK505.out 4).trans rfl
          have hfz13_0 := blk_frozen BK505.out 0
          have hfz13_1 := blk_frozen BK505.out 1
          have hfz13_2 := blk_frozen BK505.out 2
          have hfz13_3 := blk_frozen BK505.out 3
          have hfz13_4 := blk_frozen BK505.out 4
          go_wp2_with (first | ((with_reducible refine gate_callee (f := 146) rfl ?_); refine goesL_ (some 6) rfl rfl Try.func146 (by kernel_rfl) rfl #[.agg #[.int .i64 a0_0, .int .i64 a0_1]] rfl (by (try simp only [List.map_toArray, List.map_cons, List.map_nil]); first | done | rfl | (simp only [List.length_drop, List.length_take]; rfl)) ?_; (with_reducible refine (spec_l04Code.calls a0_0 a0_1 true _ A4.out).mono ?_); rintro e w14 ⟨rfl, hb⟩; refine ⟨_, rfl, ?_⟩; have n0_ := Aside0.mk (blk_below (g := gb505) (o := .cells #[.int .i64 a0_0, .int .i64 a0_1, .int .i64 a0_2, .int .i64 a0_3, .slice A0_4 l0_4.length c0_4] 83 (0, 0)) (by (with_reducible repeat (first | refine blk_drewN ?_ _ | refine blk_drew ?_ | refine blk_alloc ?_ _)); exact BK505.out) hb); have n1_ := Aside0.mk (below_step (by repeat (first | (with_reducible first | exact HB.out | apply below_alloc | apply pw_below_drewN | apply below_drew1 | refine below_set ?_ GE505.out) | exact HB.out)) hb); clear BK505; clear HB; have BK505 := n0_; have HB := n1_; clear n0_ n1_; (try clear hb); (try clear hb2); (try clear hk); (try clear hi); have hcz15_0 : w14.cell? ⟨gb505, 0, none⟩ = some (.int .i64 a0_0) := (blk_cell BK505.out 0).trans rfl; have hcz15_1 : w14.cell? ⟨gb505, 1, none⟩ = some (.int .i64 a0_1) := (blk_cell BK505.out 1).trans rfl; have hcz15_2 : w14.cell? ⟨gb505, 2, none⟩ = some (.int .i64 a0_2) := (blk_cell BK505.out 2).trans rfl; have hcz15_3 : w14.cell? ⟨gb505, 3, none⟩ = some (.int .i64 a0_3) := (blk_cell BK505.out 3).trans rfl; have hcz15_4 : w14.cell? ⟨gb505, 4, none⟩ = some (.slice A0_4 l0_4.length c0_4) := (blk_cell BK505.out 4).trans rfl; have hfz15_0 := blk_frozen BK505.out 0; have hfz15_1 := blk_frozen BK505.out 1; have hfz15_2 := blk_frozen BK505.out 2; have hfz15_3 := blk_frozen BK505.out 3; have hfz15_4 := blk_frozen BK505.out 4) | (go_at_call 96; (with_reducible refine (spec_l00In.calls a0_2 1 8 true _ A6.out).mono ?_); rintro e w' ⟨rfl, ⟨nd, rfl⟩⟩) | (go_at_call 96; (with_reducible refine (spec_l00In.calls a0_3 0 256 false _ A8.out).mono ?_); rintro e w' ⟨rfl, ⟨nd, rfl⟩⟩))
          go_meet
          case rel => exact ⟨_, (true), (by first | rfl | (simp; done) | (simp [*]; done)), H', ⟨by first | omega | exact Nat.le_refl _⟩, ⟨by (with_reducible repeat (first | refine blk_drewN ?_ _ | refine blk_drew ?_ | refine blk_alloc ?_ _)); exact BK505.out⟩, ⟨by repeat (first | (with_reducible first | exact HB.out | apply below_alloc | apply pw_below_drewN | apply below_drew1 | refine below_set ?_ GE505.out) | exact HB.out)⟩⟩
      · replace c7 := Bool.eq_false_iff.mpr c7
        subst c7
        have H1 : (spec_l05OK.j0 k true a0_0 a0_1 a0_2 a0_3 l0_4) = some r := by rw [if_neg (show ¬ (false = true) by decide)] at H; exact H
        clear H
        have H := H1
        clear H1
        have H' := Aside0.mk H
        clear H
        have hcz16_0 : w3.cell? ⟨gb505, 0, none⟩ = some (.int .i64 a0_0) := (blk_cell BK505.out 0).trans rfl
        have hcz16_1 : w3.cell? ⟨gb505, 1, none⟩ = some (.int .i64 a0_1) := (blk_cell BK505.out 1).trans rfl
        have hcz16_2 : w3.cell? ⟨gb505, 2, none⟩ = some (.int .i64 a0_2) := (blk_cell BK505.out 2).trans rfl
        have hcz16_3 : w3.cell? ⟨gb505, 3, none⟩ = some (.int .i64 a0_3) := (blk_cell BK505.out 3).trans rfl
        have hcz16_4 : w3.cell? ⟨gb505, 4, none⟩ = some (.slice A0_4 l0_4.length c0_4) := (blk_cell BK505.out 4).trans rfl
        have hfz16_0 := blk_frozen BK505.out 0
        have hfz16_1 := blk_frozen BK505.out 1
        have hfz16_2 := blk_frozen BK505.out 2
        have hfz16_3 := blk_frozen BK505.out 3
        have hfz16_4 := blk_frozen BK505.out 4
        go_wp2_with (first | ((with_reducible refine gate_callee (f := 146) rfl ?_); refine goesL_ (some 6) rfl rfl Try.func146 (by kernel_rfl) rfl #[.agg #[.int .i64 a0_0, .int .i64 a0_1]] rfl (by (try simp only [List.map_toArray, List.map_cons, List.map_nil]); first | done | rfl | (simp only [List.length_drop, List.length_take]; rfl)) ?_; (with_reducible refine (spec_l04Code.calls a0_0 a0_1 true _ A4.out).mono ?_); rintro e w17 ⟨rfl, hb⟩; refine ⟨_, rfl, ?_⟩; have n0_ := Aside0.mk (blk_below (g := gb505) (o := .cells #[.int .i64 a0_0, .int .i64 a0_1, .int .i64 a0_2, .int .i64 a0_3, .slice A0_4 l0_4.length c0_4] 83 (0, 0)) (by (with_reducible repeat (first | refine blk_drewN ?_ _ | refine blk_drew ?_ | refine blk_alloc ?_ _)); exact BK505.out) hb); have n1_ := Aside0.mk (below_step (by repeat (first | (with_reducible first | exact HB.out | apply below_alloc | apply pw_below_drewN | apply below_drew1 | refine below_set ?_ GE505.out) | exact HB.out)) hb); clear BK505; clear HB; have BK505 := n0_; have HB := n1_; clear n0_ n1_; (try clear hb); (try clear hb2); (try clear hk); (try clear hi); have hcz18_0 : w17.cell? ⟨gb505, 0, none⟩ = some (.int .i64 a0_0) := (blk_cell BK505.out 0).trans rfl; have hcz18_1 : w17.cell? ⟨gb505, 1, none⟩ = some (.int .i64 a0_1) := (blk_cell BK505.out 1).trans rfl; have hcz18_2 : w17.cell? ⟨gb505, 2, none⟩ = some (.int .i64 a0_2) := (blk_cell BK505.out 2).trans rfl; have hcz18_3 : w17.cell? ⟨gb505, 3, none⟩ = some (.int .i64 a0_3) := (blk_cell BK505.out 3).trans rfl; have hcz18_4 : w17.cell? ⟨gb505, 4, none⟩ = some (.slice A0_4 l0_4.length c0_4) := (blk_cell BK505.out 4).trans rfl; have hfz18_0 := blk_frozen BK505.out 0; have hfz18_1 := blk_frozen BK505.out 1; have hfz18_2 := blk_frozen BK505.out 2; have hfz18_3 := blk_frozen BK505.out 3; have hfz18_4 := blk_frozen BK505.out 4) | (go_at_call 96; (with_reducible refine (spec_l00In.calls a0_2 1 8 false _ A6.out).mono ?_); rintro e w' ⟨rfl, ⟨nd, rfl⟩⟩))
        go_meet
        case rel => exact ⟨_, (true), (by first | rfl | (simp; done) | (simp [*]; done)), H', ⟨by first | omega | exact Nat.le_refl _⟩, ⟨by (with_reducible repeat (first | refine blk_drewN ?_ _ | refine blk_drew ?_ | refine blk_alloc ?_ _)); exact BK505.out⟩, ⟨by repeat (first | (with_reducible first | exact HB.out | apply below_alloc | apply pw_below_drewN | apply below_drew1 | refine below_set ?_ GE505.out) | exact HB.out)⟩⟩
    · replace c5 := Bool.eq_false_iff.mpr c5
      subst c5
      have H1 : (spec_l05OK.j0 k true a0_0 a0_1 a0_2 a0_3 l0_4) = some r := by rw [if_neg (show ¬ (false = true) by decide)] at H; exact H
      clear H
      have H := H1
      clear H1
      have H' := Aside0.mk H
      clear H
      have hcz19_0 : w3.cell? ⟨gb505, 0, none⟩ = some (.int .i64 a0_0) := (blk_cell BK505.out 0).trans rfl
      have hcz19_1 : w3.cell? ⟨gb505, 1, none⟩ = some (.int .i64 a0_1) := (blk_cell BK505.out 1).trans rfl
      have hcz19_2 : w3.cell? ⟨gb505, 2, none⟩ = some (.int .i64 a0_2) := (blk_cell BK505.out 2).trans rfl
      have hcz19_3 : w3.cell? ⟨gb505, 3, none⟩ = some (.int .i64 a0_3) := (blk_cell BK505.out 3).trans rfl
      have hcz19_4 : w3.cell? ⟨gb505, 4, none⟩ = some (.slice A0_4 l0_4.length c0_4) := (blk_cell BK505.out 4).trans rfl
      have hfz19_0 := blk_frozen BK505.out 0
      have hfz19_1 := blk_frozen BK505.out 1
      have hfz19_2 := blk_frozen BK505.out 2
      have hfz19_3 := blk_frozen BK505.out 3
      have hfz19_4 := blk_frozen BK505.out 4
      go_wp2_with (first | ((with_reducible refine gate_callee (f := 146) rfl ?_); refine goesL_ (some 6) rfl rfl Try.func146 (by kernel_rfl) rfl #[.agg #[.int .i64 a0_0, .int .i64 a0_1]] rfl (by (try simp only [List.map_toArray, List.map_cons, List.map_nil]); first | done | rfl | (simp only [List.length_drop, List.length_take]; rfl)) ?_; (with_reducible refine (spec_l04Code.calls a0_0 a0_1 false _ A4.out).mono ?_); rintro e w20 ⟨rfl, hb⟩; refine ⟨_, rfl, ?_⟩; have n0_ := Aside0.mk (blk_below (g := gb505) (o := .cells #[.int .i64 a0_0, .int .i64 a0_1, .int .i64 a0_2, .int .i64 a0_3, .slice A0_4 l0_4.length c0_4] 83 (0, 0)) (by (with_reducible repeat (first | refine blk_drewN ?_ _ | refine blk_drew ?_ | refine blk_alloc ?_ _)); exact BK505.out) hb); have n1_ := Aside0.mk (below_step (by repeat (first | (with_reducible first | exact HB.out | apply below_alloc | apply pw_below_drewN | apply below_drew1 | refine below_set ?_ GE505.out) | exact HB.out)) hb); clear BK505; clear HB; have BK505 := n0_; have HB := n1_; clear n0_ n1_; (try clear hb); (try clear hb2); (try clear hk); (try clear hi)))
      go_meet
      case rel => exact ⟨_, (true), (by first | rfl | (simp; done) | (simp [*]; done)), H', ⟨by first | omega | exact Nat.le_refl _⟩, ⟨by (with_reducible repeat (first | refine blk_drewN ?_ _ | refine blk_drew ?_ | refine blk_alloc ?_ _)); exact BK505.out⟩, ⟨by repeat (first | (with_reducible first | exact HB.out | apply below_alloc | apply pw_below_drewN | apply below_drew1 | refine below_set ?_ GE505.out) | exact HB.out)⟩⟩
  case rest =>
    clear HC2
    try clear c1
    try clear p2
    try clear c5
    try clear p6
    try clear c7
    try clear c9
    try clear c11
    try clear c14
    try clear hcz10_0
    try clear hcz10_1
    try clear hcz10_2
    try clear hcz10_3
    try clear hcz10_4
    try clear hcz12_0
    try clear hcz12_1
    try clear hcz12_2
    try clear hcz12_3
    try clear hcz12_4
    try clear hcz13_0
    try clear hcz13_1
    try clear hcz13_2
    try clear hcz13_3
    try clear hcz13_4
    try clear hcz15_0
    try clear hcz15_1
    try clear hcz15_2
    try clear hcz15_3
    try clear hcz15_4
    try clear hcz16_0
    try clear hcz16_1
    try clear hcz16_2
    try clear hcz16_3
    try clear hcz16_4
    try clear hcz18_0
    try clear hcz18_1
    try clear hcz18_2
    try clear hcz18_3
    try clear hcz18_4
    try clear hcz19_0
    try clear hcz19_1
    try clear hcz19_2
    try clear hcz19_3
    try clear hcz19_4
    try clear hfz10_0
    try clear hfz10_1
    try clear hfz10_2
    try clear hfz10_3
    try clear hfz10_4
    try clear hfz12_0
    try clear hfz12_1
    try clear hfz12_2
    try clear hfz12_3
    try clear hfz12_4
    try clear hfz13_0
    try clear hfz13_1
    try clear hfz13_2
    try clear hfz13_3
    try clear hfz13_4
    try clear hfz15_0
    try clear hfz15_1
    try clear hfz15_2
    try clear hfz15_3
    try clear hfz15_4
    try clear hfz16_0
    try clear hfz16_1
    try clear hfz16_2
    try clear hfz16_3
    try clear hfz16_4
    try clear hfz18_0
    try clear hfz18_1
    try clear hfz18_2
    try clear hfz18_3
    try clear hfz18_4
    try clear hfz19_0
    try clear hfz19_1
    try clear hfz19_2
    try clear hfz19_3
    try clear hfz19_4
    obtain ⟨kq, x32_1, rfl, HA, HJ1, BK505, HB⟩ := hcut
    cases kq with
    | zero => exact absurd HA.out (by simp [spec_l05OK.j0])
    | succ kj1 =>
      have H := HA.out
      clear HA
      simp only [spec_l05OK.j0] at H
      by_cases c21 : x32_1 = true
      · subst c21
        have H1 : (some false) = some r := by rw [if_pos rfl] at H; exact H
        clear H
        have H := H1
        clear H1
        obtain rfl := Option.some.inj H
        go_wp2
        go_ret
        exact ⟨by first | rfl | (simp [errW_none, errW_some] <;> rfl) | (simp [*, errW_none, errW_some] <;> rfl), by repeat (first | (with_reducible first | exact HB.out | apply below_alloc | apply pw_below_drewN | apply below_drew1 | refine below_set ?_ GE505.out) | exact HB.out)⟩
      · replace c21 := Bool.eq_false_iff.mpr c21
        subst c21
        have H1 : (spec_l05OK.l0 kj1 0 a0_0 a0_1 a0_2 a0_3 l0_4) = some r := by rw [if_neg (show ¬ (false = true) by decide)] at H; exact H
        clear H
        have H := H1
        clear H1
        have H' := Aside0.mk H
        clear H
        go_wp2
        go_loopg [3] kj1 (fun kq v3 w' => ∃ (x3_2 : Int), v3 = .int .i64 x3_2 ∧ Aside0 (spec_l05OK.l0 kq x3_2 a0_0 a0_1 a0_2 a0_3 l0_4 = some r) ∧ Aside0 (kq ≤ kj1) ∧ Aside0 (w'.heap[gb505]? = some (.cells #[.int .i64 a0_0, .int .i64 a0_1, .int .i64 a0_2, .int .i64 a0_3, (.slice A0_4 l0_4.length c0_4)] 83 (0, 0))) ∧ Aside0 (Below w.heap.size w w'))
        case atStart => exact ⟨(0), (by first | rfl | (simp; done) | (simp [*]; done)), H', ⟨Nat.le_refl _⟩, ⟨by (with_reducible repeat (first | refine blk_drewN ?_ _ | refine blk_drew ?_ | refine blk_alloc ?_ _)); exact BK505.out⟩, ⟨by repeat (first | (with_reducible first | exact HB.out | apply below_alloc | apply pw_below_drewN | apply below_drew1 | refine below_set ?_ GE505.out) | exact HB.out)⟩⟩
        case round =>
          clear H'
          try clear c1
          try clear c2
          try clear p2
          try clear c5
          try clear p6
          try clear c7
          try clear c9
          try clear c11
          try clear c14
          try clear c21
          try clear hcz10_0
          try clear hcz10_1
          try clear hcz10_2
          try clear hcz10_3
          try clear hcz10_4
          try clear hcz12_0
          try clear hcz12_1
          try clear hcz12_2
          try clear hcz12_3
          try clear hcz12_4
          try clear hcz13_0
          try clear hcz13_1
          try clear hcz13_2
          try clear hcz13_3
          try clear hcz13_4
          try clear hcz15_0
          try clear hcz15_1
          try clear hcz15_2
          try clear hcz15_3
          try clear hcz15_4
          try clear hcz16_0
          try clear hcz16_1
          try clear hcz16_2
          try clear hcz16_3
          try clear hcz16_4
          try clear hcz18_0
          try clear hcz18_1
          try clear hcz18_2
          try clear hcz18_3
          try clear hcz18_4
          try clear hcz19_0
          try clear hcz19_1
          try clear hcz19_2
          try clear hcz19_3
          try clear hcz19_4
          try clear hfz10_0
          try clear hfz10_1
          try clear hfz10_2
          try clear hfz10_3
          try clear hfz10_4
          try clear hfz12_0
          try clear hfz12_1
          try clear hfz12_2
          try clear hfz12_3
          try clear hfz12_4
          try clear hfz13_0
          try clear hfz13_1
          try clear hfz13_2
          try clear hfz13_3
          try clear hfz13_4
          try clear hfz15_0
          try clear hfz15_1
          try clear hfz15_2
          try clear hfz15_3
          try clear hfz15_4
          try clear hfz16_0
          try clear hfz16_1
          try clear hfz16_2
          try clear hfz16_3
          try clear hfz16_4
          try clear hfz18_0
          try clear hfz18_1
          try clear hfz18_2
          try clear hfz18_3
          try clear hfz18_4
          try clear hfz19_0
          try clear hfz19_1
          try clear hfz19_2
          try clear hfz19_3
          try clear hfz19_4
          try clear p2
          try clear p6
          obtain ⟨x3_2, rfl, HA, HK2, BK505, HB⟩ := hrel
          cases gk with
          | zero => exact absurd HA.out (by simp [spec_l05OK.l0])
          | succ k2 =>
            have H := HA.out
            clear HA
            simp only [spec_l05OK.l0] at H
            by_cases c22 : x3_2 < (l0_4.length : Int)
            · rw [if_pos c22] at H
              have c22b0 : decide (x3_2 < (l0_4.length : Int)) = true := decide_eq_true c22
              clear c22
              by_cases c23 : 0 ≤ x3_2
              · rw [if_pos c23] at H
                have c23b0 : decide (0 ≤ x3_2) = true := decide_eq_true c23
                clear c23
                replace H := Option.bind_eq_some_iff.mp H
                obtain ⟨t510, A240, H⟩ := H
                replace H : (if ((rdOf ByteArray.empty l0_4 x3_2).size : Int) = t510 then (spec_l05OK.l0 k2 (wrap64 (x3_2 + 1)) a0_0 a0_1 a0_2 a0_3 l0_4) else (some false)) = some r := H
                have A24 := Aside0.mk A240
                clear A240
                by_cases c25 : ((rdOf ByteArray.empty l0_4 x3_2).size : Int) = t510
                · rw [if_pos c25] at H
                  have c25b0 : (((rdOf ByteArray.empty l0_4 x3_2).size : Int) == t510) = true := beq_iff_eq.mpr c25
                  have c25b1 : (((rdOf ByteArray.empty l0_4 x3_2).size : Int) != t510) = false := bne_eq_false_iff_eq.mpr c25
                  clear c25
                  have H' := Aside0.mk H
                  clear H
                  have hcz26_0 : wr.cell? ⟨gb505, 0, none⟩ = some (.int .i64 a0_0) := (blk_cell BK505.out 0).trans rfl
                  have hcz26_1 : wr.cell? ⟨gb505, 1, none⟩ = some (.int .i64 a0_1) := (blk_cell BK505.out 1).trans rfl
                  have hcz26_2 : wr.cell? ⟨gb505, 2, none⟩ = some (.int .i64 a0_2) := (blk_cell BK505.out 2).trans rfl
                  have hcz26_3 : wr.cell? ⟨gb505, 3, none⟩ = some (.int .i64 a0_3) := (blk_cell BK505.out 3).trans rfl
                  have hcz26_4 : wr.cell? ⟨gb505, 4, none⟩ = some (.slice A0_4 l0_4.length c0_4) := (blk_cell BK505.out 4).trans rfl
                  have hfz26_0 := blk_frozen BK505.out 0
                  have hfz26_1 := blk_frozen BK505.out 1
                  have hfz26_2 := blk_frozen BK505.out 2
                  have hfz26_3 := blk_frozen BK505.out 3
                  have hfz26_4 := blk_frozen BK505.out 4
                  try go_wp2
                  have n0_ := Aside0.mk (blk_drew BK505.out)
                  have n1_ := Aside0.mk (below_drew1 HB.out)
                  clear BK505
                  clear HB
                  have BK505 := n0_
                  have HB := n1_
                  clear n0_ n1_
                  have p509 : 0 ≤ (x3_2 : Int) := of_decide_eq_true (by first | (with_reducible assumption) | assumption)
                  have q509 : x3_2 < (l0_4.length : Int) := of_decide_eq_true (by first | (with_reducible assumption) | assumption)
                  obtain ⟨ad509, e509, hx509_0⟩ := Kd.at_string HR0_4.out x3_2 p509 q509
                  have hw509_0 := hx509_0
                  cases e509
                  replace hx509_0 := (HB.out.cell (World.block_lt_of_cell? w _ hx509_0)).trans hx509_0
                  replace p509 := eq_true p509
                  replace q509 := eq_true q509
                  refine start_ (n := 14) (S := fun w' => w'.cell? ⟨gb505, 0, none⟩ = some (.int .i64 a0_0) ∧ w'.cell? ⟨gb505, 1, none⟩ = some (.int .i64 a0_1) ∧ w'.cell? ⟨gb505, 2, none⟩ = some (.int .i64 a0_2) ∧ w'.cell? ⟨gb505, 3, none⟩ = some (.int .i64 a0_3) ∧ w'.cell? ⟨gb505, 4, none⟩ = some (.slice (some ad509) l0_4.length c0_4) ∧ w'.cell? (ad509.add (x3_2).toNat) = some (.string (rdOf ByteArray.empty l0_4 x3_2))) (ds := []) #[false, false, false, false, false, false, false, false, false, false, false, false, false, false] (by kernel_rfl) rfl rfl ⟨(blk_cell BK505.out 0).trans rfl, (blk_cell BK505.out 1).trans rfl, (blk_cell BK505.out 2).trans rfl, (blk_cell BK505.out 3).trans rfl, (blk_cell BK505.out 4).trans rfl, ((HB.out.cell (World.block_lt_of_cell? w _ hw509_0)).trans hw509_0)⟩ (fun hHeld => ?_); refine with_tabW spec_l05OK.tab6 spec_l05OK.bits6 (fun HT_ HW_ => ?_)
                  generalize wr.drew = w27 at BK505 HB hx509_0 hHeld ⊢
                  refine pure_ (i := 0) (N := some 40) (v := ?_) (a' := ?_) #[true, false, false, false, false, false, false, false, false, false, false, false, false, false] rfl rfl (any_of HT_.out (by kernel_rfl)) (fun _ _ _ h => h) (Or.inl ⟨by rfl, ?_⟩) ?_ ?_
                  rotate_left
                  · intro w'
                    go_simp
                    with_reducible rfl
                  rotate_left
                  · simp only [Act.put, List.setIfInBounds_toArray, List.set_cons_zero, List.set_cons_succ, i64_w, i32_w]
                    rfl
                  refine pure_ (i := 2) (N := some 42) (v := ?_) (a' := ?_) #[true, false, true, false, false, false, false, false, false, false, false, false, false, false] rfl rfl (any_of HT_.out (by kernel_rfl)) (fun _ _ _ h => h) (Or.inl ⟨by rfl, ?_⟩) ?_ ?_
                  rotate_left
                  · intro w'
                    go_simp
                    with_reducible rfl
                  rotate_left
                  · simp only [Act.put, List.setIfInBounds_toArray, List.set_cons_zero, List.set_cons_succ, i64_w, i32_w]
                    rfl
                  refine pure_ (i := 6) (N := some 46) (v := ?_) (a' := ?_) #[true, false, true, false, false, false, true, false, false, false, false, false, false, false] rfl rfl (any_of HT_.out (by kernel_rfl)) (fun _ _ _ h => h) (Or.inl ⟨by rfl, ?_⟩) ?_ ?_
                  rotate_left
                  · intro w'
                    go_simp
                    with_reducible rfl
                  rotate_left
                  · simp only [Act.put, List.setIfInBounds_toArray, List.set_cons_zero, List.set_cons_succ, i64_w, i32_w]
                    rfl
                  refine pure_ (i := 8) (N := some 48) (v := ?_) (a' := ?_) #[true, false, true, false, false, false, true, false, true, false, false, false, false, false] rfl rfl (any_of HT_.out (by kernel_rfl)) (fun _ _ _ h => h) (Or.inl ⟨by rfl, ?_⟩) ?_ ?_
                  rotate_left
                  · intro w'
                    go_simp
                    with_reducible rfl
                  rotate_left
                  · simp only [Act.put, List.setIfInBounds_toArray, List.set_cons_zero, List.set_cons_succ, i64_w, i32_w]
                    rfl
                  refine pure_ (i := 10) (N := some 50) (v := ?_) (a' := ?_) #[true, false, true, false, false, false, true, false, true, false, true, false, false, false] rfl rfl (any_of HT_.out (by kernel_rfl)) (fun _ _ _ h => h) (Or.inl ⟨by rfl, ?_⟩) ?_ ?_
                  rotate_left
                  · intro w'
                    go_simp
                    with_reducible rfl
                  rotate_left
                  · simp only [Act.put, List.setIfInBounds_toArray, List.set_cons_zero, List.set_cons_succ, i64_w, i32_w]
                    rfl
                  refine take_ (i := 1) (N := some 41) (v := ?_) (a' := ?_) #[true, true, true, false, false, false, true, false, true, false, true, false, false, false] rfl rfl (take_ofW HT_.out HW_.out (by kernel_rfl)) (fun _ _ _ h => h) (Or.inl ⟨by rfl, ?_⟩) hHeld ?_ ?_
                  rotate_left
                  · rintro w' ⟨s0, s1, s2, s3, s4, s5⟩
                    go_simp
                    with_reducible rfl
                  rotate_left
                  · simp only [Act.put, List.setIfInBounds_toArray, List.set_cons_zero, List.set_cons_succ, i64_w, i32_w]
                    rfl
                  refine pure_ (i := 3) (N := some 43) (v := ?_) (a' := ?_) #[true, true, true, true, false, false, true, false, true, false, true, false, false, false] rfl rfl (any_of HT_.out (by kernel_rfl)) (fun _ _ _ h => h) (Or.inl ⟨by rfl, ?_⟩) ?_ ?_
                  rotate_left
                  · intro w'
                    go_simp
                    with_reducible rfl
                  rotate_left
                  · simp only [Act.put, List.setIfInBounds_toArray, List.set_cons_zero, List.set_cons_succ, i64_w, i32_w]
                    rfl
                  refine take_ (i := 4) (N := some 44) (v := ?_) (a' := ?_) #[true, true, true, true, true, false, true, false, true, false, true, false, false, false] rfl rfl (take_ofW HT_.out HW_.out (by kernel_rfl)) (fun _ _ _ h => h) (Or.inl ⟨by rfl, ?_⟩) hHeld ?_ ?_
                  rotate_left
                  · rintro w' ⟨s0, s1, s2, s3, s4, s5⟩
                    go_simp
                    with_reducible rfl
                  rotate_left
                  · simp only [Act.put, List.setIfInBounds_toArray, List.set_cons_zero, List.set_cons_succ, i64_w, i32_w]
                    rfl
                  refine pure_ (i := 5) (N := some 45) (v := ?_) (a' := ?_) #[true, true, true, true, true, true, true, false, true, false, true, false, false, false] rfl rfl (any_of HT_.out (by kernel_rfl)) (fun _ _ _ h => h) (Or.inl ⟨by rfl, ?_⟩) ?_ ?_
                  rotate_left
                  · intro w'
                    go_simp
                    with_reducible rfl
                  rotate_left
                  · simp only [Act.put, List.setIfInBounds_toArray, List.set_cons_zero, List.set_cons_succ, i64_w, i32_w]
                    rfl
                  refine take_ (i := 7) (N := some 47) (v := ?_) (a' := ?_) #[true, true, true, true, true, true, true, true, true, false, true, false, false, false] rfl rfl (take_ofW HT_.out HW_.out (by kernel_rfl)) (fun _ _ _ h => h) (Or.inl ⟨by rfl, ?_⟩) hHeld ?_ ?_
                  rotate_left
                  · rintro w' ⟨s0, s1, s2, s3, s4, s5⟩
                    go_simp
                    with_reducible rfl
                  rotate_left
                  · simp only [Act.put, List.setIfInBounds_toArray, List.set_cons_zero, List.set_cons_succ, i64_w, i32_w]
                    rfl
                  refine take_ (i := 9) (N := some 49) (v := ?_) (a' := ?_) #[true, true, true, true, true, true, true, true, true, true, true, false, false, false] rfl rfl (take_ofW HT_.out HW_.out (by kernel_rfl)) (fun _ _ _ h => h) (Or.inl ⟨by rfl, ?_⟩) hHeld ?_ ?_
                  rotate_left
                  · rintro w' ⟨s0, s1, s2, s3, s4, s5⟩
                    go_simp
                    with_reducible rfl
                  rotate_left
                  · simp only [Act.put, List.setIfInBounds_toArray, List.set_cons_zero, List.set_cons_succ, i64_w, i32_w]
                    rfl
                  refine take_ (i := 11) (N := some 51) (v := ?_) (a' := ?_) #[true, true, true, true, true, true, true, true, true, true, true, true, false, false] rfl rfl (take_ofW HT_.out HW_.out (by kernel_rfl)) (fun _ _ _ h => h) (Or.inl ⟨by rfl, ?_⟩) hHeld ?_ ?_
                  rotate_left
                  · rintro w' ⟨s0, s1, s2, s3, s4, s5⟩
                    go_simp
                    with_reducible rfl
                  rotate_left
                  · simp only [Act.put, List.setIfInBounds_toArray, List.set_cons_zero, List.set_cons_succ, i64_w, i32_w]
                    rfl
                  refine one_ (i := 12) (N := some 52) #[true, true, true, true, true, true, true, true, true, true, true, true, true, false] rfl rfl (one_of HT_.out (by kernel_rfl)) (by decide) (fun K hK => ?_)
                  refine goes_ Try.func153 (by kernel_rfl) rfl #[.agg #[.int .i64 a0_0, .int .i64 a0_1], .int .i64 a0_2, .int .i64 a0_3] (by rfl) rfl rfl (by (try simp only [List.map_toArray, List.map_cons, List.map_nil]); first | done | rfl | (simp only [List.length_drop, List.length_take]; rfl)) ?_
                  with_reducible refine (spec_l05Tall.calls a0_0 a0_1 a0_2 a0_3 t510 _ A24.out).mono ?_
                  rintro e w28 ⟨rfl, hb⟩
                  refine ⟨_, rfl, ?_⟩
                  have n0_ := Aside0.mk (blk_below (g := gb505) (o := .cells #[.int .i64 a0_0, .int .i64 a0_1, .int .i64 a0_2, .int .i64 a0_3, .slice (some ad509) l0_4.length c0_4] 83 (0, 0)) (by (with_reducible repeat (first | refine blk_drewN ?_ _ | refine blk_drew ?_ | refine blk_alloc ?_ _)); exact BK505.out) hb)
                  have n1_ := Aside0.mk (below_step (by repeat (first | (with_reducible first | exact HB.out | apply below_alloc | apply pw_below_drewN | apply below_drew1 | refine below_set ?_ GE505.out) | exact HB.out)) hb)
                  clear BK505
                  clear HB
                  have BK505 := n0_
                  have HB := n1_
                  clear n0_ n1_
                  (try clear hb)
                  (try clear hb2)
                  (try clear hk)
                  (try clear hi)
                  refine hK.out _ _ ⟨(blk_cell BK505.out 0).trans rfl, (blk_cell BK505.out 1).trans rfl, (blk_cell BK505.out 2).trans rfl, (blk_cell BK505.out 3).trans rfl, (blk_cell BK505.out 4).trans rfl, ((HB.out.cell (World.block_lt_of_cell? w _ hw509_0)).trans hw509_0)⟩ (fun hHeld => ?_)
                  clear hK K
                  refine norm_ (a' := ?_) ?_ ?_
                  rotate_left
                  · show Act.put _ (some 52) _ = _
                    simp only [Act.put, List.setIfInBounds_toArray, List.set_cons_zero, List.set_cons_succ, i64_w, i32_w]
                    rfl
                  refine pure_ (i := 13) (N := some 53) (v := ?_) (a' := ?_) #[true, true, true, true, true, true, true, true, true, true, true, true, true, true] rfl rfl (any_of HT_.out (by kernel_rfl)) (fun _ _ _ h => h) (Or.inl ⟨by rfl, ?_⟩) ?_ ?_
                  rotate_left
                  · intro w'
                    go_simp
                    with_reducible rfl
                  rotate_left
                  · simp only [Act.put, List.setIfInBounds_toArray, List.set_cons_zero, List.set_cons_succ, i64_w, i32_w]
                    rfl
                  refine done_ (done_of HT_.out (by kernel_rfl)) ?_
                  try go_wp2
                  go_roundg k2
                  case measure => have := HJ1.out; have := HK2.out; omega
                  case rel => exact ⟨(wrap64 (x3_2 + 1)), (by first | rfl | (simp; done) | (simp [*]; done)), H', ⟨by have := HJ1.out; have := HK2.out; omega⟩, ⟨by (with_reducible repeat (first | refine blk_drewN ?_ _ | refine blk_drew ?_ | refine blk_alloc ?_ _)); exact BK505.out⟩, ⟨by repeat (first | (with_reducible first | exact HB.out | apply below_alloc | apply pw_below_drewN | apply below_drew1 | refine below_set ?_ GE505.out) | exact HB.out)⟩⟩
                · rw [if_neg c25] at H
                  have c25b0 : (((rdOf ByteArray.empty l0_4 x3_2).size : Int) == t510) = false := beq_eq_false_iff_ne.mpr c25
                  have c25b1 : (((rdOf ByteArray.empty l0_4 x3_2).size : Int) != t510) = true := bne_iff_ne.mpr c25
                  obtain rfl := Option.some.inj H
                  have hcz29_0 : wr.cell? ⟨gb505, 0, none⟩ = some (.int .i64 a0_0) := (blk_cell BK505.out 0).trans rfl
                  have hcz29_1 : wr.cell? ⟨gb505, 1, none⟩ = some (.int .i64 a0_1) := (blk_cell BK505.out 1).trans rfl
                  have hcz29_2 : wr.cell? ⟨gb505, 2, none⟩ = some (.int .i64 a0_2) := (blk_cell BK505.out 2).trans rfl
                  have hcz29_3 : wr.cell? ⟨gb505, 3, none⟩ = some (.int .i64 a0_3) := (blk_cell BK505.out 3).trans rfl
                  have hcz29_4 : wr.cell? ⟨gb505, 4, none⟩ = some (.slice A0_4 l0_4.length c0_4) := (blk_cell BK505.out 4).trans rfl
                  have hfz29_0 := blk_frozen BK505.out 0
                  have hfz29_1 := blk_frozen BK505.out 1
                  have hfz29_2 := blk_frozen BK505.out 2
                  have hfz29_3 := blk_frozen BK505.out 3
                  have hfz29_4 := blk_frozen BK505.out 4
                  try go_wp2
                  have n0_ := Aside0.mk (blk_drew BK505.out)
                  have n1_ := Aside0.mk (below_drew1 HB.out)
                  clear BK505
                  clear HB
                  have BK505 := n0_
                  have HB := n1_
                  clear n0_ n1_
                  have p509 : 0 ≤ (x3_2 : Int) := of_decide_eq_true (by first | (with_reducible assumption) | assumption)
                  have q509 : x3_2 < (l0_4.length : Int) := of_decide_eq_true (by first | (with_reducible assumption) | assumption)
                  obtain ⟨ad509, e509, hx509_0⟩ := Kd.at_string HR0_4.out x3_2 p509 q509
                  have hw509_0 := hx509_0
                  cases e509
                  replace hx509_0 := (HB.out.cell (World.block_lt_of_cell? w _ hx509_0)).trans hx509_0
                  replace p509 := eq_true p509
                  replace q509 := eq_true q509
                  refine start_ (n := 14) (S := fun w' => w'.cell? ⟨gb505, 0, none⟩ = some (.int .i64 a0_0) ∧ w'.cell? ⟨gb505, 1, none⟩ = some (.int .i64 a0_1) ∧ w'.cell? ⟨gb505, 2, none⟩ = some (.int .i64 a0_2) ∧ w'.cell? ⟨gb505, 3, none⟩ = some (.int .i64 a0_3) ∧ w'.cell? ⟨gb505, 4, none⟩ = some (.slice (some ad509) l0_4.length c0_4) ∧ w'.cell? (ad509.add (x3_2).toNat) = some (.string (rdOf ByteArray.empty l0_4 x3_2))) (ds := []) #[false, false, false, false, false, false, false, false, false, false, false, false, false, false] (by kernel_rfl) rfl rfl ⟨(blk_cell BK505.out 0).trans rfl, (blk_cell BK505.out 1).trans rfl, (blk_cell BK505.out 2).trans rfl, (blk_cell BK505.out 3).trans rfl, (blk_cell BK505.out 4).trans rfl, ((HB.out.cell (World.block_lt_of_cell? w _ hw509_0)).trans hw509_0)⟩ (fun hHeld => ?_); refine with_tabW spec_l05OK.tab6 spec_l05OK.bits6 (fun HT_ HW_ => ?_)
                  generalize wr.drew = w30 at BK505 HB hx509_0 hHeld ⊢
                  refine pure_ (i := 0) (N := some 40) (v := ?_) (a' := ?_) #[true, false, false, false, false, false, false, false, false, false, false, false, false, false] rfl rfl (any_of HT_.out (by kernel_rfl)) (fun _ _ _ h => h) (Or.inl ⟨by rfl, ?_⟩) ?_ ?_
                  rotate_left
                  · intro w'
                    go_simp
                    with_reducible rfl
                  rotate_left
                  · simp only [Act.put, List.setIfInBounds_toArray, List.set_cons_zero, List.set_cons_succ, i64_w, i32_w]
                    rfl
                  refine pure_ (i := 2) (N := some 42) (v := ?_) (a' := ?_) #[true, false, true, false, false, false, false, false, false, false, false, false, false, false] rfl rfl (any_of HT_.out (by kernel_rfl)) (fun _ _ _ h => h) (Or.inl ⟨by rfl, ?_⟩) ?_ ?_
                  rotate_left
                  · intro w'
                    go_simp
                    with_reducible rfl
                  rotate_left
                  · simp only [Act.put, List.setIfInBounds_toArray, List.set_cons_zero, List.set_cons_succ, i64_w, i32_w]
                    rfl
                  refine pure_ (i := 6) (N := some 46) (v := ?_) (a' := ?_) #[true, false, true, false, false, false, true, false, false, false, false, false, false, false] rfl rfl (any_of HT_.out (by kernel_rfl)) (fun _ _ _ h => h) (Or.inl ⟨by rfl, ?_⟩) ?_ ?_
                  rotate_left
                  · intro w'
                    go_simp
                    with_reducible rfl
                  rotate_left
                  · simp only [Act.put, List.setIfInBounds_toArray, List.set_cons_zero, List.set_cons_succ, i64_w, i32_w]
                    rfl
                  refine pure_ (i := 8) (N := some 48) (v := ?_) (a' := ?_) #[true, false, true, false, false, false, true, false, true, false, false, false, false, false] rfl rfl (any_of HT_.out (by kernel_rfl)) (fun _ _ _ h => h) (Or.inl ⟨by rfl, ?_⟩) ?_ ?_
                  rotate_left
                  · intro w'
                    go_simp
                    with_reducible rfl
                  rotate_left
                  · simp only [Act.put, List.setIfInBounds_toArray, List.set_cons_zero, List.set_cons_succ, i64_w, i32_w]
                    rfl
                  refine pure_ (i := 10) (N := some 50) (v := ?_) (a' := ?_) #[true, false, true, false, false, false, true, false, true, false, true, false, false, false] rfl rfl (any_of HT_.out (by kernel_rfl)) (fun _ _ _ h => h) (Or.inl ⟨by rfl, ?_⟩) ?_ ?_
                  rotate_left
                  · intro w'
                    go_simp
                    with_reducible rfl
                  rotate_left
                  · simp only [Act.put, List.setIfInBounds_toArray, List.set_cons_zero, List.set_cons_succ, i64_w, i32_w]
                    rfl
                  refine take_ (i := 1) (N := some 41) (v := ?_) (a' := ?_) #[true, true, true, false, false, false, true, false, true, false, true, false, false, false] rfl rfl (take_ofW HT_.out HW_.out (by kernel_rfl)) (fun _ _ _ h => h) (Or.inl ⟨by rfl, ?_⟩) hHeld ?_ ?_
                  rotate_left
                  · rintro w' ⟨s0, s1, s2, s3, s4, s5⟩
                    go_simp
                    with_reducible rfl
                  rotate_left
                  · simp only [Act.put, List.setIfInBounds_toArray, List.set_cons_zero, List.set_cons_succ, i64_w, i32_w]
                    rfl
                  refine pure_ (i := 3) (N := some 43) (v := ?_) (a' := ?_) #[true, true, true, true, false, false, true, false, true, false, true, false, false, false] rfl rfl (any_of HT_.out (by kernel_rfl)) (fun _ _ _ h => h) (Or.inl ⟨by rfl, ?_⟩) ?_ ?_
                  rotate_left
                  · intro w'
                    go_simp
                    with_reducible rfl
                  rotate_left
                  · simp only [Act.put, List.setIfInBounds_toArray, List.set_cons_zero, List.set_cons_succ, i64_w, i32_w]
                    rfl
                  refine take_ (i := 4) (N := some 44) (v := ?_) (a' := ?_) #[true, true, true, true, true, false, true, false, true, false, true, false, false, false] rfl rfl (take_ofW HT_.out HW_.out (by kernel_rfl)) (fun _ _ _ h => h) (Or.inl ⟨by rfl, ?_⟩) hHeld ?_ ?_
                  rotate_left
                  · rintro w' ⟨s0, s1, s2, s3, s4, s5⟩
                    go_simp
                    with_reducible rfl
                  rotate_left
                  · simp only [Act.put, List.setIfInBounds_toArray, List.set_cons_zero, List.set_cons_succ, i64_w, i32_w]
                    rfl
                  refine pure_ (i := 5) (N := some 45) (v := ?_) (a' := ?_) #[true, true, true, true, true, true, true, false, true, false, true, false, false, false] rfl rfl (any_of HT_.out (by kernel_rfl)) (fun _ _ _ h => h) (Or.inl ⟨by rfl, ?_⟩) ?_ ?_
                  rotate_left
                  · intro w'
                    go_simp
                    with_reducible rfl
                  rotate_left
                  · simp only [Act.put, List.setIfInBounds_toArray, List.set_cons_zero, List.set_cons_succ, i64_w, i32_w]
                    rfl
                  refine take_ (i := 7) (N := some 47) (v := ?_) (a' := ?_) #[true, true, true, true, true, true, true, true, true, false, true, false, false, false] rfl rfl (take_ofW HT_.out HW_.out (by kernel_rfl)) (fun _ _ _ h => h) (Or.inl ⟨by rfl, ?_⟩) hHeld ?_ ?_
                  rotate_left
                  · rintro w' ⟨s0, s1, s2, s3, s4, s5⟩
                    go_simp
                    with_reducible rfl
                  rotate_left
                  · simp only [Act.put, List.setIfInBounds_toArray, List.set_cons_zero, List.set_cons_succ, i64_w, i32_w]
                    rfl
                  refine take_ (i := 9) (N := some 49) (v := ?_) (a' := ?_) #[true, true, true, true, true, true, true, true, true, true, true, false, false, false] rfl rfl (take_ofW HT_.out HW_.out (by kernel_rfl)) (fun _ _ _ h => h) (Or.inl ⟨by rfl, ?_⟩) hHeld ?_ ?_
                  rotate_left
                  · rintro w' ⟨s0, s1, s2, s3, s4, s5⟩
                    go_simp
                    with_reducible rfl
                  rotate_left
                  · simp only [Act.put, List.setIfInBounds_toArray, List.set_cons_zero, List.set_cons_succ, i64_w, i32_w]
                    rfl
                  refine take_ (i := 11) (N := some 51) (v := ?_) (a' := ?_) #[true, true, true, true, true, true, true, true, true, true, true, true, false, false] rfl rfl (take_ofW HT_.out HW_.out (by kernel_rfl)) (fun _ _ _ h => h) (Or.inl ⟨by rfl, ?_⟩) hHeld ?_ ?_
                  rotate_left
                  · rintro w' ⟨s0, s1, s2, s3, s4, s5⟩
                    go_simp
                    with_reducible rfl
                  rotate_left
                  · simp only [Act.put, List.setIfInBounds_toArray, List.set_cons_zero, List.set_cons_succ, i64_w, i32_w]
                    rfl
                  refine one_ (i := 12) (N := some 52) #[true, true, true, true, true, true, true, true, true, true, true, true, true, false] rfl rfl (one_of HT_.out (by kernel_rfl)) (by decide) (fun K hK => ?_)
                  refine goes_ Try.func153 (by kernel_rfl) rfl #[.agg #[.int .i64 a0_0, .int .i64 a0_1], .int .i64 a0_2, .int .i64 a0_3] (by rfl) rfl rfl (by (try simp only [List.map_toArray, List.map_cons, List.map_nil]); first | done | rfl | (simp only [List.length_drop, List.length_take]; rfl)) ?_
                  with_reducible refine (spec_l05Tall.calls a0_0 a0_1 a0_2 a0_3 t510 _ A24.out).mono ?_
                  rintro e w31 ⟨rfl, hb⟩
                  refine ⟨_, rfl, ?_⟩
                  have n0_ := Aside0.mk (blk_below (g := gb505) (o := .cells #[.int .i64 a0_0, .int .i64 a0_1, .int .i64 a0_2, .int .i64 a0_3, .slice (some ad509) l0_4.length c0_4] 83 (0, 0)) (by (with_reducible repeat (first | refine blk_drewN ?_ _ | refine blk_drew ?_ | refine blk_alloc ?_ _)); exact BK505.out) hb)
                  have n1_ := Aside0.mk (below_step (by repeat (first | (with_reducible first | exact HB.out | apply below_alloc | apply pw_below_drewN | apply below_drew1 | refine below_set ?_ GE505.out) | exact HB.out)) hb)
                  clear BK505
                  clear HB
                  have BK505 := n0_
                  have HB := n1_
                  clear n0_ n1_
                  (try clear hb)
                  (try clear hb2)
                  (try clear hk)
                  (try clear hi)
                  refine hK.out _ _ ⟨(blk_cell BK505.out 0).trans rfl, (blk_cell BK505.out 1).trans rfl, (blk_cell BK505.out 2).trans rfl, (blk_cell BK505.out 3).trans rfl, (blk_cell BK505.out 4).trans rfl, ((HB.out.cell (World.block_lt_of_cell? w _ hw509_0)).trans hw509_0)⟩ (fun hHeld => ?_)
                  clear hK K
                  refine norm_ (a' := ?_) ?_ ?_
                  rotate_left
                  · show Act.put _ (some 52) _ = _
                    simp only [Act.put, List.setIfInBounds_toArray, List.set_cons_zero, List.set_cons_succ, i64_w, i32_w]
                    rfl
                  refine pure_ (i := 13) (N := some 53) (v := ?_) (a' := ?_) #[true, true, true, true, true, true, true, true, true, true, true, true, true, true] rfl rfl (any_of HT_.out (by kernel_rfl)) (fun _ _ _ h => h) (Or.inl ⟨by rfl, ?_⟩) ?_ ?_
                  rotate_left
                  · intro w'
                    go_simp
                    with_reducible rfl
                  rotate_left
                  · simp only [Act.put, List.setIfInBounds_toArray, List.set_cons_zero, List.set_cons_succ, i64_w, i32_w]
                    rfl
                  refine done_ (done_of HT_.out (by kernel_rfl)) ?_
                  try go_wp2
                  go_ret
                  exact ⟨by first | rfl | (simp [errW_none, errW_some] <;> rfl) | (simp [*, errW_none, errW_some] <;> rfl), by repeat (first | (with_reducible first | exact HB.out | apply below_alloc | apply pw_below_drewN | apply below_drew1 | refine below_set ?_ GE505.out) | exact HB.out)⟩
              · rw [if_neg c23] at H
                exact absurd H (by simp)
            · rw [if_neg c22] at H
              have c22b0 : decide (x3_2 < (l0_4.length : Int)) = false := decide_eq_false c22
              clear c22
              obtain rfl := Option.some.inj H
              have hcz32_0 : wr.cell? ⟨gb505, 0, none⟩ = some (.int .i64 a0_0) := (blk_cell BK505.out 0).trans rfl
              have hcz32_1 : wr.cell? ⟨gb505, 1, none⟩ = some (.int .i64 a0_1) := (blk_cell BK505.out 1).trans rfl
              have hcz32_2 : wr.cell? ⟨gb505, 2, none⟩ = some (.int .i64 a0_2) := (blk_cell BK505.out 2).trans rfl
              have hcz32_3 : wr.cell? ⟨gb505, 3, none⟩ = some (.int .i64 a0_3) := (blk_cell BK505.out 3).trans rfl
              have hcz32_4 : wr.cell? ⟨gb505, 4, none⟩ = some (.slice A0_4 l0_4.length c0_4) := (blk_cell BK505.out 4).trans rfl
              have hfz32_0 := blk_frozen BK505.out 0
              have hfz32_1 := blk_frozen BK505.out 1
              have hfz32_2 := blk_frozen BK505.out 2
              have hfz32_3 := blk_frozen BK505.out 3
              have hfz32_4 := blk_frozen BK505.out 4
              go_wp2
              go_ret
              exact ⟨by first | rfl | (simp [errW_none, errW_some] <;> rfl) | (simp [*, errW_none, errW_some] <;> rfl), by repeat (first | (with_reducible first | exact HB.out | apply below_alloc | apply pw_below_drewN | apply below_drew1 | refine below_set ?_ GE505.out) | exact HB.out)⟩

end Go.Proofs.Ytlocignlkigojaa.Q
