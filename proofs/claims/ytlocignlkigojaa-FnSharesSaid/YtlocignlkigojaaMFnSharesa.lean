/- Walks and plain laws of one claim, several texts in one. -/
import Derived.Test.YtlocignlkigojaaOLoop
import Derived.Test.YtlocignlkigojaaQf92
import Derived.Test.YtlocignlkigojaaQf96
import Derived.Test.YtlocignlkigojaaQf30
import Derived.Test.YtlocignlkigojaaQ0
import Derived.Test.YtlocignlkigojaaWMore
import Derived.Laws.BitsLemmas
import Derived.Test.YtlocignlkigojaaQf133
import Derived.Test.YtlocignlkigojaaQf69
import Derived.Test.YtlocignlkigojaaQf25
import Derived.Test.YtlocignlkigojaaQf125
import Derived.Test.YtlocignlkigojaaQf63
import Derived.Test.YtlocignlkigojaaQf149
import Derived.Test.YtlocignlkigojaaQf42
import Derived.Test.YtlocignlkigojaaQf62
import Derived.Test.YtlocignlkigojaaQf61
import Derived.Test.YtlocignlkigojaaQf70
import Derived.Test.YtlocignlkigojaaQf14
-- text OIn
namespace Go.Proofs.Ytlocignlkigojaa.Pure
open Go.RowKit Go.Proofs.Ytlocignlkigojaa.Q Go.Proofs.YtlocignlkigojaaW.PrintWords Go.Proofs.YtlocignlkigojaaW.PrintLast Go.Proofs.YtlocignlkigojaaW.PrintMore
set_option linter.unusedVariables false
set_option linter.unusedSimpArgs false
theorem in_inB (a b c : Int) : spec_l00In.f a b c = some (inB a b c) := between_inB a b c
end Go.Proofs.Ytlocignlkigojaa.Pure

-- text Qf22
namespace Go.Proofs.Ytlocignlkigojaa.Q
open Go.RowKit Go.Proofs.YtlocignlkigojaaW.PrintWords Go.Proofs.YtlocignlkigojaaW.PrintLast Go.Proofs.YtlocignlkigojaaW.PrintMore
attribute [local go_sem] max2_int min2_int max_two min_two max_three min_three max_four min_four   -- for this text's walks alone
set_option linter.unusedVariables false
set_option linter.unusedSimpArgs false

/-! ### laws_szItemS: function 22 -/
def laws_szItemS.f (l0 : List (S23)) (a1 : Int) : Option (Int) := if (wrap64 (a1 - (l0.length : Int))) < 0 then (some (-1)) else (some (wrap64 (a1 - (l0.length : Int))))
set_option maxHeartbeats 8000000 in
set_option maxRecDepth 100000 in
theorem laws_szItemS.calls (A0 : Option Addr) (c0 : Nat) (l0 : List (S23)) (a1 : Int) (r : Int) (w : World) (hr0 : Kd.C k23 w A0 l0.length l0) (hc0 : l0.length ≤ c0) (h : laws_szItemS.f l0 a1 = some r) :
    Calls Try.prog 22 #[.slice A0 l0.length c0, .int .i64 a1] w fun e w' => e = .returned (.int .i64 r) ∧ Drawn0 w w' := by
  have HR0 := Aside0.mk hr0
  have HC0 := Aside0.mk hc0
  clear hr0 hc0
  have H : (if (wrap64 (a1 - (l0.length : Int))) < 0 then (some (-1)) else (some (wrap64 (a1 - (l0.length : Int))))) = some r := h
  clear h
  by_cases c3 : (wrap64 (a1 - (l0.length : Int))) < 0
  · rw [if_pos c3] at H
    have c3b0 : decide ((wrap64 (a1 - (l0.length : Int))) < 0) = true := decide_eq_true c3
    clear c3
    obtain rfl := Option.some.inj H
    go_enter Try.func22, Try.ntmps22
    go_wp2
    go_ret
    exact ⟨by first | rfl | (simp; done) | (simp [*]; done), by repeat (first | exact Drawn0.refl _ | apply Drawn0.step)⟩
  · rw [if_neg c3] at H
    have c3b0 : decide ((wrap64 (a1 - (l0.length : Int))) < 0) = false := decide_eq_false c3
    clear c3
    obtain rfl := Option.some.inj H
    go_enter Try.func22, Try.ntmps22
    go_wp2
    go_ret
    exact ⟨by first | rfl | (simp; done) | (simp [*]; done), by repeat (first | exact Drawn0.refl _ | apply Drawn0.step)⟩

end Go.Proofs.Ytlocignlkigojaa.Q

-- text Qf20
namespace Go.Proofs.Ytlocignlkigojaa.Q
open Go.RowKit Go.Proofs.YtlocignlkigojaaW.PrintWords Go.Proofs.YtlocignlkigojaaW.PrintLast Go.Proofs.YtlocignlkigojaaW.PrintMore
attribute [local go_sem] max2_int min2_int max_two min_two max_three min_three max_four min_four   -- for this text's walks alone
set_option linter.unusedVariables false
set_option linter.unusedSimpArgs false

/-! ### laws_toItem: function 20 -/
def laws_toItem.f (a0_0 : Int) (a0_1 : Int) : Option (Int × Int) := some (a0_0, a0_1)
set_option maxHeartbeats 8000000 in
set_option maxRecDepth 100000 in
theorem laws_toItem.calls (a0_0 : Int) (a0_1 : Int) (r1 : Int) (r2 : Int) (w : World) (h : laws_toItem.f a0_0 a0_1 = some (r1, r2)) :
    Calls Try.prog 20 #[.agg #[.int .i64 a0_0, .int .i64 a0_1]] w fun e w' => e = .returned (.agg #[.int .i64 r1, .int .i64 r2]) ∧ Below w.heap.size w w' := by
  have hu23 := Try.underlying23
  have hu26 := Try.underlying26
  have HB := Aside0.mk (Below.refl w.heap.size w)
  have H : (some (a0_0, a0_1)) = some (r1, r2) := h
  clear h
  simp only [Option.some.injEq, Prod.mk.injEq] at H
  obtain ⟨rfl, rfl⟩ := H
  go_enter Try.func20, Try.ntmps20
  go_wp2_with (first | ((with_reducible refine gate_dst (N := 1) rfl ?_); refine box_event ?hg (N := 1) ?hd (cs := #[.int .i64 a0_0, .int .i64 a0_1]) (t := 23) ?hr ?_; (case hd => rfl); (case hg => rfl); (case hr => first | (go_simp; done) | (go_simp; rfl)); intro gb118 hg w2 hbox hb; have n0_ := Aside0.mk (below_step (by repeat (first | (with_reducible first | exact HB.out | apply below_alloc | apply pw_below_drewN | apply below_drew1) | exact HB.out)) hb); have n1_ := Aside0.mk (hbox); have n2_ := Aside0.mk ((by rw [hg]; exact (below_size (by repeat (first | (with_reducible first | exact HB.out | apply below_alloc | apply pw_below_drewN | apply below_drew1) | exact HB.out))) : w.heap.size ≤ gb118)); have n3_ := Aside0.mk ((by rw [hg]; exact (below_size (by repeat (first | (with_reducible first | exact HB.out | apply below_alloc | apply pw_below_drewN | apply below_drew1) | exact HB.out))) : w.heap.size ≤ gb118)); clear HB; have HB := n0_; have BK118 := n1_; have GW118 := n2_; have GE118 := n3_; clear n0_ n1_ n2_ n3_; clear hb hbox hg) | ((with_reducible refine gate_dst (N := 2) rfl ?_); refine box_event ?hg (N := 2) ?hd (cs := #[.int .i64 0, .int .i64 0]) (t := 26) ?hr ?_; (case hd => rfl); (case hg => rfl); (case hr => first | (go_simp; done) | (go_simp; rfl)); intro gb119 hg w3 hbox hb; have n0_ := Aside0.mk (blk_below (g := gb118) (o := .cells #[.int .i64 a0_0, .int .i64 a0_1] 23 (0, 0)) (by (with_reducible repeat (first | refine blk_drewN ?_ _ | refine blk_drew ?_ | refine blk_alloc ?_ _)); exact BK118.out) hb); have n1_ := Aside0.mk (below_step (by repeat (first | (with_reducible first | exact HB.out | apply below_alloc | apply pw_below_drewN | apply below_drew1 | refine below_set ?_ GE118.out) | exact HB.out)) hb); have n2_ := Aside0.mk (hbox); have n3_ := Aside0.mk ((by rw [hg]; exact (below_size (by repeat (first | (with_reducible first | exact HB.out | apply below_alloc | apply pw_below_drewN | apply below_drew1 | refine below_set ?_ GE118.out) | exact HB.out))) : w.heap.size ≤ gb119)); have n4_ := Aside0.mk ((by rw [hg]; exact (below_size (by repeat (first | (with_reducible first | exact HB.out | apply below_alloc | apply pw_below_drewN | apply below_drew1 | refine below_set ?_ GE118.out) | exact HB.out))) : w.heap.size ≤ gb119)); have n5_ := Aside0.mk ((by rw [hg]; exact Nat.ne_of_lt (blk_lt (g := gb118) (o := .cells #[.int .i64 a0_0, .int .i64 a0_1] 23 (0, 0)) (by (with_reducible repeat (first | refine blk_drewN ?_ _ | refine blk_drew ?_ | refine blk_alloc ?_ _)); exact BK118.out)) : gb118 ≠ gb119)); have n6_ := Aside0.mk ((by rw [hg]; exact Nat.ne_of_gt (blk_lt (g := gb118) (o := .cells #[.int .i64 a0_0, .int .i64 a0_1] 23 (0, 0)) (by (with_reducible repeat (first | refine blk_drewN ?_ _ | refine blk_drew ?_ | refine blk_alloc ?_ _)); exact BK118.out)) : gb119 ≠ gb118)); clear BK118; clear HB; have BK118 := n0_; have HB := n1_; have BK119 := n2_; have GW119 := n3_; have GE119 := n4_; have NB118_119 := n5_; have NB119_118 := n6_; clear n0_ n1_ n2_ n3_ n4_ n5_ n6_; clear hb hbox hg) | ((with_reducible refine gate_dst (N := 3) rfl ?_); refine box_event ?hg (N := 3) ?hd (cs := #[.int .i64 0, .int .i64 0]) (t := 26) ?hr ?_; (case hd => rfl); (case hg => rfl); (case hr => first | (go_simp; done) | (go_simp; rfl)); intro gb120 hg w4 hbox hb; have n0_ := Aside0.mk (blk_below (g := gb118) (o := .cells #[.int .i64 a0_0, .int .i64 a0_1] 23 (0, 0)) (by (with_reducible repeat (first | refine blk_drewN ?_ _ | refine blk_drew ?_ | refine blk_alloc ?_ _)); exact BK118.out) hb); have n1_ := Aside0.mk (blk_below (g := gb119) (o := .cells #[.int .i64 0, .int .i64 0] 26 (0, 0)) (by (with_reducible repeat (first | refine blk_drewN ?_ _ | refine blk_drew ?_ | refine blk_alloc ?_ _)); exact BK119.out) hb); have n2_ := Aside0.mk (below_step (by repeat (first | (with_reducible first | exact HB.out | apply below_alloc | apply pw_below_drewN | apply below_drew1 | refine below_set ?_ GE118.out | refine below_set ?_ GE119.out) | exact HB.out)) hb); have n3_ := Aside0.mk (hbox); have n4_ := Aside0.mk ((by rw [hg]; exact (below_size (by repeat (first | (with_reducible first | exact HB.out | apply below_alloc | apply pw_below_drewN | apply below_drew1 | refine below_set ?_ GE118.out | refine below_set ?_ GE119.out) | exact HB.out))) : w.heap.size ≤ gb120)); have n5_ := Aside0.mk ((by rw [hg]; exact (below_size (by repeat (first | (with_reducible first | exact HB.out | apply below_alloc | apply pw_below_drewN | apply below_drew1 | refine below_set ?_ GE118.out | refine below_set ?_ GE119.out) | exact HB.out))) : w.heap.size ≤ gb120)); have n6_ := Aside0.mk ((by rw [hg]; exact Nat.ne_of_lt (blk_lt (g := gb118) (o := .cells #[.int .i64 a0_0, .int .i64 a0_1] 23 (0, 0)) (by (with_reducible repeat (first | refine blk_drewN ?_ _ | refine blk_drew ?_ | refine blk_alloc ?_ _)); exact BK118.out)) : gb118 ≠ gb120)); have n7_ := Aside0.mk ((by rw [hg]; exact Nat.ne_of_gt (blk_lt (g := gb118) (o := .cells #[.int .i64 a0_0, .int .i64 a0_1] 23 (0, 0)) (by (with_reducible repeat (first | refine blk_drewN ?_ _ | refine blk_drew ?_ | refine blk_alloc ?_ _)); exact BK118.out)) : gb120 ≠ gb118)); have n8_ := Aside0.mk ((by rw [hg]; exact Nat.ne_of_lt (blk_lt (g := gb119) (o := .cells #[.int .i64 0, .int .i64 0] 26 (0, 0)) (by (with_reducible repeat (first | refine blk_drewN ?_ _ | refine blk_drew ?_ | refine blk_alloc ?_ _)); exact BK119.out)) : gb119 ≠ gb120)); have n9_ := Aside0.mk ((by rw [hg]; exact Nat.ne_of_gt (blk_lt (g := gb119) (o := .cells #[.int .i64 0, .int .i64 0] 26 (0, 0)) (by (with_reducible repeat (first | refine blk_drewN ?_ _ | refine blk_drew ?_ | refine blk_alloc ?_ _)); exact BK119.out)) : gb120 ≠ gb119)); clear BK118; clear BK119; clear HB; have BK118 := n0_; have BK119 := n1_; have HB := n2_; have BK120 := n3_; have GW120 := n4_; have GE120 := n5_; have NB118_120 := n6_; have NB120_118 := n7_; have NB119_120 := n8_; have NB120_119 := n9_; clear n0_ n1_ n2_ n3_ n4_ n5_ n6_ n7_ n8_ n9_; clear hb hbox hg; have hnb5 := NB118_119.out; have hnc5 := NB119_118.out; have hnb6 := NB118_120.out; have hnc6 := NB120_118.out; have hcz7_0 : w4.cell? ⟨gb118, 0, none⟩ = some (.int .i64 a0_0) := (blk_cell BK118.out 0).trans rfl; have hcz7_1 : w4.cell? ⟨gb118, 1, none⟩ = some (.int .i64 a0_1) := (blk_cell BK118.out 1).trans rfl; have hfz7_0 := blk_frozen BK118.out 0; have hfz7_1 := blk_frozen BK118.out 1; have hnb8 := NB120_119.out; have hnc8 := NB119_120.out; have hcz9_0 : w4.cell? ⟨gb120, 0, none⟩ = some (.int .i64 0) := (blk_cell BK120.out 0).trans rfl; have hcz9_1 : w4.cell? ⟨gb120, 1, none⟩ = some (.int .i64 0) := (blk_cell BK120.out 1).trans rfl; have hfz9_0 := blk_frozen BK120.out 0; have hfz9_1 := blk_frozen BK120.out 1; have hcz10_0 : w4.cell? ⟨gb119, 0, none⟩ = some (.int .i64 0) := (blk_cell BK119.out 0).trans rfl; have hcz10_1 : w4.cell? ⟨gb119, 1, none⟩ = some (.int .i64 0) := (blk_cell BK119.out 1).trans rfl; have hfz10_0 := blk_frozen BK119.out 0; have hfz10_1 := blk_frozen BK119.out 1))
  refine bodyPost_ret (results_cell_row rfl _ _ gb119 26 #[.int .i64 a0_0, .int .i64 a0_1] (0, 0) _ rfl (by (with_reducible repeat (first | refine blk_drewN ?_ _ | refine blk_drew ?_ | refine blk_alloc ?_ _)); refine blk_put (cs := #[.int .i64 a0_0, .int .i64 0]) ?_ 1 _ rfl; (with_reducible repeat (first | refine blk_drewN ?_ _ | refine blk_drew ?_ | refine blk_alloc ?_ _)); refine blk_put (cs := #[.int .i64 0, .int .i64 0]) ?_ 0 _ rfl; (with_reducible repeat (first | refine blk_drewN ?_ _ | refine blk_drew ?_ | refine blk_alloc ?_ _)); refine blk_far ?_ NB119_120.out _; (with_reducible repeat (first | refine blk_drewN ?_ _ | refine blk_drew ?_ | refine blk_alloc ?_ _)); refine blk_far ?_ NB119_120.out _; (with_reducible repeat (first | refine blk_drewN ?_ _ | refine blk_drew ?_ | refine blk_alloc ?_ _)); exact BK119.out) Try.underlying26 rfl (by kernel_rfl)) rfl ?_
  exact ⟨by first | rfl | (simp [errW_none, errW_some] <;> rfl) | (simp [*, errW_none, errW_some] <;> rfl), by repeat (first | (with_reducible first | exact HB.out | apply below_alloc | apply pw_below_drewN | apply below_drew1 | refine below_set ?_ GE118.out | refine below_set ?_ GE119.out | refine below_set ?_ GE120.out) | exact HB.out)⟩

end Go.Proofs.Ytlocignlkigojaa.Q

-- text Qf24
namespace Go.Proofs.Ytlocignlkigojaa.Q
open Go.RowKit Go.Proofs.YtlocignlkigojaaW.PrintWords Go.Proofs.YtlocignlkigojaaW.PrintLast Go.Proofs.YtlocignlkigojaaW.PrintMore
attribute [local go_sem] max2_int min2_int max_two min_two max_three min_three max_four min_four   -- for this text's walks alone
set_option linter.unusedVariables false
set_option linter.unusedSimpArgs false

/-! ### laws_toItemS: function 24 -/
def laws_toItemS.l0 : Nat → List (S23) → List (S26) → Int → Option ((List (S26)))
  | 0, _, _, _ => none
  | k + 1, x0, x3, x4 => if x4 < (x0.length : Int) then (if 0 ≤ x4 then ((laws_toItem.f ((rd_T23 x0 x4).f0) ((rd_T23 x0 x4).f1)).bind fun bt152 => (if x4 < (x3.length : Int) then (laws_toItemS.l0 k x0 (x3.set (x4 : Int).toNat (⟨bt152.1, bt152.2⟩ : S26)) (wrap64 (x4 + 1))) else (none))) else (none)) else (some x3)
def laws_toItemS.f (k : Nat) (l0 : List (S23)) : Option ((List (S26))) := if 0 ≤ (l0.length : Int) then (if ((l0.length : Int) : Int).toNat ≤ 17592186044416 then (laws_toItemS.l0 k l0 (List.replicate ((l0.length : Int) : Int).toNat z26) 0) else (none)) else (none)
theorem laws_toItemS.mono_l : ∀ k, (∀ y0 y1 y2, LeO (laws_toItemS.l0 k y0 y1 y2) (laws_toItemS.l0 (k + 1) y0 y1 y2))
  | 0 => fun _ _ _ r h => by simp [laws_toItemS.l0] at h
  | k + 1 => by
    have ih0 := laws_toItemS.mono_l k
    · intro y0 y1 y2
      unfold laws_toItemS.l0
      repeat' first
      | (with_reducible exact ih0 _ _ _)
      | (with_reducible exact LeO.refl _)
      | (with_reducible exact LeO.none _)
      | (with_reducible refine LeO.ite ?_ ?_)
      | (with_reducible refine LeO.bind ?_ (fun _ => ?_))
      | exact ih0 _ _ _
      | exact LeO.none _
      | refine LeO.ite ?_ ?_
      | refine LeO.bind ?_ (fun _ => ?_)
theorem laws_toItemS.mono : ∀ a0 k, LeO (laws_toItemS.f k a0) (laws_toItemS.f (k + 1) a0) := by
  intro a0 k
  have ih0 := laws_toItemS.mono_l k
  unfold laws_toItemS.f
  repeat' first
      | (with_reducible exact ih0 _ _ _)
      | (with_reducible exact LeO.refl _)
      | (with_reducible exact LeO.none _)
      | (with_reducible refine LeO.ite ?_ ?_)
      | (with_reducible refine LeO.bind ?_ (fun _ => ?_))
      | exact ih0 _ _ _
      | exact LeO.none _
      | refine LeO.ite ?_ ?_
      | refine LeO.bind ?_ (fun _ => ?_)
set_option maxHeartbeats 8000000 in
set_option maxRecDepth 100000 in
theorem laws_toItemS.calls (k : Nat) (A0 : Option Addr) (c0 : Nat) (l0 : List (S23)) (r : List (S26)) (w : World) (hr0 : Kd.C k23 w A0 l0.length l0) (hc0 : l0.length ≤ c0) (h : laws_toItemS.f k l0 = some r) :
    Calls Try.prog 24 #[.slice A0 l0.length c0] w fun e w' => ∃ v0_ : Value, e = .returned (v0_) ∧ Kd.R k26 26 w' w.heap.size (fun _ => True) v0_ r ∧ Below w.heap.size w w' := by
  have hu23 := Try.underlying23
  have hu26 := Try.underlying26
  have HR0 := Aside0.mk hr0
  have HC0 := Aside0.mk hc0
  clear hr0 hc0
  have HB := Aside0.mk (Below.refl w.heap.size w)
  have H : (if 0 ≤ (l0.length : Int) then (if ((l0.length : Int) : Int).toNat ≤ 17592186044416 then (laws_toItemS.l0 k l0 (List.replicate ((l0.length : Int) : Int).toNat z26) 0) else (none)) else (none)) = some r := h
  clear h
  by_cases c2 : 0 ≤ (l0.length : Int)
  · rw [if_pos c2] at H
    have c2b0 := eq_true c2
    have c2b1 : decide (0 ≤ (l0.length : Int)) = true := decide_eq_true c2
    clear c2
    by_cases c3 : ((l0.length : Int) : Int).toNat ≤ 17592186044416
    · rw [if_pos c3] at H
      have c3b0 := eq_true c3
      have c3b1 : decide (((l0.length : Int) : Int).toNat ≤ 17592186044416) = true := decide_eq_true c3
      clear c3
      obtain ⟨y148, hy148⟩ : ∃ y_ : List (S26), y_ = (List.replicate ((l0.length : Int) : Int).toNat z26) := ⟨_, rfl⟩
      replace H : (laws_toItemS.l0 k l0 y148 0) = some r := by first | (rw [hy148]; with_reducible exact H) | (have H2_ := (Option.bind_some _ _).symm.trans H; rw [hy148]; with_reducible exact H2_) | (have H2_ := (Option.bind_some _ _).symm.trans H; with_reducible exact H2_) | with_reducible exact H | (rw [hy148]; exact H) | exact H
      have Ny148 := Aside0.mk hy148
      clear hy148
      have H' := Aside0.mk H
      clear H
      go_enter Try.func24, Try.ntmps24
      go_wp2_with (first | ((with_reducible refine gate_dst (N := 7) rfl ?_); refine Kd.R_make k26 _ 26 rfl (N := 7) rfl 32 _ _ rfl (l0.length : Int) rfl rfl Try.underlying32 (.agg #[(.int .i64 0), (.int .i64 0)]) 16 info26 rfl (by decide) (by omega) z26 (ok := fun _ => True) (okp := fun _ => True) (k26_mkM _ _ _ z26 ) (fun _ hk => hk) trivial (of_decide_eq_true (by first | (with_reducible assumption) | assumption)) (Nat.le_trans (Nat.mul_le_mul_right _ (of_decide_eq_true (by first | (with_reducible assumption) | assumption) : (l0.length : Int).toNat ≤ 17592186044416)) (by omega)) (Below.refl _ _) (Nat.le_refl _) ?_; intro v149 w4 ho5 hb hg_ hnew_; clear hg_ hnew_; (first | rw [← Ny148.out] at ho5 | (simp only [Int.reduceToNat] at ho5; rw [← Ny148.out] at ho5)); have n0_ := Aside0.mk (Kd.R_lower ho5 (below_size (by repeat (first | (with_reducible first | exact HB.out | apply below_alloc | apply pw_below_drewN | apply below_drew1) | exact HB.out)))); have n1_ := Aside0.mk (below_step (by repeat (first | (with_reducible first | exact HB.out | apply below_alloc | apply pw_below_drewN | apply below_drew1) | exact HB.out)) hb); clear HB; have HO150 := n0_; have HB := n1_; clear n0_ n1_; clear hb ho5))
      go_loopg [4] k (fun kq v4 w' => ∃ (x3_1 : List (S26)) (x4_1 : Int), v4 = .int .i64 x4_1 ∧ Aside0 (laws_toItemS.l0 kq l0 x3_1 x4_1 = some r) ∧ Aside0 (kq ≤ k) ∧ Aside0 (Kd.R k26 26 w' w.heap.size (fun _ => True) v149 x3_1) ∧ Aside0 (Below w.heap.size w w'))
      case atStart => exact ⟨(y148), (0), (by first | rfl | (simp; done) | (simp [*]; done)), H', ⟨Nat.le_refl _⟩, ⟨by (with_reducible repeat (first | apply Kd.R_alloc | apply Kd.R_drewN | apply Kd.R_drew)); exact HO150.out⟩, ⟨by repeat (first | (with_reducible first | exact HB.out | apply below_alloc | apply pw_below_drewN | apply below_drew1) | exact HB.out)⟩⟩
      case round =>
        clear H'
        try clear c2
        try clear c2b0
        try clear c2b1
        try clear p2
        try clear c3
        try clear c3b0
        try clear c3b1
        obtain ⟨x3_1, x4_1, rfl, HA, HK1, HO_3, HB⟩ := hrel
        cases gk with
        | zero => exact absurd HA.out (by simp [laws_toItemS.l0])
        | succ k1 =>
          have H := HA.out
          clear HA
          simp only [laws_toItemS.l0] at H
          by_cases c6 : x4_1 < (l0.length : Int)
          · rw [if_pos c6] at H
            have c6b0 : decide (x4_1 < (l0.length : Int)) = true := decide_eq_true c6
            clear c6
            by_cases c7 : 0 ≤ x4_1
            · rw [if_pos c7] at H
              have c7b0 : decide (0 ≤ x4_1) = true := decide_eq_true c7
              clear c7
              replace H := Option.bind_eq_some_iff.mp H
              obtain ⟨⟨t152, t153⟩, A80, H⟩ := H
              replace H : (if x4_1 < (x3_1.length : Int) then (laws_toItemS.l0 k1 l0 (x3_1.set (x4_1 : Int).toNat (⟨t152, t153⟩ : S26)) (wrap64 (x4_1 + 1))) else (none)) = some r := H
              have A8 := Aside0.mk A80
              clear A80
              by_cases c9 : x4_1 < (x3_1.length : Int)
              · rw [if_pos c9] at H
                have c9b0 : decide (x4_1 < (x3_1.length : Int)) = true := decide_eq_true c9
                clear c9
                obtain ⟨y154, hy154⟩ : ∃ y_ : List (S26), y_ = (x3_1.set (x4_1 : Int).toNat (⟨t152, t153⟩ : S26)) := ⟨_, rfl⟩
                replace H : (laws_toItemS.l0 k1 l0 y154 (wrap64 (x4_1 + 1))) = some r := by first | (rw [hy154]; with_reducible exact H) | (have H2_ := (Option.bind_some _ _).symm.trans H; rw [hy154]; with_reducible exact H2_) | (have H2_ := (Option.bind_some _ _).symm.trans H; with_reducible exact H2_) | with_reducible exact H | (rw [hy154]; exact H) | exact H
                have Ny154 := Aside0.mk hy154
                clear hy154
                have H' := Aside0.mk H
                clear H
                have p151 : 0 ≤ (x4_1 : Int) := of_decide_eq_true (by first | (with_reducible assumption) | assumption)
                have q151 : x4_1 < (l0.length : Int) := of_decide_eq_true (by first | (with_reducible assumption) | assumption)
                obtain ⟨ad151, e151, hx151_0, hx151_1⟩ := at_T23 HR0.out x4_1 p151 q151
                cases e151
                replace hx151_0 := (HB.out.cell (World.block_lt_of_cell? w _ hx151_0)).trans hx151_0
                replace hx151_1 := (HB.out.cell (World.block_lt_of_cell? w _ hx151_1)).trans hx151_1
                replace p151 := eq_true p151
                replace q151 := eq_true q151
                go_wp2_with (first | ((with_reducible refine gate_callee (f := 20) rfl ?_); refine goesL_ (some 20) rfl rfl Try.func20 (by kernel_rfl) rfl #[.agg #[.int .i64 ((rd_T23 l0 x4_1).f0), .int .i64 ((rd_T23 l0 x4_1).f1)]] rfl (by (try simp only [List.map_toArray, List.map_cons, List.map_nil]); first | done | rfl | (simp only [List.length_drop, List.length_take]; rfl)) ?_; (with_reducible refine (laws_toItem.calls ((rd_T23 l0 x4_1).f0) ((rd_T23 l0 x4_1).f1) t152 t153 _ A8.out).mono ?_); rintro e w11 ⟨rfl, hb⟩; refine ⟨_, rfl, ?_⟩; have n0_ := Aside0.mk (Kd.R_below (by (with_reducible repeat (first | apply Kd.R_alloc | apply Kd.R_drewN | apply Kd.R_drew)); exact HO_3.out) hb); have n1_ := Aside0.mk (below_step (by repeat (first | (with_reducible first | exact HB.out | apply below_alloc | apply pw_below_drewN | apply below_drew1) | exact HB.out)) hb); clear HO_3; clear HB; have HO_3 := n0_; have HB := n1_; clear n0_ n1_; (try clear hb); (try clear hb2); (try clear hk); (try clear hi); have p10 : 0 ≤ (x4_1 : Int) := of_decide_eq_true (by first | (with_reducible assumption) | assumption); have q10 : (x4_1 : Int) < ((x3_1.length : Int) : Int) := of_decide_eq_true (by first | (with_reducible assumption) | assumption); obtain ⟨go10, co10, eo10, gb10, gl10, cl10, HG10⟩ := Kd.R_form HO_3.out (by omega); (first | cases eo10 | (injection eo10 with ea_ en_ ec_; (first | subst ea_ | (injection ea_ with ea_; subst ea_)); subst ec_; clear en_)); have GB10 := Aside0.mk gb10; have GG10 := Aside0.mk HG10; clear gb10 gl10 HG10; obtain ⟨ce10, hcl10, hM10, hcc10, hfr10⟩ := Kd.R_elem HO_3.out z26 (x4_1 : Int) p10 q10; obtain rfl := k26_openM hM10; have hx10_0 : w11.cell? ⟨go10, (x4_1 : Int).toNat * 2, none⟩ = some (.int .i64 ((rd_T26 x3_1 x4_1).f0)) := hcc10 0 _ rfl; have hx10_1 : w11.cell? ⟨go10, (x4_1 : Int).toNat * 2 + 1, none⟩ = some (.int .i64 ((rd_T26 x3_1 x4_1).f1)) := hcc10 1 _ rfl; have hf10_0 : w11.frozen? ⟨go10, (x4_1 : Int).toNat * 2, none⟩ = false := hfr10 0; have hf10_1 : w11.frozen? ⟨go10, (x4_1 : Int).toNat * 2 + 1, none⟩ = false := hfr10 1; clear hcl10 hcc10 hfr10 hM10; replace p10 := eq_true p10; replace q10 := eq_true q10; have HX12 := Aside0.mk (show Kd.R k26 26 w11 w.heap.size (fun _ => True) (.slice (some ⟨go10, 0, none⟩) x3_1.length co10) x3_1 from (by (with_reducible repeat (first | apply Kd.R_alloc | apply Kd.R_drewN | apply Kd.R_drew)); exact HO_3.out)); obtain ⟨ce12, hcl12, hM12, hcc12, hfr12⟩ := Kd.R_elem HX12.out z26 (x4_1 : Int) (of_decide_eq_true (by first | (with_reducible assumption) | assumption)) (by have h_ : (x4_1 : Int) < ((x3_1.length : Int) : Int) := of_decide_eq_true (by first | (with_reducible assumption) | assumption); first | exact h_ | (have e_ := (Kd.R_reads' HO_3.out).1; omega) | simpa using h_); obtain rfl := k26_openM hM12; have HP12 := Kd.R_seg HX12.out (x4_1 : Int) (of_decide_eq_true (by first | (with_reducible assumption) | assumption)) (by have h_ : (x4_1 : Int) < ((x3_1.length : Int) : Int) := of_decide_eq_true (by first | (with_reducible assumption) | assumption); first | exact h_ | (have e_ := (Kd.R_reads' HO_3.out).1; omega) | simpa using h_) (seg := [.int .i64 t152, .int .i64 t153]) (j := 0) hcl12 hcc12 (show 2 ≤ 2 from by decide) (x' := (⟨t152, t153⟩ : S26)) (k26_mkM _ _ _ (⟨t152, t153⟩ : S26) ) (fun _ hk => hk); have hx12_0 := hcc12 0 _ rfl; (try simp only [show (k26).sz = 2 from rfl, Nat.mul_one, Nat.add_zero] at hx12_0); have hf12_0 := hfr12 0; (try simp only [show (k26).sz = 2 from rfl, Nat.mul_one, Nat.add_zero] at hf12_0); have hx12_1 := hcc12 1 _ rfl; (try simp only [show (k26).sz = 2 from rfl, Nat.mul_one, Nat.add_zero] at hx12_1); have hf12_1 := hfr12 1; (try simp only [show (k26).sz = 2 from rfl, Nat.mul_one, Nat.add_zero] at hf12_1); clear hcl12 hcc12 hfr12 hM12) | ((with_reducible refine gate_store (t := 26) (p := 21) rfl ?_); refine store_event (t := 26) (p := 21) (v := ?vo_w13) (w1 := ((w11.setCell ⟨go10, (x4_1 : Int).toNat * 2, none⟩ (.int .i64 t152)).setCell ⟨go10, (x4_1 : Int).toNat * 2 + 1, none⟩ (.int .i64 t153))) ?hg ?ho ?hn ?hr ?_; (case ho => rfl); (case hg => rfl); (case hn => rfl); (case hr => first | (go_simp; done) | (go_simp; rfl)); intro w13 hw; have hg : w11.grownBy w13 (some go10) := (by rw [hw]; exact HP12.2); have hp_ : Kd.R k26 26 w13 w.heap.size (fun _ => True) (.slice (some ⟨go10, 0, none⟩) x3_1.length co10) y154 := (by rw [hw, Ny154.out]; exact HP12.1); clear HP12; have n0_ := Aside0.mk (hp_); have n1_ := Aside0.mk ((by rw [hw]; exact below_set (below_set (HB.out) GB10.out) GB10.out : Below w.heap.size w w13)); clear HO_3; clear HB; have HO_3 := n0_; have HB := n1_; clear n0_ n1_; clear hg hw hp_))
                go_roundg k1
                case measure => have := HK1.out; omega
                case rel => exact ⟨(y154), (wrap64 (x4_1 + 1)), (by first | rfl | (simp; done) | (simp [*]; done)), H', ⟨by have := HK1.out; omega⟩, ⟨by (with_reducible repeat (first | apply Kd.R_alloc | apply Kd.R_drewN | apply Kd.R_drew)); exact HO_3.out⟩, ⟨by repeat (first | (with_reducible first | exact HB.out | apply below_alloc | apply pw_below_drewN | apply below_drew1) | exact HB.out)⟩⟩
              · rw [if_neg c9] at H
                exact absurd H (by simp)
            · rw [if_neg c7] at H
              exact absurd H (by simp)
          · rw [if_neg c6] at H
            have c6b0 : decide (x4_1 < (l0.length : Int)) = false := decide_eq_false c6
            clear c6
            obtain rfl := Option.some.inj H
            go_wp2
            go_ret
            exact ⟨_, by first | rfl | (simp [errW_none, errW_some] <;> rfl) | (simp [*, errW_none, errW_some] <;> rfl), by (with_reducible repeat (first | apply Kd.R_alloc | apply Kd.R_drewN | apply Kd.R_drew)); exact HO_3.out, by repeat (first | (with_reducible first | exact HB.out | apply below_alloc | apply pw_below_drewN | apply below_drew1) | exact HB.out)⟩
    · rw [if_neg c3] at H
      exact absurd H (by simp)
  · rw [if_neg c2] at H
    exact absurd H (by simp)

end Go.Proofs.Ytlocignlkigojaa.Q

-- text Qf89
namespace Go.Proofs.Ytlocignlkigojaa.Q
open Go.RowKit Go.Proofs.YtlocignlkigojaaW.PrintWords Go.Proofs.YtlocignlkigojaaW.PrintLast Go.Proofs.YtlocignlkigojaaW.PrintMore
attribute [local go_sem] max2_int min2_int max_two min_two max_three min_three max_four min_four   -- for this text's walks alone
set_option linter.unusedVariables false
set_option linter.unusedSimpArgs false

/-! ### laws_eqItem: function 89 -/
def laws_eqItem.f (a0_0 : Int) (a0_1 : Int) (a1_0 : Int) (a1_1 : Int) : Option (Bool) := if a0_0 = a1_0 then (if a0_1 = a1_1 then (some true) else (some false)) else (some false)
set_option maxHeartbeats 8000000 in
set_option maxRecDepth 100000 in
theorem laws_eqItem.calls (a0_0 : Int) (a0_1 : Int) (a1_0 : Int) (a1_1 : Int) (r : Bool) (w : World) (h : laws_eqItem.f a0_0 a0_1 a1_0 a1_1 = some r) :
    Calls Try.prog 89 #[.agg #[.int .i64 a0_0, .int .i64 a0_1], .agg #[.int .i64 a1_0, .int .i64 a1_1]] w fun e w' => e = .returned (.bool r) ∧ Below w.heap.size w w' := by
  have hu26 := Try.underlying26
  have HB := Aside0.mk (Below.refl w.heap.size w)
  have H : (if a0_0 = a1_0 then (if a0_1 = a1_1 then (some true) else (some false)) else (some false)) = some r := h
  clear h
  by_cases c3 : a0_0 = a1_0
  · rw [if_pos c3] at H
    have c3b0 : (a0_0 == a1_0) = true := beq_iff_eq.mpr c3
    have c3b1 : (a0_0 != a1_0) = false := bne_eq_false_iff_eq.mpr c3
    clear c3
    by_cases c4 : a0_1 = a1_1
    · rw [if_pos c4] at H
      have c4b0 : (a0_1 == a1_1) = true := beq_iff_eq.mpr c4
      have c4b1 : (a0_1 != a1_1) = false := bne_eq_false_iff_eq.mpr c4
      clear c4
      obtain rfl := Option.some.inj H
      go_enter Try.func89, Try.ntmps89
      go_wp2_with (first | ((with_reducible refine gate_dst (N := 2) rfl ?_); refine box_event ?hg (N := 2) ?hd (cs := #[.int .i64 a0_0, .int .i64 a0_1]) (t := 26) ?hr ?_; (case hd => rfl); (case hg => rfl); (case hr => first | (go_simp; done) | (go_simp; rfl)); intro gb156 hg w5 hbox hb; have n0_ := Aside0.mk (below_step (by repeat (first | (with_reducible first | exact HB.out | apply below_alloc | apply pw_below_drewN | apply below_drew1) | exact HB.out)) hb); have n1_ := Aside0.mk (hbox); have n2_ := Aside0.mk ((by rw [hg]; exact (below_size (by repeat (first | (with_reducible first | exact HB.out | apply below_alloc | apply pw_below_drewN | apply below_drew1) | exact HB.out))) : w.heap.size ≤ gb156)); have n3_ := Aside0.mk ((by rw [hg]; exact (below_size (by repeat (first | (with_reducible first | exact HB.out | apply below_alloc | apply pw_below_drewN | apply below_drew1) | exact HB.out))) : w.heap.size ≤ gb156)); clear HB; have HB := n0_; have BK156 := n1_; have GW156 := n2_; have GE156 := n3_; clear n0_ n1_ n2_ n3_; clear hb hbox hg) | ((with_reducible refine gate_dst (N := 3) rfl ?_); refine box_event ?hg (N := 3) ?hd (cs := #[.int .i64 a1_0, .int .i64 a1_1]) (t := 26) ?hr ?_; (case hd => rfl); (case hg => rfl); (case hr => first | (go_simp; done) | (go_simp; rfl)); intro gb157 hg w6 hbox hb; have n0_ := Aside0.mk (blk_below (g := gb156) (o := .cells #[.int .i64 a0_0, .int .i64 a0_1] 26 (0, 0)) (by (with_reducible repeat (first | refine blk_drewN ?_ _ | refine blk_drew ?_ | refine blk_alloc ?_ _)); exact BK156.out) hb); have n1_ := Aside0.mk (below_step (by repeat (first | (with_reducible first | exact HB.out | apply below_alloc | apply pw_below_drewN | apply below_drew1 | refine below_set ?_ GE156.out) | exact HB.out)) hb); have n2_ := Aside0.mk (hbox); have n3_ := Aside0.mk ((by rw [hg]; exact (below_size (by repeat (first | (with_reducible first | exact HB.out | apply below_alloc | apply pw_below_drewN | apply below_drew1 | refine below_set ?_ GE156.out) | exact HB.out))) : w.heap.size ≤ gb157)); have n4_ := Aside0.mk ((by rw [hg]; exact (below_size (by repeat (first | (with_reducible first | exact HB.out | apply below_alloc | apply pw_below_drewN | apply below_drew1 | refine below_set ?_ GE156.out) | exact HB.out))) : w.heap.size ≤ gb157)); have n5_ := Aside0.mk ((by rw [hg]; exact Nat.ne_of_lt (blk_lt (g := gb156) (o := .cells #[.int .i64 a0_0, .int .i64 a0_1] 26 (0, 0)) (by (with_reducible repeat (first | refine blk_drewN ?_ _ | refine blk_drew ?_ | refine blk_alloc ?_ _)); exact BK156.out)) : gb156 ≠ gb157)); have n6_ := Aside0.mk ((by rw [hg]; exact Nat.ne_of_gt (blk_lt (g := gb156) (o := .cells #[.int .i64 a0_0, .int .i64 a0_1] 26 (0, 0)) (by (with_reducible repeat (first | refine blk_drewN ?_ _ | refine blk_drew ?_ | refine blk_alloc ?_ _)); exact BK156.out)) : gb157 ≠ gb156)); clear BK156; clear HB; have BK156 := n0_; have HB := n1_; have BK157 := n2_; have GW157 := n3_; have GE157 := n4_; have NB156_157 := n5_; have NB157_156 := n6_; clear n0_ n1_ n2_ n3_ n4_ n5_ n6_; clear hb hbox hg; have hnb7 := NB156_157.out; have hnc7 := NB157_156.out; have hcz8_0 : w6.cell? ⟨gb156, 0, none⟩ = some (.int .i64 a0_0) := (blk_cell BK156.out 0).trans rfl; have hcz8_1 : w6.cell? ⟨gb156, 1, none⟩ = some (.int .i64 a0_1) := (blk_cell BK156.out 1).trans rfl; have hfz8_0 := blk_frozen BK156.out 0; have hfz8_1 := blk_frozen BK156.out 1; have hcz9_0 : w6.cell? ⟨gb157, 0, none⟩ = some (.int .i64 a1_0) := (blk_cell BK157.out 0).trans rfl; have hcz9_1 : w6.cell? ⟨gb157, 1, none⟩ = some (.int .i64 a1_1) := (blk_cell BK157.out 1).trans rfl; have hfz9_0 := blk_frozen BK157.out 0; have hfz9_1 := blk_frozen BK157.out 1))
      go_ret
      exact ⟨by first | rfl | (simp [errW_none, errW_some] <;> rfl) | (simp [*, errW_none, errW_some] <;> rfl), by repeat (first | (with_reducible first | exact HB.out | apply below_alloc | apply pw_below_drewN | apply below_drew1 | refine below_set ?_ GE156.out | refine below_set ?_ GE157.out) | exact HB.out)⟩
    · rw [if_neg c4] at H
      have c4b0 : (a0_1 == a1_1) = false := beq_eq_false_iff_ne.mpr c4
      have c4b1 : (a0_1 != a1_1) = true := bne_iff_ne.mpr c4
      obtain rfl := Option.some.inj H
      go_enter Try.func89, Try.ntmps89
      go_wp2_with (first | ((with_reducible refine gate_dst (N := 2) rfl ?_); refine box_event ?hg (N := 2) ?hd (cs := #[.int .i64 a0_0, .int .i64 a0_1]) (t := 26) ?hr ?_; (case hd => rfl); (case hg => rfl); (case hr => first | (go_simp; done) | (go_simp; rfl)); intro gb156 hg w10 hbox hb; have n0_ := Aside0.mk (below_step (by repeat (first | (with_reducible first | exact HB.out | apply below_alloc | apply pw_below_drewN | apply below_drew1) | exact HB.out)) hb); have n1_ := Aside0.mk (hbox); have n2_ := Aside0.mk ((by rw [hg]; exact (below_size (by repeat (first | (with_reducible first | exact HB.out | apply below_alloc | apply pw_below_drewN | apply below_drew1) | exact HB.out))) : w.heap.size ≤ gb156)); have n3_ := Aside0.mk ((by rw [hg]; exact (below_size (by repeat (first | (with_reducible first | exact HB.out | apply below_alloc | apply pw_below_drewN | apply below_drew1) | exact HB.out))) : w.heap.size ≤ gb156)); clear HB; have HB := n0_; have BK156 := n1_; have GW156 := n2_; have GE156 := n3_; clear n0_ n1_ n2_ n3_; clear hb hbox hg) | ((with_reducible refine gate_dst (N := 3) rfl ?_); refine box_event ?hg (N := 3) ?hd (cs := #[.int .i64 a1_0, .int .i64 a1_1]) (t := 26) ?hr ?_; (case hd => rfl); (case hg => rfl); (case hr => first | (go_simp; done) | (go_simp; rfl)); intro gb157 hg w11 hbox hb; have n0_ := Aside0.mk (blk_below (g := gb156) (o := .cells #[.int .i64 a0_0, .int .i64 a0_1] 26 (0, 0)) (by (with_reducible repeat (first | refine blk_drewN ?_ _ | refine blk_drew ?_ | refine blk_alloc ?_ _)); exact BK156.out) hb); have n1_ := Aside0.mk (below_step (by repeat (first | (with_reducible first | exact HB.out | apply below_alloc | apply pw_below_drewN | apply below_drew1 | refine below_set ?_ GE156.out) | exact HB.out)) hb); have n2_ := Aside0.mk (hbox); have n3_ := Aside0.mk ((by rw [hg]; exact (below_size (by repeat (first | (with_reducible first | exact HB.out | apply below_alloc | apply pw_below_drewN | apply below_drew1 | refine below_set ?_ GE156.out) | exact HB.out))) : w.heap.size ≤ gb157)); have n4_ := Aside0.mk ((by rw [hg]; exact (below_size (by repeat (first | (with_reducible first | exact HB.out | apply below_alloc | apply pw_below_drewN | apply below_drew1 | refine below_set ?_ GE156.out) | exact HB.out))) : w.heap.size ≤ gb157)); have n5_ := Aside0.mk ((by rw [hg]; exact Nat.ne_of_lt (blk_lt (g := gb156) (o := .cells #[.int .i64 a0_0, .int .i64 a0_1] 26 (0, 0)) (by (with_reducible repeat (first | refine blk_drewN ?_ _ | refine blk_drew ?_ | refine blk_alloc ?_ _)); exact BK156.out)) : gb156 ≠ gb157)); have n6_ := Aside0.mk ((by rw [hg]; exact Nat.ne_of_gt (blk_lt (g := gb156) (o := .cells #[.int .i64 a0_0, .int .i64 a0_1] 26 (0, 0)) (by (with_reducible repeat (first | refine blk_drewN ?_ _ | refine blk_drew ?_ | refine blk_alloc ?_ _)); exact BK156.out)) : gb157 ≠ gb156)); clear BK156; clear HB; have BK156 := n0_; have HB := n1_; have BK157 := n2_; have GW157 := n3_; have GE157 := n4_; have NB156_157 := n5_; have NB157_156 := n6_; clear n0_ n1_ n2_ n3_ n4_ n5_ n6_; clear hb hbox hg; have hnb12 := NB156_157.out; have hnc12 := NB157_156.out; have hcz13_0 : w11.cell? ⟨gb156, 0, none⟩ = some (.int .i64 a0_0) := (blk_cell BK156.out 0).trans rfl; have hcz13_1 : w11.cell? ⟨gb156, 1, none⟩ = some (.int .i64 a0_1) := (blk_cell BK156.out 1).trans rfl; have hfz13_0 := blk_frozen BK156.out 0; have hfz13_1 := blk_frozen BK156.out 1; have hcz14_0 : w11.cell? ⟨gb157, 0, none⟩ = some (.int .i64 a1_0) := (blk_cell BK157.out 0).trans rfl; have hcz14_1 : w11.cell? ⟨gb157, 1, none⟩ = some (.int .i64 a1_1) := (blk_cell BK157.out 1).trans rfl; have hfz14_0 := blk_frozen BK157.out 0; have hfz14_1 := blk_frozen BK157.out 1))
      go_ret
      exact ⟨by first | rfl | (simp [errW_none, errW_some] <;> rfl) | (simp [*, errW_none, errW_some] <;> rfl), by repeat (first | (with_reducible first | exact HB.out | apply below_alloc | apply pw_below_drewN | apply below_drew1 | refine below_set ?_ GE156.out | refine below_set ?_ GE157.out) | exact HB.out)⟩
  · rw [if_neg c3] at H
    have c3b0 : (a0_0 == a1_0) = false := beq_eq_false_iff_ne.mpr c3
    have c3b1 : (a0_0 != a1_0) = true := bne_iff_ne.mpr c3
    obtain rfl := Option.some.inj H
    go_enter Try.func89, Try.ntmps89
    go_wp2_with (first | ((with_reducible refine gate_dst (N := 2) rfl ?_); refine box_event ?hg (N := 2) ?hd (cs := #[.int .i64 a0_0, .int .i64 a0_1]) (t := 26) ?hr ?_; (case hd => rfl); (case hg => rfl); (case hr => first | (go_simp; done) | (go_simp; rfl)); intro gb156 hg w15 hbox hb; have n0_ := Aside0.mk (below_step (by repeat (first | (with_reducible first | exact HB.out | apply below_alloc | apply pw_below_drewN | apply below_drew1) | exact HB.out)) hb); have n1_ := Aside0.mk (hbox); have n2_ := Aside0.mk ((by rw [hg]; exact (below_size (by repeat (first | (with_reducible first | exact HB.out | apply below_alloc | apply pw_below_drewN | apply below_drew1) | exact HB.out))) : w.heap.size ≤ gb156)); have n3_ := Aside0.mk ((by rw [hg]; exact (below_size (by repeat (first | (with_reducible first | exact HB.out | apply below_alloc | apply pw_below_drewN | apply below_drew1) | exact HB.out))) : w.heap.size ≤ gb156)); clear HB; have HB := n0_; have BK156 := n1_; have GW156 := n2_; have GE156 := n3_; clear n0_ n1_ n2_ n3_; clear hb hbox hg) | ((with_reducible refine gate_dst (N := 3) rfl ?_); refine box_event ?hg (N := 3) ?hd (cs := #[.int .i64 a1_0, .int .i64 a1_1]) (t := 26) ?hr ?_; (case hd => rfl); (case hg => rfl); (case hr => first | (go_simp; done) | (go_simp; rfl)); intro gb157 hg w16 hbox hb; have n0_ := Aside0.mk (blk_below (g := gb156) (o := .cells #[.int .i64 a0_0, .int .i64 a0_1] 26 (0, 0)) (by (with_reducible repeat (first | refine blk_drewN ?_ _ | refine blk_drew ?_ | refine blk_alloc ?_ _)); exact BK156.out) hb); have n1_ := Aside0.mk (below_step (by repeat (first | (with_reducible first | exact HB.out | apply below_alloc | apply pw_below_drewN | apply below_drew1 | refine below_set ?_ GE156.out) | exact HB.out)) hb); have n2_ := Aside0.mk (hbox); have n3_ := Aside0.mk ((by rw [hg]; exact (below_size (by repeat (first | (with_reducible first | exact HB.out | apply below_alloc | apply pw_below_drewN | apply below_drew1 | refine below_set ?_ GE156.out) | exact HB.out))) : w.heap.size ≤ gb157)); have n4_ := Aside0.mk ((by rw [hg]; exact (below_size (by repeat (first | (with_reducible first | exact HB.out | apply below_alloc | apply pw_below_drewN | apply below_drew1 | refine below_set ?_ GE156.out) | exact HB.out))) : w.heap.size ≤ gb157)); have n5_ := Aside0.mk ((by rw [hg]; exact Nat.ne_of_lt (blk_lt (g := gb156) (o := .cells #[.int .i64 a0_0, .int .i64 a0_1] 26 (0, 0)) (by (with_reducible repeat (first | refine blk_drewN ?_ _ | refine blk_drew ?_ | refine blk_alloc ?_ _)); exact BK156.out)) : gb156 ≠ gb157)); have n6_ := Aside0.mk ((by rw [hg]; exact Nat.ne_of_gt (blk_lt (g := gb156) (o := .cells #[.int .i64 a0_0, .int .i64 a0_1] 26 (0, 0)) (by (with_reducible repeat (first | refine blk_drewN ?_ _ | refine blk_drew ?_ | refine blk_alloc ?_ _)); exact BK156.out)) : gb157 ≠ gb156)); clear BK156; clear HB; have BK156 := n0_; have HB := n1_; have BK157 := n2_; have GW157 := n3_; have GE157 := n4_; have NB156_157 := n5_; have NB157_156 := n6_; clear n0_ n1_ n2_ n3_ n4_ n5_ n6_; clear hb hbox hg; have hnb17 := NB156_157.out; have hnc17 := NB157_156.out; have hcz18_0 : w16.cell? ⟨gb156, 0, none⟩ = some (.int .i64 a0_0) := (blk_cell BK156.out 0).trans rfl; have hcz18_1 : w16.cell? ⟨gb156, 1, none⟩ = some (.int .i64 a0_1) := (blk_cell BK156.out 1).trans rfl; have hfz18_0 := blk_frozen BK156.out 0; have hfz18_1 := blk_frozen BK156.out 1; have hcz19_0 : w16.cell? ⟨gb157, 0, none⟩ = some (.int .i64 a1_0) := (blk_cell BK157.out 0).trans rfl; have hcz19_1 : w16.cell? ⟨gb157, 1, none⟩ = some (.int .i64 a1_1) := (blk_cell BK157.out 1).trans rfl; have hfz19_0 := blk_frozen BK157.out 0; have hfz19_1 := blk_frozen BK157.out 1))
    go_ret
    exact ⟨by first | rfl | (simp [errW_none, errW_some] <;> rfl) | (simp [*, errW_none, errW_some] <;> rfl), by repeat (first | (with_reducible first | exact HB.out | apply below_alloc | apply pw_below_drewN | apply below_drew1 | refine below_set ?_ GE156.out | refine below_set ?_ GE157.out) | exact HB.out)⟩

end Go.Proofs.Ytlocignlkigojaa.Q

-- text Qf26
namespace Go.Proofs.Ytlocignlkigojaa.Q
open Go.RowKit Go.Proofs.YtlocignlkigojaaW.PrintWords Go.Proofs.YtlocignlkigojaaW.PrintLast Go.Proofs.YtlocignlkigojaaW.PrintMore
attribute [local go_sem] max2_int min2_int max_two min_two max_three min_three max_four min_four   -- for this text's walks alone
set_option linter.unusedVariables false
set_option linter.unusedSimpArgs false

/-! ### laws_eqItemS: function 26 -/
def laws_eqItemS.l0 : Nat → List (S26) → List (S26) → Int → Option (Bool)
  | 0, _, _, _ => none
  | k + 1, x0, x1, x5 => if x5 < (x0.length : Int) then (if 0 ≤ x5 then (if x5 < (x1.length : Int) then ((laws_eqItem.f ((rd_T26 x0 x5).f0) ((rd_T26 x0 x5).f1) ((rd_T26 x1 x5).f0) ((rd_T26 x1 x5).f1)).bind fun t160 => (if t160 = true then (laws_eqItemS.l0 k x0 x1 (wrap64 (x5 + 1))) else (some false))) else (none)) else (none)) else (some true)
def laws_eqItemS.f (k : Nat) (l0 : List (S26)) (l1 : List (S26)) : Option (Bool) := if (l0.length : Int) = (l1.length : Int) then (laws_eqItemS.l0 k l0 l1 0) else (some false)
theorem laws_eqItemS.mono_l : ∀ k, (∀ y0 y1 y2, LeO (laws_eqItemS.l0 k y0 y1 y2) (laws_eqItemS.l0 (k + 1) y0 y1 y2))
  | 0 => fun _ _ _ r h => by simp [laws_eqItemS.l0] at h
  | k + 1 => by
    have ih0 := laws_eqItemS.mono_l k
    · intro y0 y1 y2
      unfold laws_eqItemS.l0
      repeat' first
      | (with_reducible exact ih0 _ _ _)
      | (with_reducible exact LeO.refl _)
      | (with_reducible exact LeO.none _)
      | (with_reducible refine LeO.ite ?_ ?_)
      | (with_reducible refine LeO.bind ?_ (fun _ => ?_))
      | exact ih0 _ _ _
      | exact LeO.none _
      | refine LeO.ite ?_ ?_
      | refine LeO.bind ?_ (fun _ => ?_)
theorem laws_eqItemS.mono : ∀ a0 a1 k, LeO (laws_eqItemS.f k a0 a1) (laws_eqItemS.f (k + 1) a0 a1) := by
  intro a0 a1 k
  have ih0 := laws_eqItemS.mono_l k
  unfold laws_eqItemS.f
  repeat' first
      | (with_reducible exact ih0 _ _ _)
      | (with_reducible exact LeO.refl _)
      | (with_reducible exact LeO.none _)
      | (with_reducible refine LeO.ite ?_ ?_)
      | (with_reducible refine LeO.bind ?_ (fun _ => ?_))
      | exact ih0 _ _ _
      | exact LeO.none _
      | refine LeO.ite ?_ ?_
      | refine LeO.bind ?_ (fun _ => ?_)
def laws_eqItemS.T6 : Bool × List (List Nat × List Nat) := (true, [([], []), ([], []), ([0, 1], [0, 1]), ([2], [2]), ([], []), ([], []), ([4, 5], [4, 5]), ([6], [6]), ([3, 7], [3, 7]), ([8], [8])])
def laws_eqItemS.B6 : List Nat := [0, 0, 3, 7, 0, 0, 48, 112, 255, 511]
theorem laws_eqItemS.tab6 : rtab .any (opsOf Try.f26 6) = laws_eqItemS.T6 := by kernel_rfl
theorem laws_eqItemS.bits6 : waitsOk laws_eqItemS.T6.2 laws_eqItemS.B6 = true := by kernel_rfl
set_option maxHeartbeats 8000000 in
set_option maxRecDepth 100000 in
theorem laws_eqItemS.calls (k : Nat) (A0 : Option Addr) (c0 : Nat) (l0 : List (S26)) (A1 : Option Addr) (c1 : Nat) (l1 : List (S26)) (r : Bool) (w : World) (hr0 : Kd.C k26 w A0 l0.length l0) (hc0 : l0.length ≤ c0) (hr1 : Kd.C k26 w A1 l1.length l1) (hc1 : l1.length ≤ c1) (h : laws_eqItemS.f k l0 l1 = some r) :
    Calls Try.prog 26 #[.slice A0 l0.length c0, .slice A1 l1.length c1] w fun e w' => e = .returned (.bool r) ∧ Below w.heap.size w w' := by
  have hu26 := Try.underlying26
  have HR0 := Aside0.mk hr0
  have HC0 := Aside0.mk hc0
  clear hr0 hc0
  have HR1 := Aside0.mk hr1
  have HC1 := Aside0.mk hc1
  clear hr1 hc1
  have HB := Aside0.mk (Below.refl w.heap.size w)
  have H : (if (l0.length : Int) = (l1.length : Int) then (laws_eqItemS.l0 k l0 l1 0) else (some false)) = some r := h
  clear h
  by_cases c3 : (l0.length : Int) = (l1.length : Int)
  · rw [if_pos c3] at H
    have c3b0 : ((l0.length : Int) == (l1.length : Int)) = true := beq_iff_eq.mpr c3
    have c3b1 : ((l0.length : Int) != (l1.length : Int)) = false := bne_eq_false_iff_eq.mpr c3
    have c3b2 : (l0.length == l1.length) = true := by first | simpa using c3 | (simp at c3 ⊢; omega)
    clear c3
    have H' := Aside0.mk H
    clear H
    go_enter Try.func26, Try.ntmps26
    go_wp2
    go_loopg [5] k (fun kq v5 w' => ∃ (x5_1 : Int), v5 = .int .i64 x5_1 ∧ Aside0 (laws_eqItemS.l0 kq l0 l1 x5_1 = some r) ∧ Aside0 (kq ≤ k) ∧ Aside0 (Below w.heap.size w w'))
    case atStart => exact ⟨(0), (by first | rfl | (simp; done) | (simp [*]; done)), H', ⟨Nat.le_refl _⟩, ⟨by repeat (first | (with_reducible first | exact HB.out | apply below_alloc | apply pw_below_drewN | apply below_drew1) | exact HB.out)⟩⟩
    case round =>
      clear H'
      try clear c1
      try clear c2
      try clear p2
      try clear c3
      try clear c3b0
      try clear c3b1
      try clear c3b2
      obtain ⟨x5_1, rfl, HA, HK1, HB⟩ := hrel
      cases gk with
      | zero => exact absurd HA.out (by simp [laws_eqItemS.l0])
      | succ k1 =>
        have H := HA.out
        clear HA
        simp only [laws_eqItemS.l0] at H
        by_cases c4 : x5_1 < (l0.length : Int)
        · rw [if_pos c4] at H
          have c4b0 : decide (x5_1 < (l0.length : Int)) = true := decide_eq_true c4
          clear c4
          by_cases c5 : 0 ≤ x5_1
          · rw [if_pos c5] at H
            have c5b0 : decide (0 ≤ x5_1) = true := decide_eq_true c5
            clear c5
            by_cases c6 : x5_1 < (l1.length : Int)
            · rw [if_pos c6] at H
              have c6b0 : decide (x5_1 < (l1.length : Int)) = true := decide_eq_true c6
              clear c6
              replace H := Option.bind_eq_some_iff.mp H
              obtain ⟨t160, A70, H⟩ := H
              replace H : (if t160 = true then (laws_eqItemS.l0 k1 l0 l1 (wrap64 (x5_1 + 1))) else (some false)) = some r := H
              have A7 := Aside0.mk A70
              clear A70
              by_cases c8 : t160 = true
              · subst c8
                have H1 : (laws_eqItemS.l0 k1 l0 l1 (wrap64 (x5_1 + 1))) = some r := by rw [if_pos rfl] at H; exact H
                clear H
                have H := H1
                clear H1
                have H' := Aside0.mk H
                clear H
                try go_wp2
                have n0_ := Aside0.mk (below_drew1 HB.out)
                clear HB
                have HB := n0_
                clear n0_
                have p158 : 0 ≤ (x5_1 : Int) := of_decide_eq_true (by first | (with_reducible assumption) | assumption)
                have q158 : x5_1 < (l0.length : Int) := of_decide_eq_true (by first | (with_reducible assumption) | assumption)
                obtain ⟨ad158, e158, hx158_0, hx158_1⟩ := at_T26 HR0.out x5_1 p158 q158
                have hw158_1 := hx158_1
                have hw158_0 := hx158_0
                cases e158
                replace hx158_0 := (HB.out.cell (World.block_lt_of_cell? w _ hx158_0)).trans hx158_0
                replace hx158_1 := (HB.out.cell (World.block_lt_of_cell? w _ hx158_1)).trans hx158_1
                replace p158 := eq_true p158
                replace q158 := eq_true q158
                have p159 : 0 ≤ (x5_1 : Int) := of_decide_eq_true (by first | (with_reducible assumption) | assumption)
                have q159 : x5_1 < (l1.length : Int) := of_decide_eq_true (by first | (with_reducible assumption) | assumption)
                obtain ⟨ad159, e159, hx159_0, hx159_1⟩ := at_T26 HR1.out x5_1 p159 q159
                have hw159_1 := hx159_1
                have hw159_0 := hx159_0
                cases e159
                replace hx159_0 := (HB.out.cell (World.block_lt_of_cell? w _ hx159_0)).trans hx159_0
                replace hx159_1 := (HB.out.cell (World.block_lt_of_cell? w _ hx159_1)).trans hx159_1
                replace p159 := eq_true p159
                replace q159 := eq_true q159
                refine start_ (n := 10) (S := fun w' => w'.cell? (ad158.add ((x5_1).toNat * 2)) = some (.int .i64 ((rd_T26 l0 x5_1).f0)) ∧ w'.cell? ⟨(ad158.add ((x5_1).toNat * 2)).block, (ad158.add ((x5_1).toNat * 2)).off + 1, none⟩ = some (.int .i64 ((rd_T26 l0 x5_1).f1)) ∧ w'.cell? (ad159.add ((x5_1).toNat * 2)) = some (.int .i64 ((rd_T26 l1 x5_1).f0)) ∧ w'.cell? ⟨(ad159.add ((x5_1).toNat * 2)).block, (ad159.add ((x5_1).toNat * 2)).off + 1, none⟩ = some (.int .i64 ((rd_T26 l1 x5_1).f1))) (ds := []) #[false, false, false, false, false, false, false, false, false, false] (by kernel_rfl) rfl rfl ⟨((HB.out.cell (World.block_lt_of_cell? w _ hw158_0)).trans hw158_0), ((HB.out.cell (World.block_lt_of_cell? w _ hw158_1)).trans hw158_1), ((HB.out.cell (World.block_lt_of_cell? w _ hw159_0)).trans hw159_0), ((HB.out.cell (World.block_lt_of_cell? w _ hw159_1)).trans hw159_1)⟩ (fun hHeld => ?_); refine with_tabW laws_eqItemS.tab6 laws_eqItemS.bits6 (fun HT_ HW_ => ?_)
                generalize wr.drew = w9 at HB hx158_0 hx158_1 hx159_0 hx159_1 hHeld ⊢
                refine pure_ (i := 0) (N := some 17) (v := ?_) (a' := ?_) #[true, false, false, false, false, false, false, false, false, false] rfl rfl (any_of HT_.out (by kernel_rfl)) (fun _ _ _ h => h) (Or.inl ⟨by rfl, ?_⟩) ?_ ?_
                rotate_left
                · intro w'
                  go_simp
                  with_reducible rfl
                rotate_left
                · simp only [Act.put, List.setIfInBounds_toArray, List.set_cons_zero, List.set_cons_succ, i64_w, i32_w]
                  rfl
                refine pure_ (i := 1) (N := some 18) (v := ?_) (a' := ?_) #[true, true, false, false, false, false, false, false, false, false] rfl rfl (any_of HT_.out (by kernel_rfl)) (fun _ _ _ h => h) (Or.inl ⟨by rfl, ?_⟩) ?_ ?_
                rotate_left
                · intro w'
                  go_simp
                  with_reducible rfl
                rotate_left
                · simp only [Act.put, List.setIfInBounds_toArray, List.set_cons_zero, List.set_cons_succ, i64_w, i32_w]
                  rfl
                refine pure_ (i := 2) (N := some 19) (v := ?_) (a' := ?_) #[true, true, true, false, false, false, false, false, false, false] rfl rfl (any_of HT_.out (by kernel_rfl)) (fun _ _ _ h => h) (Or.inl ⟨by rfl, ?_⟩) ?_ ?_
                rotate_left
                · intro w'
                  go_simp
                  with_reducible rfl
                rotate_left
                · simp only [Act.put, List.setIfInBounds_toArray, List.set_cons_zero, List.set_cons_succ, i64_w, i32_w]
                  rfl
                refine pure_ (i := 4) (N := some 21) (v := ?_) (a' := ?_) #[true, true, true, false, true, false, false, false, false, false] rfl rfl (any_of HT_.out (by kernel_rfl)) (fun _ _ _ h => h) (Or.inl ⟨by rfl, ?_⟩) ?_ ?_
                rotate_left
                · intro w'
                  go_simp
                  with_reducible rfl
                rotate_left
                · simp only [Act.put, List.setIfInBounds_toArray, List.set_cons_zero, List.set_cons_succ, i64_w, i32_w]
                  rfl
                refine pure_ (i := 5) (N := some 22) (v := ?_) (a' := ?_) #[true, true, true, false, true, true, false, false, false, false] rfl rfl (any_of HT_.out (by kernel_rfl)) (fun _ _ _ h => h) (Or.inl ⟨by rfl, ?_⟩) ?_ ?_
                rotate_left
                · intro w'
                  go_simp
                  with_reducible rfl
                rotate_left
                · simp only [Act.put, List.setIfInBounds_toArray, List.set_cons_zero, List.set_cons_succ, i64_w, i32_w]
                  rfl
                refine pure_ (i := 6) (N := some 23) (v := ?_) (a' := ?_) #[true, true, true, false, true, true, true, false, false, false] rfl rfl (any_of HT_.out (by kernel_rfl)) (fun _ _ _ h => h) (Or.inl ⟨by rfl, ?_⟩) ?_ ?_
                rotate_left
                · intro w'
                  go_simp
                  with_reducible rfl
                rotate_left
                · simp only [Act.put, List.setIfInBounds_toArray, List.set_cons_zero, List.set_cons_succ, i64_w, i32_w]
                  rfl
                refine take_ (i := 3) (N := some 20) (v := ?_) (a' := ?_) #[true, true, true, true, true, true, true, false, false, false] rfl rfl (take_ofW HT_.out HW_.out (by kernel_rfl)) (fun _ _ _ h => h) (Or.inl ⟨by rfl, ?_⟩) hHeld ?_ ?_
                rotate_left
                · rintro w' ⟨s0, s1, s2, s3⟩
                  go_simp
                  with_reducible rfl
                rotate_left
                · simp only [Act.put, List.setIfInBounds_toArray, List.set_cons_zero, List.set_cons_succ, i64_w, i32_w]
                  rfl
                refine take_ (i := 7) (N := some 24) (v := ?_) (a' := ?_) #[true, true, true, true, true, true, true, true, false, false] rfl rfl (take_ofW HT_.out HW_.out (by kernel_rfl)) (fun _ _ _ h => h) (Or.inl ⟨by rfl, ?_⟩) hHeld ?_ ?_
                rotate_left
                · rintro w' ⟨s0, s1, s2, s3⟩
                  go_simp
                  with_reducible rfl
                rotate_left
                · simp only [Act.put, List.setIfInBounds_toArray, List.set_cons_zero, List.set_cons_succ, i64_w, i32_w]
                  rfl
                refine one_ (i := 8) (N := some 25) #[true, true, true, true, true, true, true, true, true, false] rfl rfl (one_of HT_.out (by kernel_rfl)) (by decide) (fun K hK => ?_)
                refine goes_ Try.func89 (by kernel_rfl) rfl #[.agg #[.int .i64 ((rd_T26 l0 x5_1).f0), .int .i64 ((rd_T26 l0 x5_1).f1)], .agg #[.int .i64 ((rd_T26 l1 x5_1).f0), .int .i64 ((rd_T26 l1 x5_1).f1)]] (by rfl) rfl rfl (by (try simp only [List.map_toArray, List.map_cons, List.map_nil]); first | done | rfl | (simp only [List.length_drop, List.length_take]; rfl)) ?_
                with_reducible refine (laws_eqItem.calls ((rd_T26 l0 x5_1).f0) ((rd_T26 l0 x5_1).f1) ((rd_T26 l1 x5_1).f0) ((rd_T26 l1 x5_1).f1) true _ A7.out).mono ?_
                rintro e w10 ⟨rfl, hb⟩
                refine ⟨_, rfl, ?_⟩
                have n0_ := Aside0.mk (below_step (by repeat (first | (with_reducible first | exact HB.out | apply below_alloc | apply pw_below_drewN | apply below_drew1) | exact HB.out)) hb)
                clear HB
                have HB := n0_
                clear n0_
                (try clear hb)
                (try clear hb2)
                (try clear hk)
                (try clear hi)
                refine hK.out _ _ ⟨((HB.out.cell (World.block_lt_of_cell? w _ hw158_0)).trans hw158_0), ((HB.out.cell (World.block_lt_of_cell? w _ hw158_1)).trans hw158_1), ((HB.out.cell (World.block_lt_of_cell? w _ hw159_0)).trans hw159_0), ((HB.out.cell (World.block_lt_of_cell? w _ hw159_1)).trans hw159_1)⟩ (fun hHeld => ?_)
                clear hK K
                refine norm_ (a' := ?_) ?_ ?_
                rotate_left
                · show Act.put _ (some 25) _ = _
                  simp only [Act.put, List.setIfInBounds_toArray, List.set_cons_zero, List.set_cons_succ, i64_w, i32_w]
                  rfl
                refine pure_ (i := 9) (N := some 26) (v := ?_) (a' := ?_) #[true, true, true, true, true, true, true, true, true, true] rfl rfl (any_of HT_.out (by kernel_rfl)) (fun _ _ _ h => h) (Or.inl ⟨by rfl, ?_⟩) ?_ ?_
                rotate_left
                · intro w'
                  go_simp
                  with_reducible rfl
                rotate_left
                · simp only [Act.put, List.setIfInBounds_toArray, List.set_cons_zero, List.set_cons_succ, i64_w, i32_w]
                  rfl
                refine done_ (done_of HT_.out (by kernel_rfl)) ?_
                try go_wp2
                go_roundg k1
                case measure => have := HK1.out; omega
                case rel => exact ⟨(wrap64 (x5_1 + 1)), (by first | rfl | (simp; done) | (simp [*]; done)), H', ⟨by have := HK1.out; omega⟩, ⟨by repeat (first | (with_reducible first | exact HB.out | apply below_alloc | apply pw_below_drewN | apply below_drew1) | exact HB.out)⟩⟩
              · replace c8 := Bool.eq_false_iff.mpr c8
                subst c8
                have H1 : (some false) = some r := by rw [if_neg (show ¬ (false = true) by decide)] at H; exact H
                clear H
                have H := H1
                clear H1
                obtain rfl := Option.some.inj H
                try go_wp2
                have n0_ := Aside0.mk (below_drew1 HB.out)
                clear HB
                have HB := n0_
                clear n0_
                have p158 : 0 ≤ (x5_1 : Int) := of_decide_eq_true (by first | (with_reducible assumption) | assumption)
                have q158 : x5_1 < (l0.length : Int) := of_decide_eq_true (by first | (with_reducible assumption) | assumption)
                obtain ⟨ad158, e158, hx158_0, hx158_1⟩ := at_T26 HR0.out x5_1 p158 q158
                have hw158_1 := hx158_1
                have hw158_0 := hx158_0
                cases e158
                replace hx158_0 := (HB.out.cell (World.block_lt_of_cell? w _ hx158_0)).trans hx158_0
                replace hx158_1 := (HB.out.cell (World.block_lt_of_cell? w _ hx158_1)).trans hx158_1
                replace p158 := eq_true p158
                replace q158 := eq_true q158
                have p159 : 0 ≤ (x5_1 : Int) := of_decide_eq_true (by first | (with_reducible assumption) | assumption)
                have q159 : x5_1 < (l1.length : Int) := of_decide_eq_true (by first | (with_reducible assumption) | assumption)
                obtain ⟨ad159, e159, hx159_0, hx159_1⟩ := at_T26 HR1.out x5_1 p159 q159
                have hw159_1 := hx159_1
                have hw159_0 := hx159_0
                cases e159
                replace hx159_0 := (HB.out.cell (World.block_lt_of_cell? w _ hx159_0)).trans hx159_0
                replace hx159_1 := (HB.out.cell (World.block_lt_of_cell? w _ hx159_1)).trans hx159_1
                replace p159 := eq_true p159
                replace q159 := eq_true q159
                refine start_ (n := 10) (S := fun w' => w'.cell? (ad158.add ((x5_1).toNat * 2)) = some (.int .i64 ((rd_T26 l0 x5_1).f0)) ∧ w'.cell? ⟨(ad158.add ((x5_1).toNat * 2)).block, (ad158.add ((x5_1).toNat * 2)).off + 1, none⟩ = some (.int .i64 ((rd_T26 l0 x5_1).f1)) ∧ w'.cell? (ad159.add ((x5_1).toNat * 2)) = some (.int .i64 ((rd_T26 l1 x5_1).f0)) ∧ w'.cell? ⟨(ad159.add ((x5_1).toNat * 2)).block, (ad159.add ((x5_1).toNat * 2)).off + 1, none⟩ = some (.int .i64 ((rd_T26 l1 x5_1).f1))) (ds := []) #[false, false, false, false, false, false, false, false, false, false] (by kernel_rfl) rfl rfl ⟨((HB.out.cell (World.block_lt_of_cell? w _ hw158_0)).trans hw158_0), ((HB.out.cell (World.block_lt_of_cell? w _ hw158_1)).trans hw158_1), ((HB.out.cell (World.block_lt_of_cell? w _ hw159_0)).trans hw159_0), ((HB.out.cell (World.block_lt_of_cell? w _ hw159_1)).trans hw159_1)⟩ (fun hHeld => ?_); refine with_tabW laws_eqItemS.tab6 laws_eqItemS.bits6 (fun HT_ HW_ => ?_)
                generalize wr.drew = w11 at HB hx158_0 hx158_1 hx159_0 hx159_1 hHeld ⊢
                refine pure_ (i := 0) (N := some 17) (v := ?_) (a' := ?_) #[true, false, false, false, false, false, false, false, false, false] rfl rfl (any_of HT_.out (by kernel_rfl)) (fun _ _ _ h => h) (Or.inl ⟨by rfl, ?_⟩) ?_ ?_
                rotate_left
                · intro w'
                  go_simp
                  with_reducible rfl
                rotate_left
                · simp only [Act.put, List.setIfInBounds_toArray, List.set_cons_zero, List.set_cons_succ, i64_w, i32_w]
                  rfl
                refine pure_ (i := 1) (N := some 18) (v := ?_) (a' := ?_) #[true, true, false, false, false, false, false, false, false, false] rfl rfl (any_of HT_.out (by kernel_rfl)) (fun _ _ _ h => h) (Or.inl ⟨by rfl, ?_⟩) ?_ ?_
                rotate_left
                · intro w'
                  go_simp
                  with_reducible rfl
                rotate_left
                · simp only [Act.put, List.setIfInBounds_toArray, List.set_cons_zero, List.set_cons_succ, i64_w, i32_w]
                  rfl
                refine pure_ (i := 2) (N := some 19) (v := ?_) (a' := ?_) #[true, true, true, false, false, false, false, false, false, false] rfl rfl (any_of HT_.out (by kernel_rfl)) (fun _ _ _ h => h) (Or.inl ⟨by rfl, ?_⟩) ?_ ?_
                rotate_left
                · intro w'
                  go_simp
                  with_reducible rfl
                rotate_left
                · simp only [Act.put, List.setIfInBounds_toArray, List.set_cons_zero, List.set_cons_succ, i64_w, i32_w]
                  rfl
                refine pure_ (i := 4) (N := some 21) (v := ?_) (a' := ?_) #[true, true, true, false, true, false, false, false, false, false] rfl rfl (any_of HT_.out (by kernel_rfl)) (fun _ _ _ h => h) (Or.inl ⟨by rfl, ?_⟩) ?_ ?_
                rotate_left
                · intro w'
                  go_simp
                  with_reducible rfl
                rotate_left
                · simp only [Act.put, List.setIfInBounds_toArray, List.set_cons_zero, List.set_cons_succ, i64_w, i32_w]
                  rfl
                refine pure_ (i := 5) (N := some 22) (v := ?_) (a' := ?_) #[true, true, true, false, true, true, false, false, false, false] rfl rfl (any_of HT_.out (by kernel_rfl)) (fun _ _ _ h => h) (Or.inl ⟨by rfl, ?_⟩) ?_ ?_
                rotate_left
                · intro w'
                  go_simp
                  with_reducible rfl
                rotate_left
                · simp only [Act.put, List.setIfInBounds_toArray, List.set_cons_zero, List.set_cons_succ, i64_w, i32_w]
                  rfl
                refine pure_ (i := 6) (N := some 23) (v := ?_) (a' := ?_) #[true, true, true, false, true, true, true, false, false, false] rfl rfl (any_of HT_.out (by kernel_rfl)) (fun _ _ _ h => h) (Or.inl ⟨by rfl, ?_⟩) ?_ ?_
                rotate_left
                · intro w'
                  go_simp
                  with_reducible rfl
                rotate_left
                · simp only [Act.put, List.setIfInBounds_toArray, List.set_cons_zero, List.set_cons_succ, i64_w, i32_w]
                  rfl
                refine take_ (i := 3) (N := some 20) (v := ?_) (a' := ?_) #[true, true, true, true, true, true, true, false, false, false] rfl rfl (take_ofW HT_.out HW_.out (by kernel_rfl)) (fun _ _ _ h => h) (Or.inl ⟨by rfl, ?_⟩) hHeld ?_ ?_
                rotate_left
                · rintro w' ⟨s0, s1, s2, s3⟩
                  go_simp
                  with_reducible rfl
                rotate_left
                · simp only [Act.put, List.setIfInBounds_toArray, List.set_cons_zero, List.set_cons_succ, i64_w, i32_w]
                  rfl
                refine take_ (i := 7) (N := some 24) (v := ?_) (a' := ?_) #[true, true, true, true, true, true, true, true, false, false] rfl rfl (take_ofW HT_.out HW_.out (by kernel_rfl)) (fun _ _ _ h => h) (Or.inl ⟨by rfl, ?_⟩) hHeld ?_ ?_
                rotate_left
                · rintro w' ⟨s0, s1, s2, s3⟩
                  go_simp
                  with_reducible rfl
                rotate_left
                · simp only [Act.put, List.setIfInBounds_toArray, List.set_cons_zero, List.set_cons_succ, i64_w, i32_w]
                  rfl
                refine one_ (i := 8) (N := some 25) #[true, true, true, true, true, true, true, true, true, false] rfl rfl (one_of HT_.out (by kernel_rfl)) (by decide) (fun K hK => ?_)
                refine goes_ Try.func89 (by kernel_rfl) rfl #[.agg #[.int .i64 ((rd_T26 l0 x5_1).f0), .int .i64 ((rd_T26 l0 x5_1).f1)], .agg #[.int .i64 ((rd_T26 l1 x5_1).f0), .int .i64 ((rd_T26 l1 x5_1).f1)]] (by rfl) rfl rfl (by (try simp only [List.map_toArray, List.map_cons, List.map_nil]); first | done | rfl | (simp only [List.length_drop, List.length_take]; rfl)) ?_
                with_reducible refine (laws_eqItem.calls ((rd_T26 l0 x5_1).f0) ((rd_T26 l0 x5_1).f1) ((rd_T26 l1 x5_1).f0) ((rd_T26 l1 x5_1).f1) false _ A7.out).mono ?_
                rintro e w12 ⟨rfl, hb⟩
                refine ⟨_, rfl, ?_⟩
                have n0_ := Aside0.mk (below_step (by repeat (first | (with_reducible first | exact HB.out | apply below_alloc | apply pw_below_drewN | apply below_drew1) | exact HB.out)) hb)
                clear HB
                have HB := n0_
                clear n0_
                (try clear hb)
                (try clear hb2)
                (try clear hk)
                (try clear hi)
                refine hK.out _ _ ⟨((HB.out.cell (World.block_lt_of_cell? w _ hw158_0)).trans hw158_0), ((HB.out.cell (World.block_lt_of_cell? w _ hw158_1)).trans hw158_1), ((HB.out.cell (World.block_lt_of_cell? w _ hw159_0)).trans hw159_0), ((HB.out.cell (World.block_lt_of_cell? w _ hw159_1)).trans hw159_1)⟩ (fun hHeld => ?_)
                clear hK K
                refine norm_ (a' := ?_) ?_ ?_
                rotate_left
                · show Act.put _ (some 25) _ = _
                  simp only [Act.put, List.setIfInBounds_toArray, List.set_cons_zero, List.set_cons_succ, i64_w, i32_w]
                  rfl
                refine pure_ (i := 9) (N := some 26) (v := ?_) (a' := ?_) #[true, true, true, true, true, true, true, true, true, true] rfl rfl (any_of HT_.out (by kernel_rfl)) (fun _ _ _ h => h) (Or.inl ⟨by rfl, ?_⟩) ?_ ?_
                rotate_left
                · intro w'
                  go_simp
                  with_reducible rfl
                rotate_left
                · simp only [Act.put, List.setIfInBounds_toArray, List.set_cons_zero, List.set_cons_succ, i64_w, i32_w]
                  rfl
                refine done_ (done_of HT_.out (by kernel_rfl)) ?_
                try go_wp2
                go_ret
                exact ⟨by first | rfl | (simp [errW_none, errW_some] <;> rfl) | (simp [*, errW_none, errW_some] <;> rfl), by repeat (first | (with_reducible first | exact HB.out | apply below_alloc | apply pw_below_drewN | apply below_drew1) | exact HB.out)⟩
            · rw [if_neg c6] at H
              exact absurd H (by simp)
          · rw [if_neg c5] at H
            exact absurd H (by simp)
        · rw [if_neg c4] at H
          have c4b0 : decide (x5_1 < (l0.length : Int)) = false := decide_eq_false c4
          clear c4
          obtain rfl := Option.some.inj H
          go_wp2
          go_ret
          exact ⟨by first | rfl | (simp [errW_none, errW_some] <;> rfl) | (simp [*, errW_none, errW_some] <;> rfl), by repeat (first | (with_reducible first | exact HB.out | apply below_alloc | apply pw_below_drewN | apply below_drew1) | exact HB.out)⟩
  · rw [if_neg c3] at H
    have c3b0 : ((l0.length : Int) == (l1.length : Int)) = false := beq_eq_false_iff_ne.mpr c3
    have c3b1 : ((l0.length : Int) != (l1.length : Int)) = true := bne_iff_ne.mpr c3
    have c3b2 : (l0.length == l1.length) = false := by first | simpa using c3 | (simp at c3 ⊢; omega)
    obtain rfl := Option.some.inj H
    go_enter Try.func26, Try.ntmps26
    go_wp2
    go_ret
    exact ⟨by first | rfl | (simp [errW_none, errW_some] <;> rfl) | (simp [*, errW_none, errW_some] <;> rfl), by repeat (first | (with_reducible first | exact HB.out | apply below_alloc | apply pw_below_drewN | apply below_drew1) | exact HB.out)⟩

end Go.Proofs.Ytlocignlkigojaa.Q

-- text OLItem
namespace Go.Proofs.Ytlocignlkigojaa.Pure
open Go.RowKit Go.Proofs.Ytlocignlkigojaa.Q Go.Proofs.YtlocignlkigojaaW.PrintWords Go.Proofs.YtlocignlkigojaaW.PrintLast Go.Proofs.YtlocignlkigojaaW.PrintMore
set_option linter.unusedVariables false
set_option linter.unusedSimpArgs false

/-- a law's item as the program's -/
def itemOf (x : S23) : S26 := ⟨x.f0, x.f1⟩
theorem rd_itemL (l : List S23) (i : Nat) (h : i < l.length) : rd_T23 l (i : Int) = l[i] := by
  unfold rd_T23
  rw [Int.toNat_natCast, getD_get l i _ h]
theorem rd_item (l : List S26) (i : Nat) (h : i < l.length) : rd_T26 l (i : Int) = l[i] := by
  unfold rd_T26
  rw [Int.toNat_natCast, getD_get l i _ h]
theorem szItemS_is (l : List S23) (hl : l.length ≤ 9223372036854775807) : laws_szItemS.f l 1048576 = some (if l.length ≤ 1048576 then (1048576 - (l.length : Int)) else -1) := by
  have e : wrap64 (1048576 - (l.length : Int)) = 1048576 - (l.length : Int) := by unfold wrap64; omega
  unfold laws_szItemS.f
  rw [e]
  by_cases h : l.length ≤ 1048576
  · rw [if_neg (by omega), if_pos h]
  · rw [if_pos (by omega), if_neg h]
theorem toItemS_ev (l : List S23) (hl : l.length ≤ 1048576) : Ev (fun k => laws_toItemS.f k l) (l.map itemOf) := by
  have h := map_loop (fun k y i => laws_toItemS.l0 k l y i) l itemOf (fun i hi y hy => ev_next (fun k => by
    simp only [laws_toItemS.l0, laws_toItem.f, Option.bind_some]
    rw [if_pos (by omega), if_pos (by omega), if_pos (by omega), up64 i l.length hi (by omega), Int.toNat_natCast, rd_itemL l i hi]
    rfl)) (fun k y => by simp only [laws_toItemS.l0]; rw [if_neg (by omega)]) (List.replicate ((l.length : Int) : Int).toNat z26) (by simp)
  refine Ev.congr (fun k => ?_) h
  unfold laws_toItemS.f
  rw [if_pos (by omega), if_pos (by omega)]
theorem eqItemS_ev (l : List S26) (hl : l.length ≤ 9223372036854775807) : Ev (fun k => laws_eqItemS.f k l l) true := by
  refine Ev.congr (fun k => ?_) (eq_loop l.length (fun k i => laws_eqItemS.l0 k l l i) (fun i hi => ev_next (fun k => by
    simp only [laws_eqItemS.l0, laws_eqItem.f, Option.bind_some, if_true]
    rw [if_pos (by omega), if_pos (by omega), if_pos (by omega), up64 i l.length hi hl])) (fun k => by simp only [laws_eqItemS.l0]; rw [if_neg (by omega)]))
  unfold laws_eqItemS.f
  rw [if_pos rfl]

end Go.Proofs.Ytlocignlkigojaa.Pure

-- text OBits
namespace Go.Proofs.Ytlocignlkigojaa.Pure
open Go.RowKit Go.Proofs.YtlocignlkigojaaW.PrintWords Go.Proofs.YtlocignlkigojaaW.PrintLast Go.Proofs.YtlocignlkigojaaW.PrintMore
set_option linter.unusedVariables false
set_option linter.unusedSimpArgs false

theorem and32 (x : Int) : Go.bits .and .i64 x 4294967295 = x % 4294967296 := by
  have h : (BitVec.ofInt 64 x &&& BitVec.ofInt 64 4294967295).toNat = (x % 4294967296).toNat := by
    rw [BitVec.toNat_and]
    have e1 : (BitVec.ofInt 64 4294967295).toNat = 2 ^ 32 - 1 := by decide
    have e2 : (BitVec.ofInt 64 x).toNat = (x % 18446744073709551616).toNat := by simp [BitVec.toNat_ofInt]
    rw [e1, e2, Nat.and_two_pow_sub_one_eq_mod]
    omega
  show IntKind.i64.wrap ((BitVec.ofInt 64 x &&& BitVec.ofInt 64 4294967295).toNat : Int) = _
  rw [h, IntKind.wrap_i64]
  omega
theorem xor64 (a b : Nat) (ha : a < 2 ^ 63) (hb : b < 2 ^ 63) : Go.bits .xor .i64 (a : Int) (b : Int) = ((a ^^^ b : Nat) : Int) := by
  have hx : a ^^^ b < 2 ^ 63 := Nat.xor_lt_two_pow ha hb
  have h : (BitVec.ofInt 64 (a : Int) ^^^ BitVec.ofInt 64 (b : Int)).toNat = a ^^^ b := by
    rw [BitVec.toNat_xor, BitVec.ofInt_natCast, BitVec.ofInt_natCast, BitVec.toNat_ofNat, BitVec.toNat_ofNat, Nat.mod_eq_of_lt (by omega), Nat.mod_eq_of_lt (by omega)]
  show IntKind.i64.wrap ((BitVec.ofInt 64 (a : Int) ^^^ BitVec.ofInt 64 (b : Int)).toNat : Int) = _
  rw [h, IntKind.wrap_i64]
  omega
theorem xor32 (a b : Nat) (ha : a < 2 ^ 32) (hb : b < 2 ^ 32) : Go.bits .xor .u32 (a : Int) (b : Int) = ((a ^^^ b : Nat) : Int) := by
  have hx : a ^^^ b < 2 ^ 32 := Nat.xor_lt_two_pow ha hb
  have h : (BitVec.ofInt 32 (a : Int) ^^^ BitVec.ofInt 32 (b : Int)).toNat = a ^^^ b := by
    rw [BitVec.toNat_xor, BitVec.ofInt_natCast, BitVec.ofInt_natCast, BitVec.toNat_ofNat, BitVec.toNat_ofNat, Nat.mod_eq_of_lt (by omega), Nat.mod_eq_of_lt (by omega)]
  show IntKind.u32.wrap ((BitVec.ofInt 32 (a : Int) ^^^ BitVec.ofInt 32 (b : Int)).toNat : Int) = _
  rw [h, IntKind.wrap_u32]
  omega
theorem xor_same (a b : Int) (ha : 0 ≤ a) (ha' : a < 4294967296) (hb : 0 ≤ b) (hb' : b < 4294967296) : Go.bits .xor .i64 a b = Go.bits .xor .u32 a b ∧ 0 ≤ Go.bits .xor .u32 a b ∧ Go.bits .xor .u32 a b < 4294967296 := by
  obtain ⟨n, rfl⟩ := Int.eq_ofNat_of_zero_le ha
  obtain ⟨m, rfl⟩ := Int.eq_ofNat_of_zero_le hb
  have h1 : n < 2 ^ 32 := by omega
  have h2 : m < 2 ^ 32 := by omega
  have hx : n ^^^ m < 2 ^ 32 := Nat.xor_lt_two_pow h1 h2
  rw [xor64 n m (by omega) (by omega), xor32 n m h1 h2]
  exact ⟨rfl, by omega, by omega⟩

/-- two calls that return the same number: comparing them says true -/
theorem eq_then (x y : Option Int) (h : Int) (hx : x = some h) (hy : y = some h) : (x.bind fun t115 => (y.bind fun t116 => (if t116 = t115 then (some true) else (some false)))) = some true := by
  subst hx hy
  simp
theorem eq_then2 (x y : Option (Int × Int)) (h : Int × Int) (hx : x = some h) (hy : y = some h) : (x.bind fun b1 => (y.bind fun b2 => (if b2.1 = b1.1 then (if b2.2 = b1.2 then (some true) else (some false)) else (some false)))) = some true := by
  subst hx hy
  simp
theorem eq_thenB (x y : Option Bool) (h : Bool) (hx : x = some h) (hy : y = some h) : (x.bind fun t1 => (y.bind fun t2 => (if (t2 != t1) = true then (some false) else (some true)))) = some true := by
  subst hx hy
  simp
end Go.Proofs.Ytlocignlkigojaa.Pure

-- text Qf166
namespace Go.Proofs.Ytlocignlkigojaa.Q
open Go.RowKit Go.Proofs.YtlocignlkigojaaW.PrintWords Go.Proofs.YtlocignlkigojaaW.PrintLast Go.Proofs.YtlocignlkigojaaW.PrintMore
attribute [local go_sem] max2_int min2_int max_two min_two max_three min_three max_four min_four   -- for this text's walks alone
set_option linter.unusedVariables false
set_option linter.unusedSimpArgs false

/-! ### spec_l01Low: function 166 -/
def spec_l01Low.f (a0 : Int) : Option (Int) := some (Go.bits .and .i64 a0 4294967295)
set_option maxHeartbeats 8000000 in
set_option maxRecDepth 100000 in
theorem spec_l01Low.calls (a0 : Int) (r : Int) (w : World) (h : spec_l01Low.f a0 = some r) :
    Calls Try.prog 166 #[.int .i64 a0] w fun e w' => e = .returned (.int .i64 r) ∧ Drawn0 w w' := by
  have H : (some (Go.bits .and .i64 a0 4294967295)) = some r := h
  clear h
  obtain rfl := Option.some.inj H
  go_enter Try.func166, Try.ntmps166
  go_wp2
  go_ret
  exact ⟨by first | rfl | (simp; done) | (simp [*]; done), by repeat (first | exact Drawn0.refl _ | apply Drawn0.step)⟩

end Go.Proofs.Ytlocignlkigojaa.Q

-- text Qf147
namespace Go.Proofs.Ytlocignlkigojaa.Q
open Go.RowKit Go.Proofs.YtlocignlkigojaaW.PrintWords Go.Proofs.YtlocignlkigojaaW.PrintLast Go.Proofs.YtlocignlkigojaaW.PrintMore
attribute [local go_sem] max2_int min2_int max_two min_two max_three min_three max_four min_four   -- for this text's walks alone
set_option linter.unusedVariables false
set_option linter.unusedSimpArgs false

/-! ### spec_l01Mix: function 147 -/
def spec_l01Mix.l0 : Nat → List Int → Int → Int → Option (Int)
  | 0, _, _, _ => none
  | k + 1, x0, x3, x4 => if x4 < (x0.length : Int) then (if 0 ≤ x4 then ((spec_l01Low.f (rd x0 x4)).bind fun t105 => ((spec_l01Low.f (wrap64 ((Go.bits .xor .i64 x3 t105) * 16777619))).bind fun t106 => ((spec_l01Low.f (wrap64 ((Go.bits .xor .i64 t106 (t106 / 32768)) * 1540483477))).bind fun t107 => (spec_l01Mix.l0 k x0 (Go.bits .xor .i64 t107 (t107 / 8192)) (wrap64 (x4 + 1)))))) else (none)) else (some x3)
def spec_l01Mix.f (k : Nat) (l0 : List Int) : Option (Int) := spec_l01Mix.l0 k l0 2166136261 0
theorem spec_l01Mix.mono_l : ∀ k, (∀ y0 y1 y2, LeO (spec_l01Mix.l0 k y0 y1 y2) (spec_l01Mix.l0 (k + 1) y0 y1 y2))
  | 0 => fun _ _ _ r h => by simp [spec_l01Mix.l0] at h
  | k + 1 => by
    have ih0 := spec_l01Mix.mono_l k
    · intro y0 y1 y2
      unfold spec_l01Mix.l0
      repeat' first
      | (with_reducible exact ih0 _ _ _)
      | (with_reducible exact LeO.refl _)
      | (with_reducible exact LeO.none _)
      | (with_reducible refine LeO.ite ?_ ?_)
      | (with_reducible refine LeO.bind ?_ (fun _ => ?_))
      | exact ih0 _ _ _
      | exact LeO.none _
      | refine LeO.ite ?_ ?_
      | refine LeO.bind ?_ (fun _ => ?_)
theorem spec_l01Mix.mono : ∀ a0 k, LeO (spec_l01Mix.f k a0) (spec_l01Mix.f (k + 1) a0) := by
  intro a0 k
  have ih0 := spec_l01Mix.mono_l k
  unfold spec_l01Mix.f
  repeat' first
      | (with_reducible exact ih0 _ _ _)
      | (with_reducible exact LeO.refl _)
      | (with_reducible exact LeO.none _)
      | (with_reducible refine LeO.ite ?_ ?_)
      | (with_reducible refine LeO.bind ?_ (fun _ => ?_))
      | exact ih0 _ _ _
      | exact LeO.none _
      | refine LeO.ite ?_ ?_
      | refine LeO.bind ?_ (fun _ => ?_)
set_option maxHeartbeats 8000000 in
set_option maxRecDepth 100000 in
theorem spec_l01Mix.calls (k : Nat) (A0 : Option Addr) (c0 : Nat) (l0 : List Int) (r : Int) (w : World) (hr0 : Kd.C (Kd.int .i64) w A0 l0.length l0) (hc0 : l0.length ≤ c0) (h : spec_l01Mix.f k l0 = some r) :
    Calls Try.prog 147 #[.slice A0 l0.length c0] w fun e w' => e = .returned (.int .i64 r) ∧ Drawn0 w w' := by
  have HR0 := Aside0.mk hr0
  have HC0 := Aside0.mk hc0
  clear hr0 hc0
  have H : (spec_l01Mix.l0 k l0 2166136261 0) = some r := h
  clear h
  have H' := Aside0.mk H
  clear H
  go_enter Try.func147, Try.ntmps147
  go_wp2
  go_loopg [3, 4] k (fun kq v3 v4 w' => ∃ (x3_1 : Int) (x4_1 : Int), v3 = .int .i64 x3_1 ∧ v4 = .int .i64 x4_1 ∧ Aside0 (spec_l01Mix.l0 kq l0 x3_1 x4_1 = some r) ∧ Aside0 (kq ≤ k) ∧ Drawn0 w w')
  case atStart => exact ⟨(2166136261), (0), (by first | rfl | (simp; done) | (simp [*]; done)), (by first | rfl | (simp; done) | (simp [*]; done)), H', ⟨Nat.le_refl _⟩, by repeat (first | exact Drawn0.refl _ | apply Drawn0.step)⟩
  case round =>
    clear H'
    try clear c1
    obtain ⟨x3_1, x4_1, rfl, rfl, HA, HK1, ⟨m1, rfl⟩⟩ := hrel
    cases gk with
    | zero => exact absurd HA.out (by simp [spec_l01Mix.l0])
    | succ k1 =>
      have H := HA.out
      clear HA
      simp only [spec_l01Mix.l0] at H
      by_cases c2 : x4_1 < (l0.length : Int)
      · rw [if_pos c2] at H
        have c2b0 : decide (x4_1 < (l0.length : Int)) = true := decide_eq_true c2
        clear c2
        by_cases c3 : 0 ≤ x4_1
        · rw [if_pos c3] at H
          have c3b0 : decide (0 ≤ x4_1) = true := decide_eq_true c3
          clear c3
          replace H := Option.bind_eq_some_iff.mp H
          obtain ⟨t105, A40, H⟩ := H
          replace H : ((spec_l01Low.f (wrap64 ((Go.bits .xor .i64 x3_1 t105) * 16777619))).bind fun t106 => ((spec_l01Low.f (wrap64 ((Go.bits .xor .i64 t106 (t106 / 32768)) * 1540483477))).bind fun t107 => (spec_l01Mix.l0 k1 l0 (Go.bits .xor .i64 t107 (t107 / 8192)) (wrap64 (x4_1 + 1))))) = some r := H
          have A4 := Aside0.mk A40
          clear A40
          replace H := Option.bind_eq_some_iff.mp H
          obtain ⟨t106, A50, H⟩ := H
          replace H : ((spec_l01Low.f (wrap64 ((Go.bits .xor .i64 t106 (t106 / 32768)) * 1540483477))).bind fun t107 => (spec_l01Mix.l0 k1 l0 (Go.bits .xor .i64 t107 (t107 / 8192)) (wrap64 (x4_1 + 1)))) = some r := H
          have A5 := Aside0.mk A50
          clear A50
          replace H := Option.bind_eq_some_iff.mp H
          obtain ⟨t107, A60, H⟩ := H
          replace H : (spec_l01Mix.l0 k1 l0 (Go.bits .xor .i64 t107 (t107 / 8192)) (wrap64 (x4_1 + 1))) = some r := H
          have A6 := Aside0.mk A60
          clear A60
          have H' := Aside0.mk H
          clear H
          have p104 : 0 ≤ (x4_1 : Int) := of_decide_eq_true (by first | (with_reducible assumption) | assumption)
          have q104 : x4_1 < (l0.length : Int) := of_decide_eq_true (by first | (with_reducible assumption) | assumption)
          obtain ⟨ad104, e104, hx104_0⟩ := Kd.at_int HR0.out x4_1 p104 q104
          cases e104
          replace p104 := eq_true p104
          replace q104 := eq_true q104
          go_wp2_with (first | ((with_reducible refine gate_callee (f := 166) rfl ?_); refine goesL_ (some 16) rfl rfl Try.func166 (by kernel_rfl) rfl #[.int .i64 (rd l0 x4_1)] rfl (by (try simp only [List.map_toArray, List.map_cons, List.map_nil]); first | done | rfl | (simp only [List.length_drop, List.length_take]; rfl)) ?_; (with_reducible refine (spec_l01Low.calls (rd l0 x4_1) t105 _ A4.out).mono ?_); rintro e w' ⟨rfl, ⟨nd, rfl⟩⟩; refine ⟨_, rfl, ?_⟩) | ((with_reducible refine gate_callee (f := 166) rfl ?_); refine goesL_ (some 19) rfl rfl Try.func166 (by kernel_rfl) rfl #[.int .i64 (wrap64 ((Go.bits .xor .i64 x3_1 t105) * 16777619))] rfl (by (try simp only [List.map_toArray, List.map_cons, List.map_nil]); first | done | rfl | (simp only [List.length_drop, List.length_take]; rfl)) ?_; (with_reducible refine (spec_l01Low.calls (wrap64 ((Go.bits .xor .i64 x3_1 t105) * 16777619)) t106 _ A5.out).mono ?_); rintro e w' ⟨rfl, ⟨nd, rfl⟩⟩; refine ⟨_, rfl, ?_⟩) | ((with_reducible refine gate_callee (f := 166) rfl ?_); refine goesL_ (some 26) rfl rfl Try.func166 (by kernel_rfl) rfl #[.int .i64 (wrap64 ((Go.bits .xor .i64 t106 (t106 / 32768)) * 1540483477))] rfl (by (try simp only [List.map_toArray, List.map_cons, List.map_nil]); first | done | rfl | (simp only [List.length_drop, List.length_take]; rfl)) ?_; (with_reducible refine (spec_l01Low.calls (wrap64 ((Go.bits .xor .i64 t106 (t106 / 32768)) * 1540483477)) t107 _ A6.out).mono ?_); rintro e w' ⟨rfl, ⟨nd, rfl⟩⟩; refine ⟨_, rfl, ?_⟩))
          go_roundg k1
          case measure => have := HK1.out; omega
          case rel => exact ⟨(Go.bits .xor .i64 t107 (t107 / 8192)), (wrap64 (x4_1 + 1)), (by first | rfl | (simp; done) | (simp [*]; done)), (by first | rfl | (simp; done) | (simp [*]; done)), H', ⟨by have := HK1.out; omega⟩, by repeat (first | exact Drawn0.refl _ | apply Drawn0.step)⟩
        · rw [if_neg c3] at H
          exact absurd H (by simp)
      · rw [if_neg c2] at H
        have c2b0 : decide (x4_1 < (l0.length : Int)) = false := decide_eq_false c2
        clear c2
        obtain rfl := Option.some.inj H
        go_wp2
        go_ret
        exact ⟨by first | rfl | (simp; done) | (simp [*]; done), by repeat (first | exact Drawn0.refl _ | apply Drawn0.step)⟩

end Go.Proofs.Ytlocignlkigojaa.Q

-- text OMix
namespace Go.Proofs.Ytlocignlkigojaa.Pure
open Go.RowKit Go.Proofs.Ytlocignlkigojaa.Q Go.Proofs.YtlocignlkigojaaW.PrintWords Go.Proofs.YtlocignlkigojaaW.PrintLast Go.Proofs.YtlocignlkigojaaW.PrintMore
set_option linter.unusedVariables false
set_option linter.unusedSimpArgs false

def mixA (h x : Int) : Int := (Go.bits .xor .u32 h (x % 4294967296) * 16777619) % 4294967296
def mixB (a : Int) : Int := (Go.bits .xor .u32 a (a / 32768) * 1540483477) % 4294967296
def mixC (b : Int) : Int := Go.bits .xor .u32 b (b / 8192)
def mixStep (h x : Int) : Int := mixC (mixB (mixA h x))
def mixL (l : List Int) (h : Int) : Int := l.foldl mixStep h
theorem mixA_range (h x : Int) : 0 ≤ mixA h x ∧ mixA h x < 4294967296 := by unfold mixA; omega
theorem mixB_range (a : Int) : 0 ≤ mixB a ∧ mixB a < 4294967296 := by unfold mixB; omega
theorem mixC_range (b : Int) (h0 : 0 ≤ b) (h1 : b < 4294967296) : 0 ≤ mixC b ∧ mixC b < 4294967296 := (xor_same b (b / 8192) h0 h1 (by omega) (by omega)).2
theorem mixStep_range (h x : Int) : 0 ≤ mixStep h x ∧ mixStep h x < 4294967296 := mixC_range _ (mixB_range _).1 (mixB_range _).2
theorem mixL_range : ∀ (l : List Int) (h : Int), 0 ≤ h → h < 4294967296 → 0 ≤ mixL l h ∧ mixL l h < 4294967296
  | [], _, h0, h1 => ⟨h0, h1⟩
  | x :: l, h, _, _ => mixL_range l (mixStep h x) (mixStep_range h x).1 (mixStep_range h x).2
theorem mixL_drop (l : List Int) (i : Int) (h0 : 0 ≤ i) (h1 : i < l.length) (h : Int) : mixL (l.drop i.toNat) h = mixL (l.drop (i + 1).toNat) (mixStep h (rd l i)) := by
  obtain ⟨n, rfl⟩ := Int.eq_ofNat_of_zero_le h0
  have hl : n < l.length := by omega
  have e : ((n : Int) + 1).toNat = n + 1 := by omega
  have er : rd l n = l[n] := by
    unfold rd
    rw [Int.toNat_natCast, List.getD_eq_getElem?_getD, List.getElem?_eq_getElem hl]; rfl
  rw [e, er, Int.toNat_natCast, List.drop_eq_getElem_cons hl]
  rfl
theorem wrap_small (x : Int) (h0 : 0 ≤ x) (h1 : x < 4294967296) : wrap64 x = x := by unfold wrap64; omega
theorem wrap_next (i : Int) (h0 : 0 ≤ i) (h1 : i < 9223372036854775807) : wrap64 (i + 1) = i + 1 := by unfold wrap64; omega
theorem wrap_mod (x : Int) : wrap64 x % 4294967296 = x % 4294967296 := by unfold wrap64; omega

theorem impl_mix (l : List Int) (hm : (l.length : Int) ≤ 9223372036854775807) (d : Nat) : ∀ (k : Nat) (h i : Int), 0 ≤ h → h < 4294967296 → 0 ≤ i → i ≤ l.length → (l.length : Int) - i = d → d < k →
    impl_Mix.l0 k h l (l.length : Int) i = some (mixL (l.drop i.toNat) h) := by
  induction d with
  | zero =>
    intro k h i a0 a1 h0 h1 hd hk
    obtain ⟨k, rfl⟩ : ∃ m, k = m + 1 := ⟨k - 1, by omega⟩
    simp only [impl_Mix.l0]
    rw [if_neg (by omega), wrap_small h a0 a1, List.drop_of_length_le (by omega)]
    rfl
  | succ d ih =>
    intro k h i a0 a1 h0 h1 hd hk
    obtain ⟨k, rfl⟩ : ∃ m, k = m + 1 := ⟨k - 1, by omega⟩
    have hlt : i < (l.length : Int) := by omega
    rw [mixL_drop l i h0 hlt h, ← ih k _ (i + 1) (mixStep_range h (rd l i)).1 (mixStep_range h (rd l i)).2 (by omega) (by omega) (by omega) (by omega)]
    simp only [impl_Mix.l0]
    rw [if_pos hlt, if_pos h0, if_pos hlt, wrap_next i h0 (by omega)]
    rfl
theorem spec_mix (l : List Int) (hm : (l.length : Int) ≤ 9223372036854775807) (d : Nat) : ∀ (k : Nat) (h i : Int), 0 ≤ h → h < 4294967296 → 0 ≤ i → i ≤ l.length → (l.length : Int) - i = d → d < k →
    spec_l01Mix.l0 k l h i = some (mixL (l.drop i.toNat) h) := by
  induction d with
  | zero =>
    intro k h i a0 a1 h0 h1 hd hk
    obtain ⟨k, rfl⟩ : ∃ m, k = m + 1 := ⟨k - 1, by omega⟩
    simp only [spec_l01Mix.l0]
    rw [if_neg (by omega), List.drop_of_length_le (by omega)]
    rfl
  | succ d ih =>
    intro k h i a0 a1 h0 h1 hd hk
    obtain ⟨k, rfl⟩ : ∃ m, k = m + 1 := ⟨k - 1, by omega⟩
    have hlt : i < (l.length : Int) := by omega
    rw [mixL_drop l i h0 hlt h, ← ih k _ (i + 1) (mixStep_range h (rd l i)).1 (mixStep_range h (rd l i)).2 (by omega) (by omega) (by omega) (by omega)]
    simp only [spec_l01Mix.l0, spec_l01Low.f, Option.bind_some]
    rw [if_pos hlt, if_pos h0, wrap_next i h0 (by omega), and32, and32, and32, wrap_mod, wrap_mod]
    have x1 := (xor_same h (rd l i % 4294967296) a0 a1 (by omega) (by omega)).1
    rw [x1]
    have x2 := mixA_range h (rd l i)
    have x3 := (xor_same (mixA h (rd l i)) (mixA h (rd l i) / 32768) x2.1 x2.2 (by omega) (by omega)).1
    have x4 := mixB_range (mixA h (rd l i))
    have x5 := (xor_same (mixB (mixA h (rd l i))) (mixB (mixA h (rd l i)) / 8192) x4.1 x4.2 (by omega) (by omega)).1
    show spec_l01Mix.l0 k l (Go.bits .xor .i64 ((Go.bits .xor .i64 (mixA h (rd l i)) (mixA h (rd l i) / 32768) * 1540483477) % 4294967296) (((Go.bits .xor .i64 (mixA h (rd l i)) (mixA h (rd l i) / 32768) * 1540483477) % 4294967296) / 8192)) (i + 1) = _
    rw [x3]
    show spec_l01Mix.l0 k l (Go.bits .xor .i64 (mixB (mixA h (rd l i))) (mixB (mixA h (rd l i)) / 8192)) (i + 1) = _
    rw [x5]
    rfl
/-- the hash of a list of words -/
def hash (l : List Int) : Int := mixL l 2166136261
theorem hash_range (l : List Int) : 0 ≤ hash l ∧ hash l < 4294967296 := mixL_range l _ (by decide) (by decide)
theorem impl_Mix_hash (l : List Int) (hm : (l.length : Int) ≤ 9223372036854775807) (k : Nat) (hk : l.length < k) : impl_Mix.f k l = some (hash l) :=
  impl_mix l hm l.length k _ 0 (by decide) (by decide) (by omega) (by omega) (by omega) hk
theorem spec_Mix_hash (l : List Int) (hm : (l.length : Int) ≤ 9223372036854775807) (k : Nat) (hk : l.length < k) : spec_l01Mix.f k l = some (hash l) :=
  spec_mix l hm l.length k _ 0 (by decide) (by decide) (by omega) (by omega) (by omega) hk

end Go.Proofs.Ytlocignlkigojaa.Pure

-- text Qf141
namespace Go.Proofs.Ytlocignlkigojaa.Q
open Go.RowKit Go.Proofs.YtlocignlkigojaaW.PrintWords Go.Proofs.YtlocignlkigojaaW.PrintLast Go.Proofs.YtlocignlkigojaaW.PrintMore
attribute [local go_sem] max2_int min2_int max_two min_two max_three min_three max_four min_four   -- for this text's walks alone
set_option linter.unusedVariables false
set_option linter.unusedSimpArgs false

/-! ### spec_l07Ticket: function 141 -/
def spec_l07Ticket.f (k : Nat) (a0 : Int) (a1 : Int) (a2 : Int) (a3 : Int) : Option (Int) := (spec_l01Mix.f k (([a2, a3, a0, a1] : List Int))).bind fun t111 => (some t111)
theorem spec_l07Ticket.mono : ∀ a0 a1 a2 a3 k, LeO (spec_l07Ticket.f k a0 a1 a2 a3) (spec_l07Ticket.f (k + 1) a0 a1 a2 a3) := by
  intro a0 a1 a2 a3 k
  unfold spec_l07Ticket.f
  repeat' first
      | (with_reducible exact spec_l01Mix.mono _ _)
      | (with_reducible exact LeO.refl _)
      | (with_reducible exact LeO.none _)
      | (with_reducible refine LeO.ite ?_ ?_)
      | (with_reducible refine LeO.bind ?_ (fun _ => ?_))
      | exact spec_l01Mix.mono _ _
      | exact LeO.none _
      | refine LeO.ite ?_ ?_
      | refine LeO.bind ?_ (fun _ => ?_)
set_option maxHeartbeats 8000000 in
set_option maxRecDepth 100000 in
theorem spec_l07Ticket.calls (k : Nat) (a0 : Int) (a1 : Int) (a2 : Int) (a3 : Int) (r : Int) (w : World) (h : spec_l07Ticket.f k a0 a1 a2 a3 = some r) :
    Calls Try.prog 141 #[.int .i64 a0, .int .i64 a1, .int .i64 a2, .int .i64 a3] w fun e w' => e = .returned (.int .i64 r) ∧ Below w.heap.size w w' := by
  have HB := Aside0.mk (Below.refl w.heap.size w)
  have H : ((spec_l01Mix.f k (([a2, a3, a0, a1] : List Int))).bind fun t111 => (some t111)) = some r := h
  clear h
  obtain ⟨y108, hy108⟩ : ∃ y_ : List Int, y_ = (([a2, a3, a0, a1] : List Int)) := ⟨_, rfl⟩
  replace H : ((spec_l01Mix.f k y108).bind fun t111 => (some t111)) = some r := by first | (rw [hy108]; with_reducible exact H) | (have H2_ := (Option.bind_some _ _).symm.trans H; rw [hy108]; with_reducible exact H2_) | (have H2_ := (Option.bind_some _ _).symm.trans H; with_reducible exact H2_) | with_reducible exact H | (rw [hy108]; exact H) | exact H
  have Ny108 := Aside0.mk hy108
  clear hy108
  replace H := Option.bind_eq_some_iff.mp H
  obtain ⟨t111, A50, H⟩ := H
  replace H : (some t111) = some r := H
  have A5 := Aside0.mk A50
  clear A50
  obtain rfl := Option.some.inj H
  go_enter Try.func141, Try.ntmps141
  go_wp2_with (first | ((with_reducible refine gate_dst (N := 13) rfl ?_); refine Kd.R_lit (Kd.int .i64) _ 2 ?hg (N := 13) ?hd (xs := ([a2, a3, a0, a1] : List Int)) (inner := [.int .i64 a2, .int .i64 a3, .int .i64 a0, .int .i64 a1]) (ok := fun _ => True) (okp := fun _ => True) ?hr ?hp (fun _ hk => hk) trivial (Below.refl _ _) (Nat.le_refl _) (by simp) ?_; (case hd => rfl); (case hg => rfl); (case hr => first | (go_simp; done) | (go_simp; rfl)); (case hp => exact (Reps.one (show Kd.M (Kd.int .i64) _ _ _ a2 [.int .i64 a2] from rfl) (Reps.one (show Kd.M (Kd.int .i64) _ _ _ a3 [.int .i64 a3] from rfl) (Reps.one (show Kd.M (Kd.int .i64) _ _ _ a0 [.int .i64 a0] from rfl) (Reps.one (show Kd.M (Kd.int .i64) _ _ _ a1 [.int .i64 a1] from rfl) (Reps.none _ _)))))); intro v109 w6 ho7 hb hg_ hnew_; clear hg_ hnew_; (first | rw [← Ny108.out] at ho7 | (simp only [Int.reduceToNat] at ho7; rw [← Ny108.out] at ho7)); have n0_ := Aside0.mk (Kd.R_lower ho7 (below_size (by repeat (first | (with_reducible first | exact HB.out | apply below_alloc | apply pw_below_drewN | apply below_drew1) | exact HB.out)))); have n1_ := Aside0.mk (below_step (by repeat (first | (with_reducible first | exact HB.out | apply below_alloc | apply pw_below_drewN | apply below_drew1) | exact HB.out)) hb); clear HB; have HO110 := n0_; have HB := n1_; clear n0_ n1_; clear hb ho7; obtain ⟨Ao8, co8, eo8⟩ := Kd.R_slice HO110.out; subst eo8) | ((with_reducible refine gate_callee (f := 147) rfl ?_); refine goesL_ (some 14) rfl rfl Try.func147 (by kernel_rfl) rfl #[.slice Ao8 y108.length co8] rfl (by (try simp only [List.map_toArray, List.map_cons, List.map_nil]); first | done | rfl | (simp only [List.length_drop, List.length_take]; rfl)) ?_; (with_reducible refine (spec_l01Mix.calls k _ _ y108 t111 _ ?side1 ?side2 A5.out).mono ?_); (case side1 => repeat (first | exact (Kd.R_reads' HO110.out).2.2 | (with_reducible refine Kd.C_alloc ?_ _) | (with_reducible refine Kd.C_drewN ?_ _) | (with_reducible refine Kd.C_drew ?_))); (case side2 => exact (Kd.R_reads' HO110.out).2.1); rintro e w' ⟨rfl, ⟨nd, rfl⟩⟩; refine ⟨_, rfl, ?_⟩))
  go_ret
  exact ⟨by first | rfl | (simp [errW_none, errW_some] <;> rfl) | (simp [*, errW_none, errW_some] <;> rfl), by repeat (first | (with_reducible first | exact HB.out | apply below_alloc | apply pw_below_drewN | apply below_drew1) | exact HB.out)⟩

end Go.Proofs.Ytlocignlkigojaa.Q

-- text OTicket
namespace Go.Proofs.Ytlocignlkigojaa.Pure
open Go.RowKit Go.Proofs.Ytlocignlkigojaa.Q Go.Proofs.YtlocignlkigojaaW.PrintWords Go.Proofs.YtlocignlkigojaaW.PrintLast
set_option linter.unusedVariables false
set_option linter.unusedSimpArgs false

theorem four_short (a b c d : Int) : (([a, b, c, d] : List Int).length : Int) ≤ 9223372036854775807 := by
  simp only [List.length_cons, List.length_nil]; omega
theorem spec_ticket7 (a0 a1 a2 a3 : Int) (k : Nat) (hk : 4 < k) : spec_l07Ticket.f k a0 a1 a2 a3 = some (hash [a2, a3, a0, a1]) := by
  unfold spec_l07Ticket.f
  rw [spec_Mix_hash _ (four_short a2 a3 a0 a1) k hk]
  simp only [Option.bind_some]
theorem impl_ticket (a0 a1 a2 a3 : Int) (k : Nat) (hk : 4 < k) : impl_TicketOf.f k a0 a1 a2 a3 = some (hash [a2, a3, a0, a1]) := by
  unfold impl_TicketOf.f
  rw [impl_Mix_hash _ (four_short a2 a3 a0 a1) k hk]
  simp only [Option.bind_some]

end Go.Proofs.Ytlocignlkigojaa.Pure

-- text Qf82
namespace Go.Proofs.Ytlocignlkigojaa.Q
open Go.RowKit Go.Proofs.YtlocignlkigojaaW.PrintWords Go.Proofs.YtlocignlkigojaaW.PrintLast Go.Proofs.YtlocignlkigojaaW.PrintMore
attribute [local go_sem] max2_int min2_int max_two min_two max_three min_three max_four min_four   -- for this text's walks alone
set_option linter.unusedVariables false
set_option linter.unusedSimpArgs false

/-! ### spec_l07Item: function 82 -/
def spec_l07Item.f (a0_0 : Int) (a0_1 : Int) : Option (Bool) := (spec_l00In.f a0_0 (-12) 15).bind fun t102 => (if t102 = true then ((spec_l00In.f a0_1 0 128).bind fun t103 => (some t103)) else (some false))
set_option maxHeartbeats 8000000 in
set_option maxRecDepth 100000 in
theorem spec_l07Item.calls (a0_0 : Int) (a0_1 : Int) (r : Bool) (w : World) (h : spec_l07Item.f a0_0 a0_1 = some r) :
    Calls Try.prog 82 #[.agg #[.int .i64 a0_0, .int .i64 a0_1]] w fun e w' => e = .returned (.bool r) ∧ Below w.heap.size w w' := by
  have hu26 := Try.underlying26
  have HB := Aside0.mk (Below.refl w.heap.size w)
  have H : ((spec_l00In.f a0_0 (-12) 15).bind fun t102 => (if t102 = true then ((spec_l00In.f a0_1 0 128).bind fun t103 => (some t103)) else (some false))) = some r := h
  clear h
  replace H := Option.bind_eq_some_iff.mp H
  obtain ⟨t102, A20, H⟩ := H
  replace H : (if t102 = true then ((spec_l00In.f a0_1 0 128).bind fun t103 => (some t103)) else (some false)) = some r := H
  have A2 := Aside0.mk A20
  clear A20
  by_cases c3 : t102 = true
  · subst c3
    have H1 : ((spec_l00In.f a0_1 0 128).bind fun t103 => (some t103)) = some r := by rw [if_pos rfl] at H; exact H
    clear H
    have H := H1
    clear H1
    replace H := Option.bind_eq_some_iff.mp H
    obtain ⟨t103, A40, H⟩ := H
    replace H : (some t103) = some r := H
    have A4 := Aside0.mk A40
    clear A40
    obtain rfl := Option.some.inj H
    go_enter Try.func82, Try.ntmps82
    go_wp2_with (first | ((with_reducible refine gate_dst (N := 1) rfl ?_); refine box_event ?hg (N := 1) ?hd (cs := #[.int .i64 a0_0, .int .i64 a0_1]) (t := 26) ?hr ?_; (case hd => rfl); (case hg => rfl); (case hr => first | (go_simp; done) | (go_simp; rfl)); intro gb101 hg w5 hbox hb; have n0_ := Aside0.mk (below_step (by repeat (first | (with_reducible first | exact HB.out | apply below_alloc | apply pw_below_drewN | apply below_drew1) | exact HB.out)) hb); have n1_ := Aside0.mk (hbox); have n2_ := Aside0.mk ((by rw [hg]; exact (below_size (by repeat (first | (with_reducible first | exact HB.out | apply below_alloc | apply pw_below_drewN | apply below_drew1) | exact HB.out))) : w.heap.size ≤ gb101)); have n3_ := Aside0.mk ((by rw [hg]; exact (below_size (by repeat (first | (with_reducible first | exact HB.out | apply below_alloc | apply pw_below_drewN | apply below_drew1) | exact HB.out))) : w.heap.size ≤ gb101)); clear HB; have HB := n0_; have BK101 := n1_; have GW101 := n2_; have GE101 := n3_; clear n0_ n1_ n2_ n3_; clear hb hbox hg; have hcz6_0 : w5.cell? ⟨gb101, 0, none⟩ = some (.int .i64 a0_0) := (blk_cell BK101.out 0).trans rfl; have hcz6_1 : w5.cell? ⟨gb101, 1, none⟩ = some (.int .i64 a0_1) := (blk_cell BK101.out 1).trans rfl; have hfz6_0 := blk_frozen BK101.out 0; have hfz6_1 := blk_frozen BK101.out 1) | ((with_reducible refine gate_callee (f := 96) rfl ?_); refine goesL_ (some 5) rfl rfl Try.func96 (by kernel_rfl) rfl #[.int .i64 a0_0, .int .i64 (-12), .int .i64 15] rfl (by (try simp only [List.map_toArray, List.map_cons, List.map_nil]); first | done | rfl | (simp only [List.length_drop, List.length_take]; rfl)) ?_; (with_reducible refine (spec_l00In.calls a0_0 (-12) 15 true _ A2.out).mono ?_); rintro e w' ⟨rfl, ⟨nd, rfl⟩⟩; refine ⟨_, rfl, ?_⟩) | (go_at_call 96; (with_reducible refine (spec_l00In.calls a0_1 0 128 t103 _ A4.out).mono ?_); rintro e w' ⟨rfl, ⟨nd, rfl⟩⟩))
    go_ret
    exact ⟨by first | rfl | (simp [errW_none, errW_some] <;> rfl) | (simp [*, errW_none, errW_some] <;> rfl), by repeat (first | (with_reducible first | exact HB.out | apply below_alloc | apply pw_below_drewN | apply below_drew1 | refine below_set ?_ GE101.out) | exact HB.out)⟩
  · replace c3 := Bool.eq_false_iff.mpr c3
    subst c3
    have H1 : (some false) = some r := by rw [if_neg (show ¬ (false = true) by decide)] at H; exact H
    clear H
    have H := H1
    clear H1
    obtain rfl := Option.some.inj H
    go_enter Try.func82, Try.ntmps82
    go_wp2_with (first | ((with_reducible refine gate_dst (N := 1) rfl ?_); refine box_event ?hg (N := 1) ?hd (cs := #[.int .i64 a0_0, .int .i64 a0_1]) (t := 26) ?hr ?_; (case hd => rfl); (case hg => rfl); (case hr => first | (go_simp; done) | (go_simp; rfl)); intro gb101 hg w7 hbox hb; have n0_ := Aside0.mk (below_step (by repeat (first | (with_reducible first | exact HB.out | apply below_alloc | apply pw_below_drewN | apply below_drew1) | exact HB.out)) hb); have n1_ := Aside0.mk (hbox); have n2_ := Aside0.mk ((by rw [hg]; exact (below_size (by repeat (first | (with_reducible first | exact HB.out | apply below_alloc | apply pw_below_drewN | apply below_drew1) | exact HB.out))) : w.heap.size ≤ gb101)); have n3_ := Aside0.mk ((by rw [hg]; exact (below_size (by repeat (first | (with_reducible first | exact HB.out | apply below_alloc | apply pw_below_drewN | apply below_drew1) | exact HB.out))) : w.heap.size ≤ gb101)); clear HB; have HB := n0_; have BK101 := n1_; have GW101 := n2_; have GE101 := n3_; clear n0_ n1_ n2_ n3_; clear hb hbox hg; have hcz8_0 : w7.cell? ⟨gb101, 0, none⟩ = some (.int .i64 a0_0) := (blk_cell BK101.out 0).trans rfl; have hcz8_1 : w7.cell? ⟨gb101, 1, none⟩ = some (.int .i64 a0_1) := (blk_cell BK101.out 1).trans rfl; have hfz8_0 := blk_frozen BK101.out 0; have hfz8_1 := blk_frozen BK101.out 1) | ((with_reducible refine gate_callee (f := 96) rfl ?_); refine goesL_ (some 5) rfl rfl Try.func96 (by kernel_rfl) rfl #[.int .i64 a0_0, .int .i64 (-12), .int .i64 15] rfl (by (try simp only [List.map_toArray, List.map_cons, List.map_nil]); first | done | rfl | (simp only [List.length_drop, List.length_take]; rfl)) ?_; (with_reducible refine (spec_l00In.calls a0_0 (-12) 15 false _ A2.out).mono ?_); rintro e w' ⟨rfl, ⟨nd, rfl⟩⟩; refine ⟨_, rfl, ?_⟩))
    go_ret
    exact ⟨by first | rfl | (simp [errW_none, errW_some] <;> rfl) | (simp [*, errW_none, errW_some] <;> rfl), by repeat (first | (with_reducible first | exact HB.out | apply below_alloc | apply pw_below_drewN | apply below_drew1 | refine below_set ?_ GE101.out) | exact HB.out)⟩

end Go.Proofs.Ytlocignlkigojaa.Q

-- text Qf86
namespace Go.Proofs.Ytlocignlkigojaa.Q
open Go.RowKit Go.Proofs.YtlocignlkigojaaW.PrintWords Go.Proofs.YtlocignlkigojaaW.PrintLast Go.Proofs.YtlocignlkigojaaW.PrintMore
attribute [local go_sem] max2_int min2_int max_two min_two max_three min_three max_four min_four   -- for this text's walks alone
set_option linter.unusedVariables false
set_option linter.unusedSimpArgs false

/-! ### spec_l07OK: function 86 -/
mutual
def spec_l07OK.l0 : Nat → List (S26) → Int → Option (Bool)
  | 0, _, _ => none
  | k + 1, x0, x3 => if x3 < (x0.length : Int) then (if 0 ≤ x3 then ((spec_l07Item.f ((rd_T26 x0 x3).f0) ((rd_T26 x0 x3).f1)).bind fun t144 => (if t144 = true then (spec_l07OK.l1 k x0 x3 0) else (some false))) else (none)) else (some true)
def spec_l07OK.l1 : Nat → List (S26) → Int → Int → Option (Bool)
  | 0, _, _, _ => none
  | k + 1, x0, x3, x4 => if x4 < x3 then (if 0 ≤ x4 then (if x4 < (x0.length : Int) then (if 0 ≤ x3 then (if x3 < (x0.length : Int) then (if ((rd_T26 x0 x4).f0) = ((rd_T26 x0 x3).f0) then (some false) else (spec_l07OK.l1 k x0 x3 (wrap64 (x4 + 1)))) else (none)) else (none)) else (none)) else (none)) else (spec_l07OK.l0 k x0 (wrap64 (x3 + 1)))
end
def spec_l07OK.f (k : Nat) (l0 : List (S26)) : Option (Bool) := if (l0.length : Int) > 8 then (some false) else (spec_l07OK.l0 k l0 0)
theorem spec_l07OK.mono_l : ∀ k, (∀ y0 y1, LeO (spec_l07OK.l0 k y0 y1) (spec_l07OK.l0 (k + 1) y0 y1)) ∧ (∀ y0 y1 y2, LeO (spec_l07OK.l1 k y0 y1 y2) (spec_l07OK.l1 (k + 1) y0 y1 y2))
  | 0 => ⟨fun _ _ r h => by simp [spec_l07OK.l0] at h, fun _ _ _ r h => by simp [spec_l07OK.l1] at h⟩
  | k + 1 => by
    obtain ⟨ih0, ih1⟩ := spec_l07OK.mono_l k
    refine ⟨?_, ?_⟩
    · intro y0 y1
      unfold spec_l07OK.l0
      repeat' first
      | (with_reducible exact ih0 _ _)
      | (with_reducible exact ih1 _ _ _)
      | (with_reducible exact LeO.refl _)
      | (with_reducible exact LeO.none _)
      | (with_reducible refine LeO.ite ?_ ?_)
      | (with_reducible refine LeO.bind ?_ (fun _ => ?_))
      | exact ih0 _ _
      | exact ih1 _ _ _
      | exact LeO.none _
      | refine LeO.ite ?_ ?_
      | refine LeO.bind ?_ (fun _ => ?_)
    · intro y0 y1 y2
      unfold spec_l07OK.l1
      repeat' first
      | (with_reducible exact ih0 _ _)
      | (with_reducible exact ih1 _ _ _)
      | (with_reducible exact LeO.refl _)
      | (with_reducible exact LeO.none _)
      | (with_reducible refine LeO.ite ?_ ?_)
      | (with_reducible refine LeO.bind ?_ (fun _ => ?_))
      | exact ih0 _ _
      | exact ih1 _ _ _
      | exact LeO.none _
      | refine LeO.ite ?_ ?_
      | refine LeO.bind ?_ (fun _ => ?_)
theorem spec_l07OK.mono : ∀ a0 k, LeO (spec_l07OK.f k a0) (spec_l07OK.f (k + 1) a0) := by
  intro a0 k
  obtain ⟨ih0, ih1⟩ := spec_l07OK.mono_l k
  unfold spec_l07OK.f
  repeat' first
      | (with_reducible exact ih0 _ _)
      | (with_reducible exact ih1 _ _ _)
      | (with_reducible exact LeO.refl _)
      | (with_reducible exact LeO.none _)
      | (with_reducible refine LeO.ite ?_ ?_)
      | (with_reducible refine LeO.bind ?_ (fun _ => ?_))
      | exact ih0 _ _
      | exact ih1 _ _ _
      | exact LeO.none _
      | refine LeO.ite ?_ ?_
      | refine LeO.bind ?_ (fun _ => ?_)
set_option maxHeartbeats 8000000 in
set_option maxRecDepth 100000 in
theorem spec_l07OK.calls (k : Nat) (A0 : Option Addr) (c0 : Nat) (l0 : List (S26)) (r : Bool) (w : World) (hr0 : Kd.C k26 w A0 l0.length l0) (hc0 : l0.length ≤ c0) (h : spec_l07OK.f k l0 = some r) :
    Calls Try.prog 86 #[.slice A0 l0.length c0] w fun e w' => e = .returned (.bool r) ∧ Below w.heap.size w w' := by
  have hu26 := Try.underlying26
  have HR0 := Aside0.mk hr0
  have HC0 := Aside0.mk hc0
  clear hr0 hc0
  have HB := Aside0.mk (Below.refl w.heap.size w)
  have H : (if (l0.length : Int) > 8 then (some false) else (spec_l07OK.l0 k l0 0)) = some r := h
  clear h
  by_cases c2 : (l0.length : Int) > 8
  · rw [if_pos c2] at H
    have c2b0 : decide (8 < (l0.length : Int)) = true := decide_eq_true c2
    have c2b1 : decide (8 < l0.length) = true := decide_eq_true (by omega)
    clear c2
    obtain rfl := Option.some.inj H
    go_enter Try.func86, Try.ntmps86
    go_wp2
    repeat (go_quiet (fail); try go_wp2)
    go_ret
    exact ⟨by first | rfl | (simp [errW_none, errW_some] <;> rfl) | (simp [*, errW_none, errW_some] <;> rfl), by repeat (first | (with_reducible first | exact HB.out | apply below_alloc | apply pw_below_drewN | apply below_drew1) | exact HB.out)⟩
  · rw [if_neg c2] at H
    have c2b0 : decide (8 < (l0.length : Int)) = false := decide_eq_false c2
    have c2b1 : decide (8 < l0.length) = false := decide_eq_false (by omega)
    clear c2
    have H' := Aside0.mk H
    clear H
    go_enter Try.func86, Try.ntmps86
    go_wp2
    repeat (go_quiet (fail); try go_wp2)
    go_loopg [3] k (fun kq v3 w' => ∃ (x3_1 : Int), v3 = .int .i64 x3_1 ∧ Aside0 (spec_l07OK.l0 kq l0 x3_1 = some r) ∧ Aside0 (kq ≤ k) ∧ Aside0 (Below w.heap.size w w'))
    case atStart => exact ⟨(0), (by first | rfl | (simp; done) | (simp [*]; done)), H', ⟨Nat.le_refl _⟩, ⟨by repeat (first | (with_reducible first | exact HB.out | apply below_alloc | apply pw_below_drewN | apply below_drew1) | exact HB.out)⟩⟩
    case round =>
      clear H'
      try clear c2
      try clear c2b0
      try clear c2b1
      try clear p2
      obtain ⟨x3_1, rfl, HA, HK1, HB⟩ := hrel
      cases gk with
      | zero => exact absurd HA.out (by simp [spec_l07OK.l0])
      | succ k1 =>
        have H := HA.out
        clear HA
        simp only [spec_l07OK.l0] at H
        by_cases c3 : x3_1 < (l0.length : Int)
        · rw [if_pos c3] at H
          have c3b0 : decide (x3_1 < (l0.length : Int)) = true := decide_eq_true c3
          clear c3
          by_cases c4 : 0 ≤ x3_1
          · rw [if_pos c4] at H
            have c4b0 : decide (0 ≤ x3_1) = true := decide_eq_true c4
            clear c4
            replace H := Option.bind_eq_some_iff.mp H
            obtain ⟨t144, A50, H⟩ := H
            replace H : (if t144 = true then (spec_l07OK.l1 k1 l0 x3_1 0) else (some false)) = some r := H
            have A5 := Aside0.mk A50
            clear A50
            by_cases c6 : t144 = true
            · subst c6
              have H1 : (spec_l07OK.l1 k1 l0 x3_1 0) = some r := by rw [if_pos rfl] at H; exact H
              clear H
              have H := H1
              clear H1
              have H' := Aside0.mk H
              clear H
              have p143 : 0 ≤ (x3_1 : Int) := of_decide_eq_true (by first | (with_reducible assumption) | assumption)
              have q143 : x3_1 < (l0.length : Int) := of_decide_eq_true (by first | (with_reducible assumption) | assumption)
              obtain ⟨ad143, e143, hx143_0, hx143_1⟩ := at_T26 HR0.out x3_1 p143 q143
              cases e143
              replace hx143_0 := (HB.out.cell (World.block_lt_of_cell? w _ hx143_0)).trans hx143_0
              replace hx143_1 := (HB.out.cell (World.block_lt_of_cell? w _ hx143_1)).trans hx143_1
              replace p143 := eq_true p143
              replace q143 := eq_true q143
              go_wp2_with (first | (go_at_call 82; (with_reducible refine (spec_l07Item.calls ((rd_T26 l0 x3_1).f0) ((rd_T26 l0 x3_1).f1) true _ A5.out).mono ?_); rintro e w7 ⟨rfl, hb⟩; have n0_ := Aside0.mk (below_step (by repeat (first | (with_reducible first | exact HB.out | apply below_alloc | apply pw_below_drewN | apply below_drew1) | exact HB.out)) hb); clear HB; have HB := n0_; clear n0_; (try clear hb); (try clear hb2); (try clear hk); (try clear hi)))
              repeat (go_quiet (first | (go_at_call 82; (with_reducible refine (spec_l07Item.calls ((rd_T26 l0 x3_1).f0) ((rd_T26 l0 x3_1).f1) true _ A5.out).mono ?_); rintro e w7 ⟨rfl, hb⟩; have n0_ := Aside0.mk (below_step (by repeat (first | (with_reducible first | exact HB.out | apply below_alloc | apply pw_below_drewN | apply below_drew1) | exact HB.out)) hb); clear HB; have HB := n0_; clear n0_; (try clear hb); (try clear hb2); (try clear hk); (try clear hi))); try go_wp2_with (first | (go_at_call 82; (with_reducible refine (spec_l07Item.calls ((rd_T26 l0 x3_1).f0) ((rd_T26 l0 x3_1).f1) true _ A5.out).mono ?_); rintro e w7 ⟨rfl, hb⟩; have n0_ := Aside0.mk (below_step (by repeat (first | (with_reducible first | exact HB.out | apply below_alloc | apply pw_below_drewN | apply below_drew1) | exact HB.out)) hb); clear HB; have HB := n0_; clear n0_; (try clear hb); (try clear hb2); (try clear hk); (try clear hi))))
              go_loopg [4] k1 (fun kq v4 w' => ∃ (x4_2 : Int), v4 = .int .i64 x4_2 ∧ Aside0 (spec_l07OK.l1 kq l0 x3_1 x4_2 = some r) ∧ Aside0 (kq ≤ k1) ∧ Aside0 (Below w.heap.size w w'))
              case atStart => exact ⟨(0), (by first | rfl | (simp; done) | (simp [*]; done)), H', ⟨Nat.le_refl _⟩, ⟨by repeat (first | (with_reducible first | exact HB.out | apply below_alloc | apply pw_below_drewN | apply below_drew1) | exact HB.out)⟩⟩
              case round =>
                clear H'
                try clear p1
                try clear q1
                try clear hx1
                try clear c2
                try clear c2b0
                try clear c2b1
                try clear p2
                try clear c3
                try clear c3b0
                try clear c4
                try clear c4b0
                try clear c6
                try clear hx143_0
                try clear hx143_1
                try clear p143
                try clear p2
                try clear q143
                obtain ⟨x4_2, rfl, HA, HK2, HB⟩ := hrel
                cases gk with
                | zero => exact absurd HA.out (by simp [spec_l07OK.l1])
                | succ k2 =>
                  have H := HA.out
                  clear HA
                  simp only [spec_l07OK.l1] at H
                  by_cases c8 : x4_2 < x3_1
                  · rw [if_pos c8] at H
                    have c8b0 : decide (x4_2 < x3_1) = true := decide_eq_true c8
                    clear c8
                    by_cases c9 : 0 ≤ x4_2
                    · rw [if_pos c9] at H
                      have c9b0 : decide (0 ≤ x4_2) = true := decide_eq_true c9
                      clear c9
                      by_cases c10 : x4_2 < (l0.length : Int)
                      · rw [if_pos c10] at H
                        have c10b0 : decide (x4_2 < (l0.length : Int)) = true := decide_eq_true c10
                        clear c10
                        by_cases c11 : 0 ≤ x3_1
                        · rw [if_pos c11] at H
                          have c11b0 : decide (0 ≤ x3_1) = true := decide_eq_true c11
                          clear c11
                          by_cases c12 : x3_1 < (l0.length : Int)
                          · rw [if_pos c12] at H
                            have c12b0 : decide (x3_1 < (l0.length : Int)) = true := decide_eq_true c12
                            clear c12
                            by_cases c13 : ((rd_T26 l0 x4_2).f0) = ((rd_T26 l0 x3_1).f0)
                            · rw [if_pos c13] at H
                              have c13b0 : (((rd_T26 l0 x4_2).f0) == ((rd_T26 l0 x3_1).f0)) = true := beq_iff_eq.mpr c13
                              have c13b1 : (((rd_T26 l0 x4_2).f0) != ((rd_T26 l0 x3_1).f0)) = false := bne_eq_false_iff_eq.mpr c13
                              clear c13
                              obtain rfl := Option.some.inj H
                              have p145 : 0 ≤ (x4_2 : Int) := of_decide_eq_true (by first | (with_reducible assumption) | assumption)
                              have q145 : x4_2 < (l0.length : Int) := of_decide_eq_true (by first | (with_reducible assumption) | assumption)
                              obtain ⟨ad145, e145, hx145_0, hx145_1⟩ := at_T26 HR0.out x4_2 p145 q145
                              obtain rfl : ad143 = ad145 := (by injection e145)
                              replace hx145_0 := (HB.out.cell (World.block_lt_of_cell? w _ hx145_0)).trans hx145_0
                              replace hx145_1 := (HB.out.cell (World.block_lt_of_cell? w _ hx145_1)).trans hx145_1
                              replace p145 := eq_true p145
                              replace q145 := eq_true q145
                              have p146 : 0 ≤ (x3_1 : Int) := of_decide_eq_true (by first | (with_reducible assumption) | assumption)
                              have q146 : x3_1 < (l0.length : Int) := of_decide_eq_true (by first | (with_reducible assumption) | assumption)
                              obtain ⟨ad146, e146, hx146_0, hx146_1⟩ := at_T26 HR0.out x3_1 p146 q146
                              obtain rfl : ad143 = ad146 := (by injection e146)
                              replace hx146_0 := (HB.out.cell (World.block_lt_of_cell? w _ hx146_0)).trans hx146_0
                              replace hx146_1 := (HB.out.cell (World.block_lt_of_cell? w _ hx146_1)).trans hx146_1
                              replace p146 := eq_true p146
                              replace q146 := eq_true q146
                              go_wp2
                              repeat (go_quiet (fail); try go_wp2)
                              go_ret
                              exact ⟨by first | rfl | (simp [errW_none, errW_some] <;> rfl) | (simp [*, errW_none, errW_some] <;> rfl), by repeat (first | (with_reducible first | exact HB.out | apply below_alloc | apply pw_below_drewN | apply below_drew1) | exact HB.out)⟩
                            · rw [if_neg c13] at H
                              have c13b0 : (((rd_T26 l0 x4_2).f0) == ((rd_T26 l0 x3_1).f0)) = false := beq_eq_false_iff_ne.mpr c13
                              have c13b1 : (((rd_T26 l0 x4_2).f0) != ((rd_T26 l0 x3_1).f0)) = true := bne_iff_ne.mpr c13
                              have H' := Aside0.mk H
                              clear H
                              have p145 : 0 ≤ (x4_2 : Int) := of_decide_eq_true (by first | (with_reducible assumption) | assumption)
                              have q145 : x4_2 < (l0.length : Int) := of_decide_eq_true (by first | (with_reducible assumption) | assumption)
                              obtain ⟨ad145, e145, hx145_0, hx145_1⟩ := at_T26 HR0.out x4_2 p145 q145
                              obtain rfl : ad143 = ad145 := (by injection e145)
                              replace hx145_0 := (HB.out.cell (World.block_lt_of_cell? w _ hx145_0)).trans hx145_0
                              replace hx145_1 := (HB.out.cell (World.block_lt_of_cell? w _ hx145_1)).trans hx145_1
                              replace p145 := eq_true p145
                              replace q145 := eq_true q145
                              have p146 : 0 ≤ (x3_1 : Int) := of_decide_eq_true (by first | (with_reducible assumption) | assumption)
                              have q146 : x3_1 < (l0.length : Int) := of_decide_eq_true (by first | (with_reducible assumption) | assumption)
                              obtain ⟨ad146, e146, hx146_0, hx146_1⟩ := at_T26 HR0.out x3_1 p146 q146
                              obtain rfl : ad143 = ad146 := (by injection e146)
                              replace hx146_0 := (HB.out.cell (World.block_lt_of_cell? w _ hx146_0)).trans hx146_0
                              replace hx146_1 := (HB.out.cell (World.block_lt_of_cell? w _ hx146_1)).trans hx146_1
                              replace p146 := eq_true p146
                              replace q146 := eq_true q146
                              go_wp2
                              repeat (go_quiet (fail); try go_wp2)
                              go_roundg k2
                              case measure => have := HK1.out; have := HK2.out; omega
                              case rel => exact ⟨(wrap64 (x4_2 + 1)), (by first | rfl | (simp; done) | (simp [*]; done)), H', ⟨by have := HK1.out; have := HK2.out; omega⟩, ⟨by repeat (first | (with_reducible first | exact HB.out | apply below_alloc | apply pw_below_drewN | apply below_drew1) | exact HB.out)⟩⟩
                          · rw [if_neg c12] at H
                            exact absurd H (by simp)
                        · rw [if_neg c11] at H
                          exact absurd H (by simp)
                      · rw [if_neg c10] at H
                        exact absurd H (by simp)
                    · rw [if_neg c9] at H
                      exact absurd H (by simp)
                  · rw [if_neg c8] at H
                    have c8b0 : decide (x4_2 < x3_1) = false := decide_eq_false c8
                    clear c8
                    have H' := Aside0.mk H
                    clear H
                    go_wp2
                    repeat (go_quiet (fail); try go_wp2)
                    go_roundg k2
                    case measure => have := HK1.out; have := HK2.out; omega
                    case rel => exact ⟨(wrap64 (x3_1 + 1)), (by first | rfl | (simp; done) | (simp [*]; done)), H', ⟨by have := HK1.out; have := HK2.out; omega⟩, ⟨by repeat (first | (with_reducible first | exact HB.out | apply below_alloc | apply pw_below_drewN | apply below_drew1) | exact HB.out)⟩⟩
            · replace c6 := Bool.eq_false_iff.mpr c6
              subst c6
              have H1 : (some false) = some r := by rw [if_neg (show ¬ (false = true) by decide)] at H; exact H
              clear H
              have H := H1
              clear H1
              obtain rfl := Option.some.inj H
              have p143 : 0 ≤ (x3_1 : Int) := of_decide_eq_true (by first | (with_reducible assumption) | assumption)
              have q143 : x3_1 < (l0.length : Int) := of_decide_eq_true (by first | (with_reducible assumption) | assumption)
              obtain ⟨ad143, e143, hx143_0, hx143_1⟩ := at_T26 HR0.out x3_1 p143 q143
              cases e143
              replace hx143_0 := (HB.out.cell (World.block_lt_of_cell? w _ hx143_0)).trans hx143_0
              replace hx143_1 := (HB.out.cell (World.block_lt_of_cell? w _ hx143_1)).trans hx143_1
              replace p143 := eq_true p143
              replace q143 := eq_true q143
              go_wp2_with (first | (go_at_call 82; (with_reducible refine (spec_l07Item.calls ((rd_T26 l0 x3_1).f0) ((rd_T26 l0 x3_1).f1) false _ A5.out).mono ?_); rintro e w14 ⟨rfl, hb⟩; have n0_ := Aside0.mk (below_step (by repeat (first | (with_reducible first | exact HB.out | apply below_alloc | apply pw_below_drewN | apply below_drew1) | exact HB.out)) hb); clear HB; have HB := n0_; clear n0_; (try clear hb); (try clear hb2); (try clear hk); (try clear hi)))
              repeat (go_quiet (first | (go_at_call 82; (with_reducible refine (spec_l07Item.calls ((rd_T26 l0 x3_1).f0) ((rd_T26 l0 x3_1).f1) false _ A5.out).mono ?_); rintro e w14 ⟨rfl, hb⟩; have n0_ := Aside0.mk (below_step (by repeat (first | (with_reducible first | exact HB.out | apply below_alloc | apply pw_below_drewN | apply below_drew1) | exact HB.out)) hb); clear HB; have HB := n0_; clear n0_; (try clear hb); (try clear hb2); (try clear hk); (try clear hi))); try go_wp2_with (first | (go_at_call 82; (with_reducible refine (spec_l07Item.calls ((rd_T26 l0 x3_1).f0) ((rd_T26 l0 x3_1).f1) false _ A5.out).mono ?_); rintro e w14 ⟨rfl, hb⟩; have n0_ := Aside0.mk (below_step (by repeat (first | (with_reducible first | exact HB.out | apply below_alloc | apply pw_below_drewN | apply below_drew1) | exact HB.out)) hb); clear HB; have HB := n0_; clear n0_; (try clear hb); (try clear hb2); (try clear hk); (try clear hi))))
              go_ret
              exact ⟨by first | rfl | (simp [errW_none, errW_some] <;> rfl) | (simp [*, errW_none, errW_some] <;> rfl), by repeat (first | (with_reducible first | exact HB.out | apply below_alloc | apply pw_below_drewN | apply below_drew1) | exact HB.out)⟩
          · rw [if_neg c4] at H
            exact absurd H (by simp)
        · rw [if_neg c3] at H
          have c3b0 : decide (x3_1 < (l0.length : Int)) = false := decide_eq_false c3
          clear c3
          obtain rfl := Option.some.inj H
          go_wp2
          repeat (go_quiet (fail); try go_wp2)
          go_ret
          exact ⟨by first | rfl | (simp [errW_none, errW_some] <;> rfl) | (simp [*, errW_none, errW_some] <;> rfl), by repeat (first | (with_reducible first | exact HB.out | apply below_alloc | apply pw_below_drewN | apply below_drew1) | exact HB.out)⟩

end Go.Proofs.Ytlocignlkigojaa.Q

-- text Qf140
namespace Go.Proofs.Ytlocignlkigojaa.Q
open Go.RowKit Go.Proofs.YtlocignlkigojaaW.PrintWords Go.Proofs.YtlocignlkigojaaW.PrintLast Go.Proofs.YtlocignlkigojaaW.PrintMore
attribute [local go_sem] max2_int min2_int max_two min_two max_three min_three max_four min_four   -- for this text's walks alone
set_option linter.unusedVariables false
set_option linter.unusedSimpArgs false

/-! ### spec_l00Max: function 140 -/
def spec_l00Max.f (a0 : Int) (a1 : Int) : Option (Int) := if a0 > a1 then (some a0) else (some a1)
set_option maxHeartbeats 8000000 in
set_option maxRecDepth 100000 in
theorem spec_l00Max.calls (a0 : Int) (a1 : Int) (r : Int) (w : World) (h : spec_l00Max.f a0 a1 = some r) :
    Calls Try.prog 140 #[.int .i64 a0, .int .i64 a1] w fun e w' => e = .returned (.int .i64 r) ∧ Drawn0 w w' := by
  have H : (if a0 > a1 then (some a0) else (some a1)) = some r := h
  clear h
  by_cases c3 : a0 > a1
  · rw [if_pos c3] at H
    have c3b0 : decide (a1 < a0) = true := decide_eq_true c3
    clear c3
    obtain rfl := Option.some.inj H
    go_enter Try.func140, Try.ntmps140
    go_wp2
    go_ret
    exact ⟨by first | rfl | (simp; done) | (simp [*]; done), by repeat (first | exact Drawn0.refl _ | apply Drawn0.step)⟩
  · rw [if_neg c3] at H
    have c3b0 : decide (a1 < a0) = false := decide_eq_false c3
    clear c3
    obtain rfl := Option.some.inj H
    go_enter Try.func140, Try.ntmps140
    go_wp2
    go_ret
    exact ⟨by first | rfl | (simp; done) | (simp [*]; done), by repeat (first | exact Drawn0.refl _ | apply Drawn0.step)⟩

end Go.Proofs.Ytlocignlkigojaa.Q

-- text Qf83
namespace Go.Proofs.Ytlocignlkigojaa.Q
open Go.RowKit Go.Proofs.YtlocignlkigojaaW.PrintWords Go.Proofs.YtlocignlkigojaaW.PrintLast Go.Proofs.YtlocignlkigojaaW.PrintMore
attribute [local go_sem] max2_int min2_int max_two min_two max_three min_three max_four min_four   -- for this text's walks alone
set_option linter.unusedVariables false
set_option linter.unusedSimpArgs false

/-! ### spec_l07Best: function 83 -/
def spec_l07Best.l0 : Nat → Int → Int → Int → Int → Int → Int → Option (Int)
  | 0, _, _, _, _, _, _ => none
  | k + 1, x1, x2, x7, x8, x113000, x113001 => if x8 < x113001 then ((spec_l07Ticket.f k x113000 x8 x1 x2).bind fun t113 => ((spec_l00Max.f x7 t113).bind fun t114 => (spec_l07Best.l0 k x1 x2 t114 (wrap64 (x8 + 1)) x113000 x113001))) else (some x7)
def spec_l07Best.f (k : Nat) (a0_0 : Int) (a0_1 : Int) (a1 : Int) (a2 : Int) : Option (Int) := spec_l07Best.l0 k a1 a2 (-1) 0 a0_0 a0_1
theorem spec_l07Best.mono_l : ∀ k, (∀ y0 y1 y2 y3 y4 y5, LeO (spec_l07Best.l0 k y0 y1 y2 y3 y4 y5) (spec_l07Best.l0 (k + 1) y0 y1 y2 y3 y4 y5))
  | 0 => fun _ _ _ _ _ _ r h => by simp [spec_l07Best.l0] at h
  | k + 1 => by
    have ih0 := spec_l07Best.mono_l k
    · intro y0 y1 y2 y3 y4 y5
      unfold spec_l07Best.l0
      repeat' first
      | (with_reducible exact ih0 _ _ _ _ _ _)
      | (with_reducible exact spec_l07Ticket.mono _ _ _ _ _)
      | (with_reducible exact LeO.refl _)
      | (with_reducible exact LeO.none _)
      | (with_reducible refine LeO.ite ?_ ?_)
      | (with_reducible refine LeO.bind ?_ (fun _ => ?_))
      | exact ih0 _ _ _ _ _ _
      | exact spec_l07Ticket.mono _ _ _ _ _
      | exact LeO.none _
      | refine LeO.ite ?_ ?_
      | refine LeO.bind ?_ (fun _ => ?_)
theorem spec_l07Best.mono : ∀ a0 a1 a2 a3 k, LeO (spec_l07Best.f k a0 a1 a2 a3) (spec_l07Best.f (k + 1) a0 a1 a2 a3) := by
  intro a0 a1 a2 a3 k
  have ih0 := spec_l07Best.mono_l k
  unfold spec_l07Best.f
  repeat' first
      | (with_reducible exact ih0 _ _ _ _ _ _)
      | (with_reducible exact spec_l07Ticket.mono _ _ _ _ _)
      | (with_reducible exact LeO.refl _)
      | (with_reducible exact LeO.none _)
      | (with_reducible refine LeO.ite ?_ ?_)
      | (with_reducible refine LeO.bind ?_ (fun _ => ?_))
      | exact ih0 _ _ _ _ _ _
      | exact spec_l07Ticket.mono _ _ _ _ _
      | exact LeO.none _
      | refine LeO.ite ?_ ?_
      | refine LeO.bind ?_ (fun _ => ?_)
set_option maxHeartbeats 8000000 in
set_option maxRecDepth 100000 in
theorem spec_l07Best.calls (k : Nat) (a0_0 : Int) (a0_1 : Int) (a1 : Int) (a2 : Int) (r : Int) (w : World) (h : spec_l07Best.f k a0_0 a0_1 a1 a2 = some r) :
    Calls Try.prog 83 #[.agg #[.int .i64 a0_0, .int .i64 a0_1], .int .i64 a1, .int .i64 a2] w fun e w' => e = .returned (.int .i64 r) ∧ Below w.heap.size w w' := by
  have hu26 := Try.underlying26
  have HB := Aside0.mk (Below.refl w.heap.size w)
  have H : (spec_l07Best.l0 k a1 a2 (-1) 0 a0_0 a0_1) = some r := h
  clear h
  have H' := Aside0.mk H
  clear H
  go_enter Try.func83, Try.ntmps83
  go_wp2_with (first | ((with_reducible refine gate_dst (N := 3) rfl ?_); refine box_event ?hg (N := 3) ?hd (cs := #[.int .i64 a0_0, .int .i64 a0_1]) (t := 26) ?hr ?_; (case hd => rfl); (case hg => rfl); (case hr => first | (go_simp; done) | (go_simp; rfl)); intro gb112 hg w4 hbox hb; have n0_ := Aside0.mk (below_step (by repeat (first | (with_reducible first | exact HB.out | apply below_alloc | apply pw_below_drewN | apply below_drew1) | exact HB.out)) hb); have n1_ := Aside0.mk (hbox); have n2_ := Aside0.mk ((by rw [hg]; exact (below_size (by repeat (first | (with_reducible first | exact HB.out | apply below_alloc | apply pw_below_drewN | apply below_drew1) | exact HB.out))) : w.heap.size ≤ gb112)); have n3_ := Aside0.mk ((by rw [hg]; exact (below_size (by repeat (first | (with_reducible first | exact HB.out | apply below_alloc | apply pw_below_drewN | apply below_drew1) | exact HB.out))) : w.heap.size ≤ gb112)); clear HB; have HB := n0_; have BK112 := n1_; have GW112 := n2_; have GE112 := n3_; clear n0_ n1_ n2_ n3_; clear hb hbox hg))
  go_loopg [7, 8] k (fun kq v7 v8 w' => ∃ (x7_1 : Int) (x8_1 : Int), v7 = .int .i64 x7_1 ∧ v8 = .int .i64 x8_1 ∧ Aside0 (spec_l07Best.l0 kq a1 a2 x7_1 x8_1 a0_0 a0_1 = some r) ∧ Aside0 (kq ≤ k) ∧ Aside0 (w'.heap[gb112]? = some (.cells #[.int .i64 a0_0, .int .i64 a0_1] 26 (0, 0))) ∧ Aside0 (Below w.heap.size w w'))
  case atStart => exact ⟨((-1)), (0), (by first | rfl | (simp; done) | (simp [*]; done)), (by first | rfl | (simp; done) | (simp [*]; done)), H', ⟨Nat.le_refl _⟩, ⟨by (with_reducible repeat (first | refine blk_drewN ?_ _ | refine blk_drew ?_ | refine blk_alloc ?_ _)); exact BK112.out⟩, ⟨by repeat (first | (with_reducible first | exact HB.out | apply below_alloc | apply pw_below_drewN | apply below_drew1 | refine below_set ?_ GE112.out) | exact HB.out)⟩⟩
  case round =>
    clear H'
    try clear p2
    obtain ⟨x7_1, x8_1, rfl, rfl, HA, HK1, BK112, HB⟩ := hrel
    cases gk with
    | zero => exact absurd HA.out (by simp [spec_l07Best.l0])
    | succ k1 =>
      have H := HA.out
      clear HA
      simp only [spec_l07Best.l0] at H
      by_cases c5 : x8_1 < a0_1
      · rw [if_pos c5] at H
        have c5b0 : decide (x8_1 < a0_1) = true := decide_eq_true c5
        clear c5
        replace H := Option.bind_eq_some_iff.mp H
        obtain ⟨t113, A60, H⟩ := H
        replace H : ((spec_l00Max.f x7_1 t113).bind fun t114 => (spec_l07Best.l0 k1 a1 a2 t114 (wrap64 (x8_1 + 1)) a0_0 a0_1)) = some r := H
        have A6 := Aside0.mk A60
        clear A60
        replace H := Option.bind_eq_some_iff.mp H
        obtain ⟨t114, A70, H⟩ := H
        replace H : (spec_l07Best.l0 k1 a1 a2 t114 (wrap64 (x8_1 + 1)) a0_0 a0_1) = some r := H
        have A7 := Aside0.mk A70
        clear A70
        have H' := Aside0.mk H
        clear H
        have hcz8_0 : wr.cell? ⟨gb112, 0, none⟩ = some (.int .i64 a0_0) := (blk_cell BK112.out 0).trans rfl
        have hcz8_1 : wr.cell? ⟨gb112, 1, none⟩ = some (.int .i64 a0_1) := (blk_cell BK112.out 1).trans rfl
        have hfz8_0 := blk_frozen BK112.out 0
        have hfz8_1 := blk_frozen BK112.out 1
        go_wp2_with (first | ((with_reducible refine gate_callee (f := 141) rfl ?_); refine goesL_ (some 21) rfl rfl Try.func141 (by kernel_rfl) rfl #[.int .i64 a0_0, .int .i64 x8_1, .int .i64 a1, .int .i64 a2] rfl (by (try simp only [List.map_toArray, List.map_cons, List.map_nil]); first | done | rfl | (simp only [List.length_drop, List.length_take]; rfl)) ?_; (with_reducible refine (spec_l07Ticket.calls k1 a0_0 x8_1 a1 a2 t113 _ A6.out).mono ?_); rintro e w9 ⟨rfl, hb⟩; refine ⟨_, rfl, ?_⟩; have n0_ := Aside0.mk (blk_below (g := gb112) (o := .cells #[.int .i64 a0_0, .int .i64 a0_1] 26 (0, 0)) (by (with_reducible repeat (first | refine blk_drewN ?_ _ | refine blk_drew ?_ | refine blk_alloc ?_ _)); exact BK112.out) hb); have n1_ := Aside0.mk (below_step (by repeat (first | (with_reducible first | exact HB.out | apply below_alloc | apply pw_below_drewN | apply below_drew1 | refine below_set ?_ GE112.out) | exact HB.out)) hb); clear BK112; clear HB; have BK112 := n0_; have HB := n1_; clear n0_ n1_; (try clear hb); (try clear hb2); (try clear hk); (try clear hi)) | ((with_reducible refine gate_callee (f := 140) rfl ?_); refine goesL_ (some 22) rfl rfl Try.func140 (by kernel_rfl) rfl #[.int .i64 x7_1, .int .i64 t113] rfl (by (try simp only [List.map_toArray, List.map_cons, List.map_nil]); first | done | rfl | (simp only [List.length_drop, List.length_take]; rfl)) ?_; (with_reducible refine (spec_l00Max.calls x7_1 t113 t114 _ A7.out).mono ?_); rintro e w' ⟨rfl, ⟨nd, rfl⟩⟩; refine ⟨_, rfl, ?_⟩))
        go_roundg k1
        case measure => have := HK1.out; omega
        case rel => exact ⟨(t114), (wrap64 (x8_1 + 1)), (by first | rfl | (simp; done) | (simp [*]; done)), (by first | rfl | (simp; done) | (simp [*]; done)), H', ⟨by have := HK1.out; omega⟩, ⟨by (with_reducible repeat (first | refine blk_drewN ?_ _ | refine blk_drew ?_ | refine blk_alloc ?_ _)); exact BK112.out⟩, ⟨by repeat (first | (with_reducible first | exact HB.out | apply below_alloc | apply pw_below_drewN | apply below_drew1 | refine below_set ?_ GE112.out) | exact HB.out)⟩⟩
      · rw [if_neg c5] at H
        have c5b0 : decide (x8_1 < a0_1) = false := decide_eq_false c5
        clear c5
        obtain rfl := Option.some.inj H
        have hcz10_0 : wr.cell? ⟨gb112, 0, none⟩ = some (.int .i64 a0_0) := (blk_cell BK112.out 0).trans rfl
        have hcz10_1 : wr.cell? ⟨gb112, 1, none⟩ = some (.int .i64 a0_1) := (blk_cell BK112.out 1).trans rfl
        have hfz10_0 := blk_frozen BK112.out 0
        have hfz10_1 := blk_frozen BK112.out 1
        go_wp2
        go_ret
        exact ⟨by first | rfl | (simp [errW_none, errW_some] <;> rfl) | (simp [*, errW_none, errW_some] <;> rfl), by repeat (first | (with_reducible first | exact HB.out | apply below_alloc | apply pw_below_drewN | apply below_drew1 | refine below_set ?_ GE112.out) | exact HB.out)⟩

end Go.Proofs.Ytlocignlkigojaa.Q

-- text Qf139
namespace Go.Proofs.Ytlocignlkigojaa.Q
open Go.RowKit Go.Proofs.YtlocignlkigojaaW.PrintWords Go.Proofs.YtlocignlkigojaaW.PrintLast Go.Proofs.YtlocignlkigojaaW.PrintMore
attribute [local go_sem] max2_int min2_int max_two min_two max_three min_three max_four min_four   -- for this text's walks alone
set_option linter.unusedVariables false
set_option linter.unusedSimpArgs false

/-! ### spec_l07Choose: function 139 -/
def spec_l07Choose.l0 : Nat → List (S26) → Int → Int → Int → Int → Int → Option (Int × Bool)
  | 0, _, _, _, _, _, _ => none
  | k + 1, x0, x1, x2, x8, x9, x10 => if x10 < (x0.length : Int) then (if 0 ≤ x10 then ((spec_l07Best.f k ((rd_T26 x0 x10).f0) ((rd_T26 x0 x10).f1) x1 x2).bind fun t859 => (if t859 > x8 then (spec_l07Choose.l0 k x0 x1 x2 t859 ((rd_T26 x0 x10).f0) (wrap64 (x10 + 1))) else (spec_l07Choose.l0 k x0 x1 x2 x8 x9 (wrap64 (x10 + 1))))) else (none)) else (some (x9, decide (x8 ≥ 0)))
def spec_l07Choose.f (k : Nat) (l0 : List (S26)) (a1 : Int) (a2 : Int) : Option (Int × Bool) := spec_l07Choose.l0 k l0 a1 a2 (-1) 0 0
theorem spec_l07Choose.mono_l : ∀ k, (∀ y0 y1 y2 y3 y4 y5, LeO (spec_l07Choose.l0 k y0 y1 y2 y3 y4 y5) (spec_l07Choose.l0 (k + 1) y0 y1 y2 y3 y4 y5))
  | 0 => fun _ _ _ _ _ _ r h => by simp [spec_l07Choose.l0] at h
  | k + 1 => by
    have ih0 := spec_l07Choose.mono_l k
    · intro y0 y1 y2 y3 y4 y5
      unfold spec_l07Choose.l0
      repeat' first
      | (with_reducible exact ih0 _ _ _ _ _ _)
      | (with_reducible exact spec_l07Best.mono _ _ _ _ _)
      | (with_reducible exact LeO.refl _)
      | (with_reducible exact LeO.none _)
      | (with_reducible refine LeO.ite ?_ ?_)
      | (with_reducible refine LeO.bind ?_ (fun _ => ?_))
      | exact ih0 _ _ _ _ _ _
      | exact spec_l07Best.mono _ _ _ _ _
      | exact LeO.none _
      | refine LeO.ite ?_ ?_
      | refine LeO.bind ?_ (fun _ => ?_)
theorem spec_l07Choose.mono : ∀ a0 a1 a2 k, LeO (spec_l07Choose.f k a0 a1 a2) (spec_l07Choose.f (k + 1) a0 a1 a2) := by
  intro a0 a1 a2 k
  have ih0 := spec_l07Choose.mono_l k
  unfold spec_l07Choose.f
  repeat' first
      | (with_reducible exact ih0 _ _ _ _ _ _)
      | (with_reducible exact spec_l07Best.mono _ _ _ _ _)
      | (with_reducible exact LeO.refl _)
      | (with_reducible exact LeO.none _)
      | (with_reducible refine LeO.ite ?_ ?_)
      | (with_reducible refine LeO.bind ?_ (fun _ => ?_))
      | exact ih0 _ _ _ _ _ _
      | exact spec_l07Best.mono _ _ _ _ _
      | exact LeO.none _
      | refine LeO.ite ?_ ?_
      | refine LeO.bind ?_ (fun _ => ?_)
set_option maxHeartbeats 8000000 in
set_option maxRecDepth 100000 in
theorem spec_l07Choose.calls (k : Nat) (A0 : Option Addr) (c0 : Nat) (l0 : List (S26)) (a1 : Int) (a2 : Int) (r1 : Int) (r2 : Bool) (w : World) (hr0 : Kd.C k26 w A0 l0.length l0) (hc0 : l0.length ≤ c0) (h : spec_l07Choose.f k l0 a1 a2 = some (r1, r2)) :
    Calls Try.prog 139 #[.slice A0 l0.length c0, .int .i64 a1, .int .i64 a2] w fun e w' => e = .returned (.tuple #[.int .i64 r1, .bool r2]) ∧ Below w.heap.size w w' := by
  have hu26 := Try.underlying26
  have HR0 := Aside0.mk hr0
  have HC0 := Aside0.mk hc0
  clear hr0 hc0
  have HB := Aside0.mk (Below.refl w.heap.size w)
  have H : (spec_l07Choose.l0 k l0 a1 a2 (-1) 0 0) = some (r1, r2) := h
  clear h
  have H' := Aside0.mk H
  clear H
  go_enter Try.func139, Try.ntmps139
  go_wp2
  go_loopg [8, 9, 10] k (fun kq v8 v9 v10 w' => ∃ (x8_1 : Int) (x9_1 : Int) (x10_1 : Int), v8 = .int .i64 x8_1 ∧ v9 = .int .i64 x9_1 ∧ v10 = .int .i64 x10_1 ∧ Aside0 (spec_l07Choose.l0 kq l0 a1 a2 x8_1 x9_1 x10_1 = some (r1, r2)) ∧ Aside0 (kq ≤ k) ∧ Aside0 (Below w.heap.size w w'))
  case atStart => exact ⟨((-1)), (0), (0), (by first | rfl | (simp; done) | (simp [*]; done)), (by first | rfl | (simp; done) | (simp [*]; done)), (by first | rfl | (simp; done) | (simp [*]; done)), H', ⟨Nat.le_refl _⟩, ⟨by repeat (first | (with_reducible first | exact HB.out | apply below_alloc | apply pw_below_drewN | apply below_drew1) | exact HB.out)⟩⟩
  case round =>
    clear H'
    try clear c1
    try clear p2
    obtain ⟨x8_1, x9_1, x10_1, rfl, rfl, rfl, HA, HK1, HB⟩ := hrel
    cases gk with
    | zero => exact absurd HA.out (by simp [spec_l07Choose.l0])
    | succ k1 =>
      have H := HA.out
      clear HA
      simp only [spec_l07Choose.l0] at H
      by_cases c4 : x10_1 < (l0.length : Int)
      · rw [if_pos c4] at H
        have c4b0 : decide (x10_1 < (l0.length : Int)) = true := decide_eq_true c4
        clear c4
        by_cases c5 : 0 ≤ x10_1
        · rw [if_pos c5] at H
          have c5b0 : decide (0 ≤ x10_1) = true := decide_eq_true c5
          clear c5
          replace H := Option.bind_eq_some_iff.mp H
          obtain ⟨t859, A60, H⟩ := H
          replace H : (if t859 > x8_1 then (spec_l07Choose.l0 k1 l0 a1 a2 t859 ((rd_T26 l0 x10_1).f0) (wrap64 (x10_1 + 1))) else (spec_l07Choose.l0 k1 l0 a1 a2 x8_1 x9_1 (wrap64 (x10_1 + 1)))) = some (r1, r2) := H
          have A6 := Aside0.mk A60
          clear A60
          by_cases c7 : t859 > x8_1
          · rw [if_pos c7] at H
            have c7b0 : decide (x8_1 < t859) = true := decide_eq_true c7
            clear c7
            have H' := Aside0.mk H
            clear H
            have p858 : 0 ≤ (x10_1 : Int) := of_decide_eq_true (by first | (with_reducible assumption) | assumption)
            have q858 : x10_1 < (l0.length : Int) := of_decide_eq_true (by first | (with_reducible assumption) | assumption)
            obtain ⟨ad858, e858, hx858_0, hx858_1⟩ := at_T26 HR0.out x10_1 p858 q858
            cases e858
            replace hx858_0 := (HB.out.cell (World.block_lt_of_cell? w _ hx858_0)).trans hx858_0
            replace hx858_1 := (HB.out.cell (World.block_lt_of_cell? w _ hx858_1)).trans hx858_1
            replace p858 := eq_true p858
            replace q858 := eq_true q858
            go_wp2_with (first | ((with_reducible refine gate_callee (f := 83) rfl ?_); refine goesL_ (some 24) rfl rfl Try.func83 (by kernel_rfl) rfl #[.agg #[.int .i64 ((rd_T26 l0 x10_1).f0), .int .i64 ((rd_T26 l0 x10_1).f1)], .int .i64 a1, .int .i64 a2] rfl (by (try simp only [List.map_toArray, List.map_cons, List.map_nil]); first | done | rfl | (simp only [List.length_drop, List.length_take]; rfl)) ?_; (with_reducible refine (spec_l07Best.calls k1 ((rd_T26 l0 x10_1).f0) ((rd_T26 l0 x10_1).f1) a1 a2 t859 _ A6.out).mono ?_); rintro e w8 ⟨rfl, hb⟩; refine ⟨_, rfl, ?_⟩; have n0_ := Aside0.mk (below_step (by repeat (first | (with_reducible first | exact HB.out | apply below_alloc | apply pw_below_drewN | apply below_drew1) | exact HB.out)) hb); clear HB; have HB := n0_; clear n0_; (try clear hb); (try clear hb2); (try clear hk); (try clear hi); have p860 : 0 ≤ (x10_1 : Int) := of_decide_eq_true (by first | (with_reducible assumption) | assumption); have q860 : x10_1 < (l0.length : Int) := of_decide_eq_true (by first | (with_reducible assumption) | assumption); obtain ⟨ad860, e860, hx860_0, hx860_1⟩ := at_T26 HR0.out x10_1 p860 q860; obtain rfl : ad858 = ad860 := (by injection e860); replace hx860_0 := (HB.out.cell (World.block_lt_of_cell? w _ hx860_0)).trans hx860_0; replace hx860_1 := (HB.out.cell (World.block_lt_of_cell? w _ hx860_1)).trans hx860_1; replace p860 := eq_true p860; replace q860 := eq_true q860))
            go_roundg k1
            case measure => have := HK1.out; omega
            case rel => exact ⟨(t859), ((rd_T26 l0 x10_1).f0), (wrap64 (x10_1 + 1)), (by first | rfl | (simp; done) | (simp [*]; done)), (by first | rfl | (simp; done) | (simp [*]; done)), (by first | rfl | (simp; done) | (simp [*]; done)), H', ⟨by have := HK1.out; omega⟩, ⟨by repeat (first | (with_reducible first | exact HB.out | apply below_alloc | apply pw_below_drewN | apply below_drew1) | exact HB.out)⟩⟩
          · rw [if_neg c7] at H
            have c7b0 : decide (x8_1 < t859) = false := decide_eq_false c7
            clear c7
            have H' := Aside0.mk H
            clear H
            have p858 : 0 ≤ (x10_1 : Int) := of_decide_eq_true (by first | (with_reducible assumption) | assumption)
            have q858 : x10_1 < (l0.length : Int) := of_decide_eq_true (by first | (with_reducible assumption) | assumption)
            obtain ⟨ad858, e858, hx858_0, hx858_1⟩ := at_T26 HR0.out x10_1 p858 q858
            cases e858
            replace hx858_0 := (HB.out.cell (World.block_lt_of_cell? w _ hx858_0)).trans hx858_0
            replace hx858_1 := (HB.out.cell (World.block_lt_of_cell? w _ hx858_1)).trans hx858_1
            replace p858 := eq_true p858
            replace q858 := eq_true q858
            go_wp2_with (first | ((with_reducible refine gate_callee (f := 83) rfl ?_); refine goesL_ (some 24) rfl rfl Try.func83 (by kernel_rfl) rfl #[.agg #[.int .i64 ((rd_T26 l0 x10_1).f0), .int .i64 ((rd_T26 l0 x10_1).f1)], .int .i64 a1, .int .i64 a2] rfl (by (try simp only [List.map_toArray, List.map_cons, List.map_nil]); first | done | rfl | (simp only [List.length_drop, List.length_take]; rfl)) ?_; (with_reducible refine (spec_l07Best.calls k1 ((rd_T26 l0 x10_1).f0) ((rd_T26 l0 x10_1).f1) a1 a2 t859 _ A6.out).mono ?_); rintro e w9 ⟨rfl, hb⟩; refine ⟨_, rfl, ?_⟩; have n0_ := Aside0.mk (below_step (by repeat (first | (with_reducible first | exact HB.out | apply below_alloc | apply pw_below_drewN | apply below_drew1) | exact HB.out)) hb); clear HB; have HB := n0_; clear n0_; (try clear hb); (try clear hb2); (try clear hk); (try clear hi)))
            go_roundg k1
            case measure => have := HK1.out; omega
            case rel => exact ⟨(x8_1), (x9_1), (wrap64 (x10_1 + 1)), (by first | rfl | (simp; done) | (simp [*]; done)), (by first | rfl | (simp; done) | (simp [*]; done)), (by first | rfl | (simp; done) | (simp [*]; done)), H', ⟨by have := HK1.out; omega⟩, ⟨by repeat (first | (with_reducible first | exact HB.out | apply below_alloc | apply pw_below_drewN | apply below_drew1) | exact HB.out)⟩⟩
        · rw [if_neg c5] at H
          exact absurd H (by simp)
      · rw [if_neg c4] at H
        have c4b0 : decide (x10_1 < (l0.length : Int)) = false := decide_eq_false c4
        clear c4
        simp only [Option.some.injEq, Prod.mk.injEq] at H
        obtain ⟨rfl, rfl⟩ := H
        go_wp2
        go_ret2
        exact ⟨by first | rfl | (simp [errW_none, errW_some] <;> rfl) | (simp [*, errW_none, errW_some] <;> rfl), by repeat (first | (with_reducible first | exact HB.out | apply below_alloc | apply pw_below_drewN | apply below_drew1) | exact HB.out)⟩

end Go.Proofs.Ytlocignlkigojaa.Q

-- text OItem
namespace Go.Proofs.Ytlocignlkigojaa.Pure
open Go.RowKit Go.Proofs.Ytlocignlkigojaa.Q Go.Proofs.YtlocignlkigojaaW.PrintWords Go.Proofs.YtlocignlkigojaaW.PrintLast Go.Proofs.YtlocignlkigojaaW.PrintMore
set_option linter.unusedVariables false
set_option linter.unusedSimpArgs false

theorem spec_item (x : S26) : spec_l07Item.f x.f0 x.f1 = some (itemB x) := itemOk_itemB x
/-- the ticket of a unit of an item -/
def ticket (id u seed try_ : Int) : Int := hash [seed, try_, id, u]
/-- the highest of the first tickets; -1 of none -/
def bestN (id seed try_ : Int) : Nat → Int
  | 0 => -1
  | n + 1 => max (bestN id seed try_ n) (ticket id n seed try_)
def bestOf (x : S26) (seed try_ : Int) : Int := bestN x.f0 seed try_ x.f1.toNat
theorem ticket_range (id u seed try_ : Int) : 0 ≤ ticket id u seed try_ ∧ ticket id u seed try_ < 4294967296 := hash_range _
theorem bestN_range (id seed try_ : Int) : ∀ n, -1 ≤ bestN id seed try_ n ∧ bestN id seed try_ n < 4294967296 ∧ (0 < n → 0 ≤ bestN id seed try_ n)
  | 0 => by simp [bestN]
  | n + 1 => by
    have h := bestN_range id seed try_ n
    have h2 := ticket_range id n seed try_
    simp only [bestN]
    omega
theorem mx_max (a b : Int) : mx a b = max a b := by unfold mx; omega
theorem l00Max_is (a b : Int) : spec_l00Max.f a b = some (max a b) := by
  unfold spec_l00Max.f
  by_cases h : a > b
  · rw [if_pos h]; congr 1; omega
  · rw [if_neg h]; congr 1; omega
theorem impl_best_ev (id wt seed try_ : Int) (hw : wt ≤ 4611686018427387904) : Ev (fun k => impl_Item_best.f k id wt seed try_) (bestN id seed try_ wt.toNat) := by
  by_cases h0 : 0 ≤ wt
  · obtain ⟨n, rfl⟩ := Int.eq_ofNat_of_zero_le h0
    rw [Int.toNat_natCast]
    refine loop_is n (fun k s i => impl_Item_best.l0 k seed try_ s n i id n) (fun i s => s = bestN id seed try_ i) _ ?_ ?_ (-1) rfl
    · rintro i s hi rfl
      refine .inr ⟨bestN id seed try_ (i + 1), rfl, fun r hr => Ev.step (f := ?f) (fun k => ?_) ?_⟩
      rotate_left
      · simp only [impl_Item_best.l0, mx_max]
        rw [if_pos (by omega), up64 i n hi (by omega)]
        all_goals exact rfl
      · exact Ev.bind (ev_of (K := 5) fun k hk => impl_ticket id i seed try_ k (by omega)) hr
    · rintro s rfl
      exact ev_end (fun k => by simp only [impl_Item_best.l0]; rw [if_neg (by omega)])
  · have e : wt.toNat = 0 := by omega
    rw [e]
    exact ev_end (fun k => by simp only [impl_Item_best.f, impl_Item_best.l0]; rw [if_neg (by omega)]; rfl)
theorem spec_best_ev (id wt seed try_ : Int) (hw : wt ≤ 4611686018427387904) : Ev (fun k => spec_l07Best.f k id wt seed try_) (bestN id seed try_ wt.toNat) := by
  by_cases h0 : 0 ≤ wt
  · obtain ⟨n, rfl⟩ := Int.eq_ofNat_of_zero_le h0
    rw [Int.toNat_natCast]
    refine loop_is n (fun k s i => spec_l07Best.l0 k seed try_ s i id n) (fun i s => s = bestN id seed try_ i) _ ?_ ?_ (-1) rfl
    · rintro i s hi rfl
      refine .inr ⟨bestN id seed try_ (i + 1), rfl, fun r hr => Ev.step (f := ?f) (fun k => ?_) ?_⟩
      rotate_left
      · simp only [spec_l07Best.l0, l00Max_is, Option.bind_some]
        rw [if_pos (by omega), up64 i n hi (by omega)]
        all_goals exact rfl
      · exact Ev.bind (ev_of (K := 5) fun k hk => spec_ticket7 id i seed try_ k (by omega)) hr
    · rintro s rfl
      exact ev_end (fun k => by simp only [spec_l07Best.l0]; rw [if_neg (by omega)])
  · have e : wt.toNat = 0 := by omega
    rw [e]
    exact ev_end (fun k => by simp only [spec_l07Best.f, spec_l07Best.l0]; rw [if_neg (by omega)]; rfl)
/-- who has the highest ticket, the first of several: the ticket and the Id -/
def pickStep (seed try_ : Int) (s : Int × Int) (x : S26) : Int × Int := if bestOf x seed try_ > s.1 then (bestOf x seed try_, x.f0) else s
def pickL (l : List S26) (seed try_ : Int) : Int × Int := l.foldl (pickStep seed try_) (-1, 0)
def chooseL (l : List S26) (seed try_ : Int) : Int × Bool := ((pickL l seed try_).2, decide ((pickL l seed try_).1 ≥ 0))
/-- no weight is out of all bounds -/
def WtOk (l : List S26) : Prop := ∀ x ∈ l, x.f1 ≤ 4611686018427387904
theorem pick_take (l : List S26) (i : Nat) (h : i < l.length) (seed try_ : Int) : (l.take (i + 1)).foldl (pickStep seed try_) (-1, 0) = pickStep seed try_ ((l.take i).foldl (pickStep seed try_) (-1, 0)) l[i] := by
  rw [List.take_succ_eq_append_getElem h, List.foldl_append]
  rfl
theorem impl_choose_ev (l : List S26) (hl : l.length ≤ 1048576) (hw : WtOk l) (seed try_ : Int) : Ev (fun k => impl_choose.f k l seed try_) (chooseL l seed try_) := by
  refine loop_is l.length (fun k (s : Int × Int) i => impl_choose.l0 k seed try_ s.1 s.2 l l.length i) (fun i s => s = (l.take i).foldl (pickStep seed try_) (-1, 0)) _ ?_ ?_ (-1, 0) rfl
  · rintro i s hi rfl
    refine .inr ⟨_, rfl, fun r hr => Ev.step (f := ?f) (fun k => ?_) ?_⟩
    rotate_left
    · simp only [impl_choose.l0]
      rw [if_pos (by omega), if_pos (by omega), if_pos (by omega), up64 i l.length hi (by omega), rd_item l i hi]
      all_goals exact rfl
    · rw [pick_take l i hi] at hr
      generalize List.foldl (pickStep seed try_) (-1, 0) (l.take i) = s at hr ⊢
      refine Ev.bind (impl_best_ev _ _ seed try_ (hw _ (List.getElem_mem hi))) ?_
      unfold pickStep bestOf at hr
      by_cases c : bestN l[i].f0 seed try_ l[i].f1.toNat > s.1
      · rw [if_pos c] at hr
        refine Ev.congr (fun k => ?_) hr
        exact if_pos c
      · rw [if_neg c] at hr
        refine Ev.congr (fun k => ?_) hr
        exact if_neg c
  · rintro s rfl
    refine ev_end (fun k => ?_)
    simp only [impl_choose.l0]
    rw [if_neg (by omega), List.take_length]
    rfl
theorem spec_choose_ev (l : List S26) (hl : l.length ≤ 1048576) (hw : WtOk l) (seed try_ : Int) : Ev (fun k => spec_l07Choose.f k l seed try_) (chooseL l seed try_) := by
  refine loop_is l.length (fun k (s : Int × Int) i => spec_l07Choose.l0 k l seed try_ s.1 s.2 i) (fun i s => s = (l.take i).foldl (pickStep seed try_) (-1, 0)) _ ?_ ?_ (-1, 0) rfl
  · rintro i s hi rfl
    refine .inr ⟨_, rfl, fun r hr => Ev.step (f := ?f) (fun k => ?_) ?_⟩
    rotate_left
    · simp only [spec_l07Choose.l0]
      rw [if_pos (by omega), if_pos (by omega), up64 i l.length hi (by omega), rd_item l i hi]
      all_goals exact rfl
    · rw [pick_take l i hi] at hr
      generalize List.foldl (pickStep seed try_) (-1, 0) (l.take i) = s at hr ⊢
      refine Ev.bind (spec_best_ev _ _ seed try_ (hw _ (List.getElem_mem hi))) ?_
      unfold pickStep bestOf at hr
      by_cases c : bestN l[i].f0 seed try_ l[i].f1.toNat > s.1
      · rw [if_pos c] at hr
        refine Ev.congr (fun k => ?_) hr
        exact if_pos c
      · rw [if_neg c] at hr
        refine Ev.congr (fun k => ?_) hr
        exact if_neg c
  · rintro s rfl
    refine ev_end (fun k => ?_)
    simp only [spec_l07Choose.l0]
    rw [if_neg (by omega), List.take_length]
    rfl
/-- are items valid, from a place on? -/
theorem itemsGo_all : ∀ (xs seen : List S26), itemsGo seen xs = true → ∀ x ∈ xs, itemB x = true
  | [], _, _, x, hx => by simp at hx
  | y :: ys, seen, h, x, hx => by
    unfold itemsGo at h
    rw [Bool.and_eq_true, Bool.and_eq_true] at h
    rcases List.mem_cons.1 hx with rfl | hx
    · exact h.1.1
    · exact itemsGo_all ys _ h.2 x hx
theorem wtOk_of (l : List S26) (h : itemsOkB l = true) : WtOk l ∧ l.length ≤ 8 := by
  unfold itemsOkB at h
  rw [Bool.and_eq_true] at h
  refine ⟨fun x hx => ?_, of_decide_eq_true h.2⟩
  have := itemsGo_all l [] h.1 x hx
  unfold itemB inB at this
  simp only [Bool.and_eq_true, decide_eq_true_eq] at this
  omega
theorem any_take (l : List S26) (id : Int) : ∀ (m : Nat), m < l.length → ((l.take (m + 1)).any fun y => y.f0 == id) = (((l.take m).any fun y => y.f0 == id) || (l.getD m z26).f0 == id) := by
  intro m hm
  rw [List.take_succ_eq_append_getElem hm, List.any_append, getD_get l m _ hm]
  simp
theorem spec_items_ev (l : List S26) : Ev (fun k => spec_l07OK.f k l) (itemsOkB l) := by
  by_cases h8 : (l.length : Int) > 8
  · refine ev_some (fun k => ?_)
    unfold spec_l07OK.f itemsOkB
    rw [if_pos h8, decide_eq_false (by omega), Bool.and_false]
  · have hmain : Ev (fun k => spec_l07OK.l0 k l 0) (itemsGo (l.take 0) (l.drop 0)) := by
      refine loop_is l.length (fun k (_ : Unit) i => spec_l07OK.l0 k l i) (fun i _ => itemsGo (l.take 0) (l.drop 0) = itemsGo (l.take i) (l.drop i)) _ ?_ ?_ () rfl
      · intro i _ hi hI
        have hs := itemsGo_step l (i : Int) (by omega) (by omega)
        rw [Int.toNat_natCast, show ((i : Int) + 1).toNat = i + 1 from by omega, rd_item l i hi] at hs
        rw [hI]
        by_cases c1 : itemB l[i] = true
        · -- the earlier ones
          have hin : ∀ r, Ev (fun k => spec_l07OK.l0 k l ((i + 1 : Nat) : Int)) r → ((l.take i).any (fun y => y.f0 == l[i].f0) = false) → Ev (fun k => spec_l07OK.l1 k l i 0) r := by
            intro r hr hn
            refine loop_is i (fun k (_ : Unit) j => spec_l07OK.l1 k l i j) (fun _ _ => True) r ?_ ?_ () trivial
            · intro j _ hj _
              have hne : ¬ (l[j].f0 = l[i].f0) := fun e => by
                rw [List.any_eq_false] at hn
                have := hn l[j] (by rw [List.mem_take_iff_getElem]; exact ⟨j, by omega, rfl⟩)
                simp [e] at this
              refine .inr ⟨(), trivial, ev_next (fun k => ?_)⟩
              simp only [spec_l07OK.l1]
              rw [if_pos (by omega), if_pos (by omega), if_pos (by omega), if_pos (by omega), if_pos (by omega), rd_item l j (by omega), rd_item l i hi, if_neg hne, up64 j i hj (by omega)]
            · intro _ _
              refine Ev.step (fun k => ?_) hr
              simp only [spec_l07OK.l1]
              rw [if_neg (by omega), up64 i l.length hi (by omega)]
          cases c2 : (l.take i).any (fun y => y.f0 == l[i].f0) with
          | false =>
            refine .inr ⟨(), ?_, fun r hr => Ev.step (fun k => ?_) (hin r hr c2)⟩
            · rw [← hI, hI, hs, c1, c2]; rfl
            · simp only [spec_l07OK.l0]
              rw [if_pos (by omega), if_pos (by omega), rd_item l i hi, spec_item, c1, Option.bind_some, if_pos rfl]
          | true =>
            left
            rw [hs, c1, c2]
            refine Ev.step (f := fun k => spec_l07OK.l1 k l i 0) (fun k => ?_) ?_
            · simp only [spec_l07OK.l0]
              rw [if_pos (by omega), if_pos (by omega), rd_item l i hi, spec_item, c1, Option.bind_some, if_pos rfl]
            · refine loop_is i (fun k (_ : Unit) j => spec_l07OK.l1 k l i j) (fun j _ => (l.take j).any (fun y => y.f0 == l[i].f0) = false) _ ?_ ?_ () (by simp)
              · intro j _ hj hJ
                by_cases ce : l[j].f0 = l[i].f0
                · left
                  refine ev_end (fun k => ?_)
                  simp only [spec_l07OK.l1]
                  rw [if_pos (by omega), if_pos (by omega), if_pos (by omega), if_pos (by omega), if_pos (by omega), rd_item l j (by omega), rd_item l i hi, if_pos ce]
                  rfl
                · refine .inr ⟨(), ?_, ev_next (fun k => ?_)⟩
                  · rw [any_take l _ j (by omega), hJ, getD_get l j _ (by omega)]
                    simpa using ce
                  · simp only [spec_l07OK.l1]
                    rw [if_pos (by omega), if_pos (by omega), if_pos (by omega), if_pos (by omega), if_pos (by omega), rd_item l j (by omega), rd_item l i hi, if_neg ce, up64 j i hj (by omega)]
              · intro _ hJ
                rw [c2] at hJ
                cases hJ
        · left
          have c1' : itemB l[i] = false := by simpa using c1
          rw [hs, c1']
          refine ev_end (fun k => ?_)
          simp only [spec_l07OK.l0]
          rw [if_pos (by omega), if_pos (by omega), rd_item l i hi, spec_item, c1', Option.bind_some, if_neg (by decide)]
          rfl
      · intro _ hI
        rw [hI, List.drop_length]
        refine ev_end (fun k => ?_)
        simp only [spec_l07OK.l0]
        rw [if_neg (by omega)]
        rfl
    have e : itemsOkB l = itemsGo (l.take 0) (l.drop 0) := by
      unfold itemsOkB
      rw [decide_eq_true (show l.length ≤ 8 by omega), Bool.and_true]
      rfl
    rw [e]
    refine Ev.congr (fun k => ?_) hmain
    unfold spec_l07OK.f
    rw [if_neg h8]
theorem ev_then {α : Type} {g : Nat → Option α} {r : α} (h : Ev g r) : Ev (fun k => (g k).bind fun t => some t) r := Ev.bind h (Ev.now r)

end Go.Proofs.Ytlocignlkigojaa.Pure

-- text OChoose
namespace Go.Proofs.Ytlocignlkigojaa.Pure
open Go.RowKit Go.Proofs.Ytlocignlkigojaa.Q Go.Proofs.YtlocignlkigojaaW.PrintWords Go.Proofs.YtlocignlkigojaaW.PrintLast Go.Proofs.YtlocignlkigojaaW.PrintMore
set_option linter.unusedVariables false
set_option linter.unusedSimpArgs false
/-- the one that is chosen, and the error -/
def oneOf (l : List S26) (seed try_ : Int) : Int × Int := if itemsOkB l = true then (if (chooseL l seed try_).2 = true then ((chooseL l seed try_).1, 0) else (0, 3)) else (0, 1)
theorem impl_one_ev (l : List S26) (seed try_ : Int) : Ev (fun k => impl_ChooseOne.f k l seed try_) (oneOf l seed try_) := by
  unfold impl_ChooseOne.f impl_ItemsOk.f oneOf
  simp only [Option.bind_some]
  by_cases h : itemsOkB l = true
  · have hw := wtOk_of l h
    simp only [if_pos h]
    refine Ev.bind (impl_choose_ev l (by omega) hw.1 seed try_) (ev_some fun k => ?_)
    by_cases c : (chooseL l seed try_).2 = true
    · rw [if_pos c, if_pos c]
    · rw [if_neg c, if_neg c]
  · simp only [if_neg h]
    exact Ev.now _
end Go.Proofs.Ytlocignlkigojaa.Pure

-- text OSrc
namespace Go.Proofs.Ytlocignlkigojaa.Pure
open Go.RowKit Go.Proofs.Ytlocignlkigojaa.Q Go.Proofs.YtlocignlkigojaaW.PrintWords Go.Proofs.YtlocignlkigojaaW.PrintLast Go.Proofs.YtlocignlkigojaaW.PrintMore
set_option linter.unusedVariables false
set_option linter.unusedSimpArgs false

/-- numbers that are bytes -/
def IsBytes (l : List Int) : Prop := ∀ x ∈ l, 0 ≤ x ∧ x ≤ 255
theorem bytes_of_wf {l : List Int} (h : ∀ x ∈ l, (Lit.int .u8 x).wf = true) : IsBytes l := by
  intro x hx
  have h' : (decide (IntKind.u8.min ≤ x) && decide (x ≤ IntKind.u8.max)) = true := h x hx
  rw [Bool.and_eq_true] at h'
  have h1 := of_decide_eq_true h'.1
  have h2 := of_decide_eq_true h'.2
  have e1 : IntKind.u8.min = 0 := by decide
  have e2 : IntKind.u8.max = 255 := by decide
  omega
theorem rd_bytes {l : List Int} (h : IsBytes l) (i : Int) : 0 ≤ rd l i ∧ rd l i ≤ 255 := by
  unfold rd
  rw [List.getD_eq_getElem?_getD]
  cases e : l[i.toNat]? with
  | none => simp
  | some x => exact h x (List.mem_of_getElem? e)
theorem and255 (x : Int) : 0 ≤ Go.bits .and .u64 x 255 ∧ Go.bits .and .u64 x 255 ≤ 255 := by
  have h : (BitVec.ofInt 64 x &&& BitVec.ofInt 64 255).toNat ≤ 255 := by
    rw [BitVec.toNat_and]
    have e1 : (BitVec.ofInt 64 255).toNat = 255 := by decide
    rw [e1]
    exact Nat.and_le_right
  show 0 ≤ IntKind.u64.wrap ((BitVec.ofInt 64 x &&& BitVec.ofInt 64 255).toNat : Int) ∧ IntKind.u64.wrap ((BitVec.ofInt 64 x &&& BitVec.ofInt 64 255).toNat : Int) ≤ 255
  rw [IntKind.wrap_u64]
  omega
theorem wrap_byte (x : Int) (h : 0 ≤ x ∧ x ≤ 255) : wrap64 x = x := by unfold wrap64; omega
theorem next_is (l : List Int) (hb : IsBytes l) (p sd : Int) (h0 : 0 ≤ p) (h1 : p ≤ 4611686018427387904) : ∃ v sd', spec_l00Src_next.f l p sd = some (v, p + 1, sd') ∧ 0 ≤ v ∧ v ≤ 255 := by
  have ew : wrap64 (p + 1) = p + 1 := by unfold wrap64; omega
  have er := wrap_byte _ (rd_bytes hb p)
  have hr := rd_bytes hb p
  unfold spec_l00Src_next.f
  rw [ew, er]
  by_cases c1 : p < (l.length : Int)
  · rw [if_pos c1, if_pos h0]
    by_cases c2 : p + 1 ≤ (l.length : Int)
    · rw [if_pos c2]
      exact ⟨_, _, rfl, hr⟩
    · rw [if_neg c2]
      have h := and255 ((IntKind.u64.wrap ((IntKind.u64.wrap ((IntKind.u64.wrap (sd * 6364136223846793005)) + (IntKind.u64.wrap (rd l p)))) + 1442695040888963407)) / 1099511627776)
      refine ⟨_, _, rfl, ?_⟩
      rw [wrap_byte _ h]
      exact h
  · rw [if_neg c1]
    by_cases c2 : p + 1 ≤ (l.length : Int)
    · rw [if_pos c2]
      exact ⟨_, _, rfl, by omega, by omega⟩
    · rw [if_neg c2]
      have h := and255 ((IntKind.u64.wrap ((IntKind.u64.wrap ((IntKind.u64.wrap (sd * 6364136223846793005)) + 0)) + 1442695040888963407)) / 1099511627776)
      refine ⟨_, _, rfl, ?_⟩
      rw [wrap_byte _ h]
      exact h
theorem tmod_in (x n : Int) (hx : 0 ≤ x) (hn : 1 < n) : 0 ≤ Int.tmod x n ∧ Int.tmod x n < n := by
  rw [Int.tmod_eq_emod_of_nonneg hx]
  exact ⟨Int.emod_nonneg _ (by omega), Int.emod_lt_of_pos _ (by omega)⟩
/-- a pick of n: from 0 to n - 1, or 0 -/
theorem pick_is (l : List Int) (hb : IsBytes l) (p sd n : Int) (h0 : 0 ≤ p) (h1 : p ≤ 4611686018427387000) : ∃ v p' sd', spec_l00Src_pick.f l p sd n = some (v, p', sd') ∧ p ≤ p' ∧ p' ≤ p + 2 ∧ 0 ≤ v ∧ (v < n ∨ (n ≤ 1 ∧ v = 0)) := by
  unfold spec_l00Src_pick.f
  by_cases c1 : n ≤ 1
  · rw [if_pos c1]
    exact ⟨_, _, _, rfl, by omega, by omega, by omega, .inr ⟨c1, rfl⟩⟩
  · rw [if_neg c1]
    obtain ⟨v, sd1, e1, v0, v1⟩ := next_is l hb p sd h0 (by omega)
    rw [e1, Option.bind_some]
    by_cases c2 : n > 200
    · rw [if_pos c2]
      obtain ⟨u, sd2, e2, u0, u1⟩ := next_is l hb (p + 1) sd1 (by omega) (by omega)
      simp only
      rw [e2, Option.bind_some, if_neg (by omega)]
      have ew : wrap64 (wrap64 (v * 256) + u) = v * 256 + u := by unfold wrap64; omega
      simp only
      rw [ew]
      have h := tmod_in (v * 256 + u) n (by omega) (by omega)
      exact ⟨_, _, _, rfl, by omega, by omega, h.1, .inl h.2⟩
    · rw [if_neg c2]
      simp only
      rw [if_neg (by omega)]
      have h := tmod_in v n (by omega) (by omega)
      exact ⟨_, _, _, rfl, by omega, by omega, h.1, .inl h.2⟩
theorem pick_pos (l : List Int) (hb : IsBytes l) (p sd n : Int) (h0 : 0 ≤ p) (h1 : p ≤ 4611686018427387000) (hn : 1 ≤ n) : ∃ v p' sd', spec_l00Src_pick.f l p sd n = some (v, p', sd') ∧ p ≤ p' ∧ p' ≤ p + 2 ∧ 0 ≤ v ∧ v < n := by
  obtain ⟨v, p', sd', e, a, b, c, d⟩ := pick_is l hb p sd n h0 h1
  exact ⟨v, p', sd', e, a, b, c, by omega⟩

end Go.Proofs.Ytlocignlkigojaa.Pure

-- text ONum
namespace Go.Proofs.Ytlocignlkigojaa.Pure
open Go.RowKit Go.Proofs.Ytlocignlkigojaa.Q Go.Proofs.YtlocignlkigojaaW.PrintWords Go.Proofs.YtlocignlkigojaaW.PrintLast Go.Proofs.YtlocignlkigojaaW.PrintMore
set_option linter.unusedVariables false
set_option linter.unusedSimpArgs false

theorem among_is (l : List Int) (hb : IsBytes l) (p sd : Int) (xs : List Int) (hx : 1 ≤ xs.length) (h0 : 0 ≤ p) (h1 : p ≤ 4611686018427387000) : ∃ i p' sd', spec_l00Src_among.f l p sd xs = some (rd xs i, p', sd') ∧ p ≤ p' ∧ p' ≤ p + 2 ∧ 0 ≤ i ∧ i < xs.length := by
  obtain ⟨v, p', sd', e, a, b, c, d⟩ := pick_pos l hb p sd (xs.length : Int) h0 h1 (by omega)
  refine ⟨v, p', sd', ?_, a, b, c, d⟩
  unfold spec_l00Src_among.f
  rw [e, Option.bind_some]
  simp only
  rw [if_pos c, if_pos d]
theorem among_bind (l : List Int) (hb : IsBytes l) (p sd : Int) (xs : List Int) (h0 : 0 ≤ p) (h1 : p ≤ 4611686018427387000) (hx : 1 ≤ xs.length) : ∃ v p' sd', ((spec_l00Src_among.f l p sd xs).bind fun b => some (b.1, b.2.1, b.2.2)) = some (v, p', sd') ∧ p ≤ p' ∧ p' ≤ p + 2 := by
  obtain ⟨i, p', sd', e, a, b, _, _⟩ := among_is l hb p sd xs hx h0 h1
  rw [e, Option.bind_some]
  exact ⟨_, _, _, rfl, a, b⟩
theorem odd_is (l : List Int) (hb : IsBytes l) (p sd : Int) (h0 : 0 ≤ p) (h1 : p ≤ 4611686018427387000) : ∃ v p' sd', spec_l01Odd.f l p sd = some (v, p', sd') ∧ p ≤ p' ∧ p' ≤ p + 2 := by
  unfold spec_l01Odd.f
  exact among_bind l hb p sd _ h0 h1 (by decide)
theorem number_loop (l : List Int) (hb : IsBytes l) : ∀ (c : Nat) (x p sd : Int), c ≤ 100 → 0 ≤ p → p + c ≤ 4611686018427380000 → ∃ v p' sd', (∀ k, c < k → spec_l01Number.l0 k x c l p sd = some (v, p', sd')) ∧ p ≤ p' ∧ p' ≤ p + c
  | 0, x, p, sd, _, _, _ => by
    refine ⟨x, p, sd, fun k hk => ?_, by omega, by omega⟩
    obtain ⟨k, rfl⟩ : ∃ m, k = m + 1 := ⟨k - 1, by omega⟩
    simp only [spec_l01Number.l0]
    rw [if_neg (by omega)]
  | c + 1, x, p, sd, hc, h0, h1 => by
    obtain ⟨v, sd1, e1, _, _⟩ := next_is l hb p sd h0 (by omega)
    obtain ⟨w, p', sd', hw, a, b⟩ := number_loop l hb c (Go.bits .or .i64 (wrap64 (x * 256)) v) (p + 1) sd1 (by omega) (by omega) (by omega)
    refine ⟨w, p', sd', fun k hk => ?_, by omega, by omega⟩
    obtain ⟨k, rfl⟩ : ∃ m, k = m + 1 := ⟨k - 1, by omega⟩
    simp only [spec_l01Number.l0]
    have ec : wrap64 (((c + 1 : Nat) : Int) - 1) = (c : Int) := by unfold wrap64; omega
    rw [if_pos (by omega), e1, Option.bind_some, ec]
    exact hw k (by omega)
theorem number_is (l : List Int) (hb : IsBytes l) (p sd : Int) (h0 : 0 ≤ p) (h1 : p ≤ 4611686018427370000) : ∃ v p' sd', (∀ k, 10 ≤ k → spec_l01Number.f k l p sd = some (v, p', sd')) ∧ p ≤ p' ∧ p' ≤ p + 20 := by
  obtain ⟨c, p1, sd1, e1, a1, b1, c1, d1⟩ := pick_pos l hb p sd 3 h0 (by omega) (by omega)
  by_cases g0 : c = 0
  · obtain ⟨v, p', sd', e2, a2, b2⟩ := odd_is l hb p1 sd1 (by omega) (by omega)
    refine ⟨v, p', sd', fun k _ => ?_, by omega, by omega⟩
    unfold spec_l01Number.f
    rw [e1, Option.bind_some]
    simp only
    rw [if_pos g0, e2, Option.bind_some]
  · by_cases g1 : c = 1
    · obtain ⟨v, p', sd', e2, a2, b2, _, _⟩ := pick_pos l hb p1 sd1 300 (by omega) (by omega) (by omega)
      refine ⟨v, p', sd', fun k _ => ?_, by omega, by omega⟩
      unfold spec_l01Number.f
      rw [e1, Option.bind_some]
      simp only
      rw [if_neg g0, if_pos g1, e2, Option.bind_some]
    · obtain ⟨n, p2, sd2, e2, a2, b2, n0, n1⟩ := pick_pos l hb p1 sd1 9 (by omega) (by omega) (by omega)
      obtain ⟨m, rfl⟩ := Int.eq_ofNat_of_zero_le n0
      obtain ⟨v, p', sd', e3, a3, b3⟩ := number_loop l hb m 0 p2 sd2 (by omega) (by omega) (by omega)
      refine ⟨v, p', sd', fun k hk => ?_, by omega, by omega⟩
      unfold spec_l01Number.f
      rw [e1, Option.bind_some]
      simp only
      rw [if_neg g0, if_neg g1, e2, Option.bind_some]
      exact e3 k (by omega)
theorem A8Number_is (l : List Int) (hb : IsBytes l) : ∃ v, ∀ k, 10 ≤ k → spec_A8Number.f k l = some v := by
  obtain ⟨v, p', sd', e, _, _⟩ := number_is l hb 0 0 (by omega) (by omega)
  refine ⟨v, fun k hk => ?_⟩
  unfold spec_A8Number.f spec_l00From.f
  simp only [Option.bind_some]
  rw [e k hk, Option.bind_some]
theorem a8At_is (l : List Int) (hb : IsBytes l) (hl : l.length ≤ 1048576) (i n : Int) (h0 : 0 ≤ i) (h1 : i ≤ 1000000000) (hn : n ≤ 1000000000) : ∃ v, laws_a8At.f l i n = some v ∧ 0 ≤ v ∧ (v < n ∨ (n ≤ 1 ∧ v = 0)) := by
  unfold laws_a8At.f
  by_cases c1 : n ≤ 1
  · rw [if_pos c1]; exact ⟨0, rfl, by omega, .inr ⟨c1, rfl⟩⟩
  · rw [if_neg c1]
    by_cases c2 : (l.length : Int) = 0
    · rw [if_pos c2, if_neg (by omega)]
      have ew : wrap64 (i * 7) = i * 7 := by unfold wrap64; omega
      have h := tmod_in (i * 7) n (by omega) (by omega)
      rw [ew]
      exact ⟨_, rfl, h.1, .inl h.2⟩
    · rw [if_neg c2]
      have hp : (0 : Int) < (l.length : Int) := by omega
      have t0 : ∀ x : Int, 0 ≤ x → 0 ≤ Int.tmod x (l.length : Int) ∧ Int.tmod x (l.length : Int) < (l.length : Int) := fun x hx => by
        rw [Int.tmod_eq_emod_of_nonneg hx]
        exact ⟨Int.emod_nonneg _ (by omega), Int.emod_lt_of_pos _ hp⟩
      have e1 : wrap64 (i + 1) = i + 1 := by unfold wrap64; omega
      have s0 := t0 i h0
      have s1 := t0 (i + 1) (by omega)
      rw [if_pos s0.1, if_pos s0.2, e1, if_pos s1.1, if_pos s1.2, if_neg (by omega)]
      have r0 := rd_bytes hb (Int.tmod i (l.length : Int))
      have r1 := rd_bytes hb (Int.tmod (i + 1) (l.length : Int))
      generalize rd l (Int.tmod i (l.length : Int)) = x at r0
      generalize rd l (Int.tmod (i + 1) (l.length : Int)) = y at r1
      have q0 : 0 ≤ Int.tdiv i (l.length : Int) ∧ Int.tdiv i (l.length : Int) ≤ i := by
        rw [Int.tdiv_eq_ediv_of_nonneg h0]
        exact ⟨Int.ediv_nonneg h0 (by omega), Int.ediv_le_self _ h0⟩
      generalize Int.tdiv i (l.length : Int) = z at q0
      have ew : wrap64 (wrap64 (wrap64 (wrap64 x * 31) + wrap64 y) + wrap64 z) = x * 31 + y + z := by unfold wrap64; omega
      have h := tmod_in (x * 31 + y + z) n (by omega) (by omega)
      rw [ew]
      exact ⟨_, rfl, h.1, .inl h.2⟩
theorem a8At_pos (l : List Int) (hb : IsBytes l) (hl : l.length ≤ 1048576) (i n : Int) (h0 : 0 ≤ i) (h1 : i ≤ 1000000000) (hn : n ≤ 1000000000) (hp : 1 ≤ n) : ∃ v, laws_a8At.f l i n = some v ∧ 0 ≤ v ∧ v < n := by
  obtain ⟨v, e, a, b⟩ := a8At_is l hb hl i n h0 h1 hn
  exact ⟨v, e, a, by omega⟩

end Go.Proofs.Ytlocignlkigojaa.Pure

-- text OItemDraw
namespace Go.Proofs.Ytlocignlkigojaa.Pure
open Go.RowKit Go.Proofs.Ytlocignlkigojaa.Q Go.Proofs.YtlocignlkigojaaW.PrintWords Go.Proofs.YtlocignlkigojaaW.PrintLast Go.Proofs.YtlocignlkigojaaW.PrintMore
set_option linter.unusedVariables false
set_option linter.unusedSimpArgs false

/-- the Ids n, n - 1, .., 1 -/
def down : Nat → List Int
  | 0 => []
  | n + 1 => ((n + 1 : Nat) : Int) :: down n
theorem down_length : ∀ n, (down n).length = n
  | 0 => rfl
  | n + 1 => by simp [down, down_length n]
theorem items_go_down : ∀ (n : Nat) (xs seen : List S26), xs.map (·.f0) = down n → (∀ x ∈ xs, 0 ≤ x.f1 ∧ x.f1 ≤ 128) → (∀ y ∈ seen, (n : Int) < y.f0) → n ≤ 15 → itemsGo seen xs = true
  | 0, xs, seen, hm, _, _, _ => by
    have : xs = [] := by
      cases xs with
      | nil => rfl
      | cons x xs => simp [down] at hm
    subst this
    rfl
  | n + 1, xs, seen, hm, hw, hs, hn => by
    cases xs with
    | nil => simp [down] at hm
    | cons x xs =>
      simp only [List.map_cons, down, List.cons.injEq] at hm
      obtain ⟨h1, h2⟩ := hm
      have hx := hw x (by simp)
      unfold itemsGo
      have e1 : itemB x = true := by
        unfold itemB inB
        simp only [Bool.and_eq_true, decide_eq_true_eq]
        omega
      have e2 : (seen.any fun y => y.f0 == x.f0) = false := by
        rw [List.any_eq_false]
        intro y hy
        have := hs y hy
        simp
        omega
      rw [e1, e2, items_go_down n xs (seen ++ [x]) h2 (fun y hy => hw y (by simp [hy])) (fun y hy => ?_) (by omega)]
      · rfl
      · rcases List.mem_append.1 hy with hy | hy
        · have := hs y hy; omega
        · simp at hy; subst hy; omega
theorem items_ok_down (n : Nat) (xs : List S26) (hm : xs.map (·.f0) = down n) (hw : ∀ x ∈ xs, 0 ≤ x.f1 ∧ x.f1 ≤ 128) (hn : n ≤ 5) : itemsOkB xs = true := by
  have hl : xs.length = n := by
    have := congrArg List.length hm
    simpa [down_length] using this
  unfold itemsOkB
  rw [items_go_down n xs [] hm hw (fun y hy => by simp at hy) (by omega), Bool.true_and]
  exact decide_eq_true (by omega)
theorem draw_loop (l : List Int) (hb : IsBytes l) : ∀ (c : Nat) (xs : List S26) (p sd : Int), c ≤ 100 → xs.length + c ≤ 1000 → 0 ≤ p → p + 2 * c ≤ 4611686018427380000 →
    ∃ ys p' sd', (∀ k, c < k → spec_l07Draw.l0 k xs c l p sd = some (xs ++ ys, p', sd')) ∧ ys.map (·.f0) = down c ∧ ∀ y ∈ ys, 0 ≤ y.f1 ∧ y.f1 ≤ 8
  | 0, xs, p, sd, _, _, _, _ => by
    refine ⟨[], p, sd, fun k hk => ?_, rfl, fun y hy => by simp at hy⟩
    obtain ⟨k, rfl⟩ : ∃ m, k = m + 1 := ⟨k - 1, by omega⟩
    simp only [spec_l07Draw.l0]
    rw [if_neg (by omega), List.append_nil]
  | c + 1, xs, p, sd, hc, hx, h0, h1 => by
    obtain ⟨v, p1, sd1, e1, a1, b1, v0, v1⟩ := pick_pos l hb p sd 9 h0 (by omega) (by omega)
    obtain ⟨ys, p', sd', hk, hm, hw⟩ := draw_loop l hb c (xs ++ [⟨((c + 1 : Nat) : Int), v⟩]) p1 sd1 (by omega) (by simp; omega) (by omega) (by omega)
    refine ⟨⟨((c + 1 : Nat) : Int), v⟩ :: ys, p', sd', fun k hk' => ?_, by simp [down, hm], fun y hy => ?_⟩
    · obtain ⟨k, rfl⟩ : ∃ m, k = m + 1 := ⟨k - 1, by omega⟩
      simp only [spec_l07Draw.l0]
      have ec : wrap64 (((c + 1 : Nat) : Int) - 1) = (c : Int) := by unfold wrap64; omega
      rw [if_pos (by omega), e1, Option.bind_some]
      simp only
      rw [if_pos (by omega), ec, hk k (by omega), List.append_assoc]
      rfl
    · rcases List.mem_cons.1 hy with rfl | hy
      · exact ⟨v0, by simp only; omega⟩
      · exact hw y hy
/-- the law's items: at most five, the Ids going down to 1, the weights 0 to 8 -/
theorem A8Items_is (l : List Int) (hb : IsBytes l) : ∃ (n : Nat) (xs : List S26), (∀ k, 20 ≤ k → spec_A8Items.f k l = some xs) ∧ n ≤ 5 ∧ xs.map (·.f0) = down n ∧ ∀ x ∈ xs, 0 ≤ x.f1 ∧ x.f1 ≤ 8 := by
  obtain ⟨c, p1, sd1, e1, a1, b1, c0, c1⟩ := pick_pos l hb 0 0 6 (by omega) (by omega) (by omega)
  obtain ⟨n, rfl⟩ := Int.eq_ofNat_of_zero_le c0
  obtain ⟨ys, p', sd', hk, hm, hw⟩ := draw_loop l hb n [] p1 sd1 (by omega) (by simp; omega) (by omega) (by omega)
  refine ⟨n, ys, fun k hk' => ?_, by omega, hm, hw⟩
  unfold spec_A8Items.f spec_l00From.f spec_l07Draw.f
  simp only [Option.bind_some]
  rw [e1, Option.bind_some]
  simp only
  rw [hk k (by omega)]
  rfl

/-! who is chosen, as a property -/
/-- s is the highest ticket of all and who has it, the first of several; or nobody has one -/
def Won (l : List S26) (seed try_ : Int) (s : Int × Int) : Prop :=
  (s = (-1, 0) ∧ ∀ x ∈ l, bestOf x seed try_ ≤ -1) ∨ ∃ (i : Nat) (h : i < l.length), s = (bestOf l[i] seed try_, l[i].f0) ∧ 0 ≤ s.1 ∧ ∀ (j : Nat) (hj : j < l.length), bestOf l[j] seed try_ ≤ s.1 ∧ (j < i → bestOf l[j] seed try_ < s.1)
theorem bestOf_range (x : S26) (seed try_ : Int) : -1 ≤ bestOf x seed try_ ∧ (0 < x.f1 → 0 ≤ bestOf x seed try_) ∧ (x.f1 ≤ 0 → bestOf x seed try_ = -1) := by
  have h := bestN_range x.f0 seed try_ x.f1.toNat
  unfold bestOf
  refine ⟨h.1, fun hp => h.2.2 (by omega), fun hn => ?_⟩
  have e : x.f1.toNat = 0 := by omega
  rw [e]
  rfl
theorem won_step (l : List S26) (seed try_ : Int) (s : Int × Int) (x : S26) (h : Won l seed try_ s) : Won (l ++ [x]) seed try_ (pickStep seed try_ s x) := by
  have hr := bestOf_range x seed try_
  unfold pickStep
  have hget : ∀ (j : Nat) (hj : j < l.length), (l ++ [x])[j]'(by simp; omega) = l[j] := fun j hj => List.getElem_append_left hj
  have hlast : (l ++ [x])[l.length]'(by simp) = x := by simp
  by_cases c : bestOf x seed try_ > s.1
  · rw [if_pos c]
    have hs : -1 ≤ s.1 := by
      rcases h with ⟨rfl, _⟩ | ⟨i, hi, _, h0, _⟩
      · simp
      · omega
    refine .inr ⟨l.length, by simp, by rw [hlast], by simp only; omega, fun j hj => ?_⟩
    simp only
    by_cases e : j < l.length
    · rw [hget j e]
      have hle : bestOf l[j] seed try_ ≤ s.1 := by
        rcases h with ⟨rfl, ha⟩ | ⟨i, hi, _, h0, ha⟩
        · exact ha _ (List.getElem_mem e)
        · exact (ha j e).1
      exact ⟨by omega, fun _ => by omega⟩
    · have : j = l.length := by simp at hj; omega
      subst this
      rw [hlast]
      exact ⟨by omega, fun h => absurd h (Nat.lt_irrefl _)⟩
  · rw [if_neg c]
    rcases h with ⟨rfl, ha⟩ | ⟨i, hi, hs, h0, ha⟩
    · refine .inl ⟨rfl, fun y hy => ?_⟩
      rcases List.mem_append.1 hy with hy | hy
      · exact ha y hy
      · simp at hy; subst hy; simp only at c; omega
    · refine .inr ⟨i, by simp; omega, by rw [hget i hi]; exact hs, h0, fun j hj => ?_⟩
      by_cases e : j < l.length
      · rw [hget j e]; exact ha j e
      · have : j = l.length := by simp at hj; omega
        subst this
        rw [hlast]
        exact ⟨by omega, fun h => by omega⟩
theorem won_fold (seed try_ : Int) : ∀ (ys l : List S26) (s : Int × Int), Won l seed try_ s → Won (l ++ ys) seed try_ (ys.foldl (pickStep seed try_) s)
  | [], l, s, h => by simpa using h
  | y :: ys, l, s, h => by
    have := won_fold seed try_ ys (l ++ [y]) _ (won_step l seed try_ s y h)
    simpa using this
theorem won_pick (l : List S26) (seed try_ : Int) : Won l seed try_ (pickL l seed try_) := by
  have := won_fold seed try_ l [] (-1, 0) (.inl ⟨rfl, fun x hx => by simp at hx⟩)
  rw [List.nil_append] at this
  exact this
theorem won_unique (l : List S26) (seed try_ : Int) (s t : Int × Int) (hs : Won l seed try_ s) (ht : Won l seed try_ t) : s = t := by
  rcases hs with ⟨rfl, ha⟩ | ⟨i, hi, hs, h0, ha⟩
  · rcases ht with ⟨rfl, _⟩ | ⟨j, hj, ht, g0, _⟩
    · rfl
    · have := ha _ (List.getElem_mem hj)
      rw [ht] at g0
      simp only at g0
      omega
  · rcases ht with ⟨rfl, hb⟩ | ⟨j, hj, ht, g0, hb⟩
    · have := hb _ (List.getElem_mem hi)
      rw [hs] at h0
      simp only at h0
      omega
    · have e1 := ha j hj
      have e2 := hb i hi
      have s1 : s.1 = bestOf l[i] seed try_ := by rw [hs]
      have t1 : t.1 = bestOf l[j] seed try_ := by rw [ht]
      have hij : i = j := by
        rcases Nat.lt_trichotomy i j with h | h | h
        · have := e2.2 h; omega
        · exact h
        · have := e1.2 h; omega
      subst hij
      rw [hs, ht]
/-- somebody is chosen just where there is a weight -/
theorem chosen_iff (l : List S26) (seed try_ : Int) : (chooseL l seed try_).2 = true ↔ ∃ x ∈ l, 0 < x.f1 := by
  have h := won_pick l seed try_
  unfold chooseL
  rw [decide_eq_true_eq]
  constructor
  · intro h0
    rcases h with ⟨e, _⟩ | ⟨i, hi, hs, g0, _⟩
    · rw [e] at h0; simp at h0
    · refine ⟨l[i], List.getElem_mem hi, ?_⟩
      rcases Int.lt_or_le 0 l[i].f1 with c | c
      · exact c
      · have := (bestOf_range l[i] seed try_).2.2 c
        rw [hs] at g0
        simp only at g0
        omega
  · rintro ⟨x, hx, hw⟩
    have hb := (bestOf_range x seed try_).2.1 hw
    rcases h with ⟨_, ha⟩ | ⟨i, hi, hs, g0, _⟩
    · have := ha x hx; omega
    · exact g0

end Go.Proofs.Ytlocignlkigojaa.Pure

-- text ODraws
namespace Go.Proofs.Ytlocignlkigojaa.Pure
open Go.RowKit Go.Proofs.Ytlocignlkigojaa.Q Go.Proofs.YtlocignlkigojaaW.PrintWords Go.Proofs.YtlocignlkigojaaW.PrintLast Go.Proofs.YtlocignlkigojaaW.PrintMore
set_option linter.unusedVariables false
set_option linter.unusedSimpArgs false
/-- the first draws -/
def drawsN (l : List S26) (seed : Int) (n : Nat) : List Int := (List.range n).map fun (i : Nat) => (chooseL l seed (i : Int)).1
/-- whether every try of the first ones draws -/
def drawsOk (l : List S26) (seed : Int) (n : Nat) : Bool := (List.range n).all fun (i : Nat) => (chooseL l seed (i : Int)).2
def drawsOf (l : List S26) (seed tries : Int) : List Int × Int := if itemsOkB l = true then (if inB tries 0 30 = true then (if drawsOk l seed tries.toNat = true then (drawsN l seed tries.toNat, 0) else ([], 3)) else ([], 2)) else ([], 1)
theorem drawsN_length (l : List S26) (seed : Int) (n : Nat) : (drawsN l seed n).length = n := by simp [drawsN]
theorem drawsN_succ (l : List S26) (seed : Int) (n : Nat) : drawsN l seed (n + 1) = drawsN l seed n ++ [(chooseL l seed (n : Int)).1] := by simp [drawsN, List.range_succ]
theorem drawsOk_false (l : List S26) (seed : Int) (n i : Nat) (hi : i < n) (h : (chooseL l seed (i : Int)).2 = false) : drawsOk l seed n = false := by
  unfold drawsOk
  rw [List.all_eq_false]
  exact ⟨i, by simpa using hi, by simp [h]⟩
theorem impl_draws_ev (l : List S26) (seed tries : Int) : Ev (fun k => impl_Draws.f k l seed tries) (drawsOf l seed tries) := by
  unfold impl_Draws.f impl_ItemsOk.f drawsOf
  simp only [Option.bind_some, between_inB]
  by_cases h : itemsOkB l = true
  · have hw := wtOk_of l h
    simp only [if_pos h]
    by_cases ht : inB tries 0 30 = true
    · simp only [if_pos ht]
      unfold inB at ht
      simp only [Bool.and_eq_true, decide_eq_true_eq] at ht
      obtain ⟨n, rfl⟩ := Int.eq_ofNat_of_zero_le ht.1
      rw [Int.toNat_natCast]
      refine loop_is n (fun k s i => impl_Draws.l0 k l seed s n i) (fun i s => s = drawsN l seed i ∧ ∀ j, j < i → (chooseL l seed (j : Int)).2 = true) _ ?_ ?_ [] ⟨rfl, fun j hj => absurd hj (Nat.not_lt_zero j)⟩
      · rintro i s hi ⟨rfl, hall⟩
        have hst : ∀ r, Ev (fun k => if (chooseL l seed (i : Int)).2 = true then (if (drawsN l seed i).length < 17592186044416 then impl_Draws.l0 k l seed (drawsN l seed i ++ [(chooseL l seed (i : Int)).1]) n ((i + 1 : Nat) : Int) else none) else some (([] : List Int), (3 : Int))) r → Ev (fun k => impl_Draws.l0 k l seed (drawsN l seed i) n (i : Int)) r := fun r hr => by
          refine Ev.step (f := ?f) (fun k => ?_) ?_
          rotate_left
          · simp only [impl_Draws.l0]
            rw [if_pos (by omega), up64 i n hi (by omega)]
            all_goals exact rfl
          · exact Ev.bind (impl_choose_ev l (by omega) hw.1 seed i) hr
        cases hc : (chooseL l seed (i : Int)).2 with
        | true =>
          refine .inr ⟨drawsN l seed (i + 1), ⟨rfl, fun j hj => ?_⟩, fun r hr => hst r (Ev.congr (fun k => ?_) hr)⟩
          · rcases Nat.lt_succ_iff_lt_or_eq.1 hj with hj | rfl
            · exact hall j hj
            · exact hc
          · rw [if_pos hc, if_pos (by rw [drawsN_length]; omega), drawsN_succ]
        | false =>
          left
          rw [if_neg (by rw [drawsOk_false l seed n i hi hc]; decide)]
          exact hst _ (ev_some fun k => by rw [if_neg (by rw [hc]; decide)])
      · rintro s ⟨rfl, hall⟩
        rw [if_pos (by unfold drawsOk; rw [List.all_eq_true]; intro j hj; exact hall j (by simpa using hj))]
        refine ev_end (fun k => ?_)
        simp only [impl_Draws.l0]
        rw [if_neg (by omega)]
    · simp only [if_neg ht]
      exact Ev.now _
  · simp only [if_neg h]
    exact Ev.now _
theorem drawsOf_length (l : List S26) (seed tries : Int) : (drawsOf l seed tries).1.length ≤ 30 := by
  unfold drawsOf
  split
  · split
    · rename_i ht
      unfold inB at ht
      simp only [Bool.and_eq_true, decide_eq_true_eq] at ht
      split
      · simp only [drawsN_length]; omega
      · simp
    · simp
  · simp
end Go.Proofs.Ytlocignlkigojaa.Pure

-- text PureFnShares
namespace Go.Proofs.Ytlocignlkigojaa.Pure
open Go.RowKit Go.Proofs.Ytlocignlkigojaa.Q Go.Proofs.YtlocignlkigojaaW.PrintWords Go.Proofs.YtlocignlkigojaaW.PrintLast Go.Proofs.YtlocignlkigojaaW.PrintMore
set_option linter.unusedVariables false
set_option linter.unusedSimpArgs false

theorem impl_ticket_ev (id u s t : Int) : Ev (fun k => impl_TicketOf.f k id u s t) (ticket id u s t) := ev_of (K := 5) fun k hk => impl_ticket id u s t k (by omega)
/-- the highest and who has it, behind the first n tickets of one more -/
def unitStep (s : Int × Int) (id seed try_ : Int) (n : Nat) : Int × Int := if bestN id seed try_ n > s.1 then (bestN id seed try_ n, id) else s
theorem unit_succ (s : Int × Int) (hs : -1 ≤ s.1) (id seed try_ : Int) (n : Nat) : unitStep s id seed try_ (n + 1) = if ticket id n seed try_ > (unitStep s id seed try_ n).1 then (ticket id n seed try_, id) else unitStep s id seed try_ n := by
  have e : bestN id seed try_ (n + 1) = max (bestN id seed try_ n) (ticket id n seed try_) := rfl
  simp only [unitStep, e]
  by_cases c1 : bestN id seed try_ n > s.1
  · simp only [if_pos c1]
    by_cases c2 : ticket id n seed try_ > bestN id seed try_ n
    · have e2 : max (bestN id seed try_ n) (ticket id n seed try_) = ticket id n seed try_ := by omega
      simp only [e2, if_pos c2, if_pos (show ticket id n seed try_ > s.1 by omega)]
    · have e2 : max (bestN id seed try_ n) (ticket id n seed try_) = bestN id seed try_ n := by omega
      simp only [e2, if_neg c2, if_pos c1]
  · simp only [if_neg c1]
    by_cases c2 : ticket id n seed try_ > s.1
    · have e2 : max (bestN id seed try_ n) (ticket id n seed try_) = ticket id n seed try_ := by omega
      simp only [e2, if_pos c2]
    · simp only [if_neg c2, if_neg (show ¬ (max (bestN id seed try_ n) (ticket id n seed try_) > s.1) by omega)]
theorem fold_low (seed try_ : Int) (l : List S26) (i : Nat) : -1 ≤ ((l.take i).foldl (pickStep seed try_) (-1, 0)).1 := by
  have h := won_pick (l.take i) seed try_
  unfold pickL at h
  rcases h with ⟨e, _⟩ | ⟨j, hj, _, h0, _⟩
  · rw [e]; simp
  · omega
theorem shares_units (l : List S26) (hl : l.length ≤ 5) (hw : ∀ x ∈ l, 0 ≤ x.f1 ∧ x.f1 ≤ 8) (seed t : Int) (i : Nat) (hi : i < l.length) (s : Int × Int) (hs : -1 ≤ s.1) (r : Bool)
    (hr : Ev (fun k => laws_FnShares.l0 k l seed t (pickStep seed t s l[i]).1 (pickStep seed t s l[i]).2 ((i + 1 : Nat) : Int)) r) : Ev (fun k => laws_FnShares.l1 k l seed t s.1 s.2 i 0) r := by
  have hx := hw l[i] (List.getElem_mem hi)
  obtain ⟨n, hn⟩ := Int.eq_ofNat_of_zero_le hx.1
  have hp : pickStep seed t s l[i] = unitStep s l[i].f0 seed t n := by
    unfold pickStep unitStep bestOf
    rw [hn, Int.toNat_natCast]
  rw [hp] at hr
  refine loop_is n (fun k (u : Int × Int) j => laws_FnShares.l1 k l seed t u.1 u.2 i j) (fun j u => u = unitStep s l[i].f0 seed t j) r ?_ ?_ s ((if_neg (show ¬ (bestN l[i].f0 seed t 0 > s.1) by simp only [bestN]; omega)).symm)
  · rintro j u hj rfl
    have ht := ticket_range l[i].f0 j seed t
    refine .inr ⟨_, rfl, fun q hq => Ev.step (f := ?f) (fun k => ?_) ?_⟩
    rotate_left
    · simp only [laws_FnShares.l1]
      rw [if_pos (by omega), if_pos (by omega), rd_item l i hi, hn, if_pos (by omega), up64 j n hj (by omega)]
      all_goals exact rfl
    · refine Ev.bind (impl_ticket_ev _ _ _ _) ?_
      simp only [show ¬ (ticket l[i].f0 j seed t < 0) by omega, if_false]
      rw [unit_succ s hs] at hq
      by_cases c : ticket l[i].f0 j seed t > (unitStep s l[i].f0 seed t j).1
      · rw [if_pos c] at hq
        simp only [if_pos c]
        exact hq
      · rw [if_neg c] at hq
        simp only [if_neg c]
        exact hq
  · rintro u rfl
    refine Ev.step (fun k => ?_) hr
    simp only [laws_FnShares.l1]
    rw [if_pos (by omega), if_pos (by omega), rd_item l i hi, hn, if_neg (by omega), up64 i l.length hi (by omega)]
theorem shares_end (l : List S26) (hok : itemsOkB l = true) (seed t : Int) (t0 : 0 ≤ t) (t1 : t < 9) :
    Ev (fun k => (impl_ChooseOne.f k l seed t).bind fun b => (if (pickL l seed t).1 < 0 then (some (b.2 == 3)) else ((impl_Draws.f k l seed (wrap64 (t + 1))).bind fun d => (if b.2 = 0 then (if b.1 = (pickL l seed t).2 then (if d.2 = 0 then (if (d.1.length : Int) = (wrap64 (t + 1)) then (if 0 ≤ t then (if t < (d.1.length : Int) then (some ((rd d.1 t) == (pickL l seed t).2)) else (none)) else (none)) else (some false)) else (some false)) else (some false)) else (some false))))) true := by
  have ew : wrap64 (t + 1) = t + 1 := by unfold wrap64; omega
  refine Ev.bind (impl_one_ev l seed t) ?_
  by_cases c : (pickL l seed t).1 < 0
  · simp only [if_pos c]
    refine ev_some fun k => ?_
    unfold oneOf chooseL
    rw [if_pos hok, if_neg (by simp; omega)]
    rfl
  · simp only [if_neg c, ew]
    have hsome : (chooseL l seed t).2 = true := by unfold chooseL; exact decide_eq_true (by omega)
    have hex := (chosen_iff l seed t).1 hsome
    have hone : oneOf l seed t = ((pickL l seed t).2, 0) := by
      unfold oneOf
      rw [if_pos hok, if_pos hsome]
      rfl
    have hall : drawsOk l seed (t + 1).toNat = true := by
      unfold drawsOk
      rw [List.all_eq_true]
      intro j _
      exact (chosen_iff l seed j).2 hex
    have hin : inB (t + 1) 0 30 = true := by
      unfold inB
      rw [decide_eq_true (show (0 : Int) ≤ t + 1 by omega), decide_eq_true (show t + 1 ≤ 30 by omega)]
      rfl
    have hd : drawsOf l seed (t + 1) = (drawsN l seed (t + 1).toNat, 0) := by
      unfold drawsOf
      rw [if_pos hok, if_pos hin, if_pos hall]
    refine Ev.bind (impl_draws_ev l seed (t + 1)) (ev_some fun k => ?_)
    rw [hone, hd]
    simp only
    have hlen : ((drawsN l seed (t + 1).toNat).length : Int) = t + 1 := by rw [drawsN_length]; omega
    simp only [if_true]
    rw [if_pos hlen, if_pos t0, if_pos (by omega)]
    obtain ⟨n, rfl⟩ := Int.eq_ofNat_of_zero_le t0
    have hn : n < (drawsN l seed ((n : Int) + 1).toNat).length := by rw [drawsN_length]; omega
    have e : rd (drawsN l seed ((n : Int) + 1).toNat) (n : Int) = (pickL l seed n).2 := by
      unfold rd
      rw [Int.toNat_natCast, getD_get _ n 0 hn]
      unfold drawsN chooseL
      simp
    rw [e]
    simp
theorem FnShares : laws_FnShares.Pure := by
  intro l0 _ _ hwf
  have hb := bytes_of_wf hwf
  by_cases h : (l0.length : Int) > 1048576
  · exact ⟨0, by unfold laws_FnShares.f; rw [if_pos h]⟩
  · obtain ⟨n, xs, hx, hn, hm, hw⟩ := A8Items_is l0 hb
    obtain ⟨seed, hs⟩ := A8Number_is l0 hb
    obtain ⟨t, ht, t0, t1⟩ := a8At_pos l0 hb (by omega) 0 9 (by omega) (by omega) (by omega) (by omega)
    have hlen : xs.length = n := by
      have := congrArg List.length hm
      simpa [down_length] using this
    have hok := items_ok_down n xs hm (fun x hx => by have := hw x hx; omega) hn
    refine Ev.rounds (r := true) ?_
    unfold laws_FnShares.f
    simp only [if_neg h]
    refine Ev.bind (ev_of hx) (Ev.bind (ev_of hs) ?_)
    simp only [ht, Option.bind_some]
    refine loop_is xs.length (fun k (s : Int × Int) i => laws_FnShares.l0 k xs seed t s.1 s.2 i) (fun i s => s = (xs.take i).foldl (pickStep seed t) (-1, 0)) _ ?_ ?_ (-1, 0) rfl
    · rintro i s hi rfl
      refine .inr ⟨_, rfl, fun r hr => Ev.step (f := fun k => laws_FnShares.l1 k xs seed t ((xs.take i).foldl (pickStep seed t) (-1, 0)).1 ((xs.take i).foldl (pickStep seed t) (-1, 0)).2 i 0) (fun k => ?_) ?_⟩
      · simp only [laws_FnShares.l0]
        rw [if_pos (by omega)]
      · rw [pick_take xs i hi] at hr
        exact shares_units xs (by omega) hw seed t i hi _ (fold_low seed t xs i) r hr
    · rintro s rfl
      have e : (xs.take xs.length).foldl (pickStep seed t) (-1, 0) = pickL xs seed t := by rw [List.take_length]; rfl
      rw [e]
      refine Ev.step (fun k => ?_) (shares_end xs hok seed t t0 t1)
      simp only [laws_FnShares.l0]
      rw [if_neg (by omega)]

end Go.Proofs.Ytlocignlkigojaa.Pure
