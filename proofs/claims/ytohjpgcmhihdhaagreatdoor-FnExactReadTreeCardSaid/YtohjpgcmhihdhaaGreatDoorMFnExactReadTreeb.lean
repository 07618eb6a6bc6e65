/- Walks and plain laws of one claim, several texts in one. -/
import Derived.Test.YtohjpgcmhihdhaaGreatDoorQ0
import Derived.Test.YtohjpgcmhihdhaaGreatDoorMFnExactReadTreea
import Derived.Test.YtohjpgcmhihdhaaGreatDoorQf24
import Derived.Test.YtohjpgcmhihdhaaGreatDoorQf25
import Derived.Test.YtohjpgcmhihdhaaGreatDoorORead2
import Derived.Test.YtohjpgcmhihdhaaGreatDoorOLTree
import Derived.Test.YtohjpgcmhihdhaaGreatDoorOLInt
import Derived.Test.YtohjpgcmhihdhaaGreatDoorQf6
namespace Go.Proofs.YtohjpgcmhihdhaaGreatDoor.Q
open Go.RowKit Go.Proofs.YtohjpgcmhihdhaaGreatDoorW.PrintWords Go.Proofs.YtohjpgcmhihdhaaGreatDoorW.PrintLast Go.Proofs.YtohjpgcmhihdhaaGreatDoorW.PrintMore
attribute [local go_sem] max2_int min2_int max_two min_two max_three min_three max_four min_four   -- for this text's walks alone
set_option linter.unusedVariables false
set_option linter.unusedSimpArgs false
/-! ### spec_l00Own: function 26 -/
def spec_l00Own.f (l0 : List Int) : Option (List Int) := (some (([] : List Int) : List Int)).bind fun y218 => (if y218.length + l0.length < 17592186044416 then (some (y218 ++ l0)) else (none))
set_option maxHeartbeats 8000000 in
set_option maxRecDepth 100000 in
theorem spec_l00Own.calls (A0 : Option Addr) (c0 : Nat) (l0 : List Int) (r : List Int) (w : World) (hr0 : Kd.C (Kd.int .i64) w A0 l0.length l0) (hc0 : l0.length ≤ c0) (h : spec_l00Own.f l0 = some r) :
    Calls Tryz.prog 26 #[.slice A0 l0.length c0] w fun e w' => ∃ v0_ : Value, e = .returned (v0_) ∧ Kd.R (Kd.int .i64) 2 w' w.heap.size (fun _ => True) v0_ r ∧ Below w.heap.size w w' := by
  have HR0 := Aside0.mk hr0
  have HC0 := Aside0.mk hc0
  clear hr0 hc0
  have HB := Aside0.mk (Below.refl w.heap.size w)
  have H : ((some (([] : List Int) : List Int)).bind fun y218 => (if y218.length + l0.length < 17592186044416 then (some (y218 ++ l0)) else (none))) = some r := h
  clear h
  obtain ⟨y218, hy218⟩ : ∃ y_ : List Int, y_ = (([] : List Int)) := ⟨_, rfl⟩
  replace H : (if y218.length + l0.length < 17592186044416 then (some (y218 ++ l0)) else (none)) = some r := by first | (rw [hy218]; with_reducible exact H) | (have H2_ := (Option.bind_some _ _).symm.trans H; rw [hy218]; with_reducible exact H2_) | (have H2_ := (Option.bind_some _ _).symm.trans H; with_reducible exact H2_) | with_reducible exact H | (rw [hy218]; exact H) | exact H
  have Ny218 := Aside0.mk hy218
  clear hy218
  by_cases c2 : y218.length + l0.length < 17592186044416
  · rw [if_pos c2] at H
    have LMc2 := Aside0.mk c2
    clear c2
    obtain ⟨y221, hy221⟩ : ∃ y_ : List Int, y_ = (y218 ++ l0) := ⟨_, rfl⟩
    replace H : (some y221) = some r := by first | (rw [hy221]; with_reducible exact H) | (have H2_ := (Option.bind_some _ _).symm.trans H; rw [hy221]; with_reducible exact H2_) | (have H2_ := (Option.bind_some _ _).symm.trans H; with_reducible exact H2_) | with_reducible exact H | (rw [hy221]; exact H) | exact H
    have Ny221 := Aside0.mk hy221
    clear hy221
    obtain rfl := Option.some.inj H
    go_enter Tryz.func26, Tryz.ntmps26
    go_wp2_with (first | ((with_reducible refine gate_dst (N := 3) rfl ?_); refine Kd.R_lit (Kd.int .i64) _ 2 ?hg (N := 3) ?hd (xs := ([] : List Int)) (inner := []) (ok := fun _ => True) (okp := fun _ => True) ?hr ?hp (fun _ hk => hk) trivial (Below.refl _ _) (Nat.le_refl _) (by simp) ?_; (case hd => rfl); (case hg => rfl); (case hr => first | (go_simp; done) | (go_simp; rfl)); (case hp => exact (Reps.none _ _)); intro v219 w3 ho4 hb hg_ hnew_; clear hg_ hnew_; (first | rw [← Ny218.out] at ho4 | (simp only [Int.reduceToNat] at ho4; rw [← Ny218.out] at ho4)); have n0_ := Aside0.mk (Kd.R_lower ho4 (below_size (by repeat first | exact HB.out | apply pw_below_drewN))); have n1_ := Aside0.mk (below_step (by repeat first | exact HB.out | apply pw_below_drewN) hb); clear HB; have HO220 := n0_; have HB := n1_; clear n0_ n1_; clear hb ho4) | ((with_reducible refine gate_builtin (b := .append) (xs := #[.tmp 3, .tmp 4]) rfl ?_); at_builtin; refine Kd.R_append_rows (Kd.int .i64) (w0 := w) w.heap.size rfl (.tmp 3) (.tmp 4) 47 2 (.int .i64 0) 8 rfl Tryz.underlying47 info2 rfl (by decide) (by omega) v219 y218 l0 _ _ _ (fun _ => True) (fun _ => False) rfl rfl ?aO ?aR (fun _ _ h => h) (fun _ h => h.elim) ?aF ?aB ?aS ?aL ?_; (case aR => repeat (first | exact (Kd.C_below HR0.out HB.out) | (with_reducible refine Kd.C_alloc ?_ _) | (with_reducible refine Kd.C_drewN ?_ _) | (with_reducible refine Kd.C_drew ?_))); (case aB => exact (by repeat first | exact HB.out | apply pw_below_drewN)); (case aF => exact (fun _ _ => trivial)); (case aO => exact (by (with_reducible repeat (first | apply Kd.R_alloc | apply Kd.R_drewN | apply Kd.R_drew)); exact HO220.out)); (case aS => exact (below_size (by repeat first | exact HB.out | apply pw_below_drewN))); (case aL => have := LMc2.out; omega); intro v222 w5 ho hb hg hat; rw [← Ny221.out] at ho; have n0_ := Aside0.mk (hb); have n1_ := Aside0.mk (ho); clear HB; clear HO220; have HB := n0_; have HO223 := n1_; clear n0_ n1_; clear ho hb hg hat))
    go_ret
    exact ⟨_, by first | rfl | (simp [*, errW_none, errW_some] <;> rfl), by (with_reducible repeat (first | apply Kd.R_alloc | apply Kd.R_drewN | apply Kd.R_drew)); exact HO223.out, by repeat first | exact HB.out | apply pw_below_drewN⟩
  · rw [if_neg c2] at H
    exact absurd H (by simp)

/-! ### spec_l06Own: function 10 -/
def spec_l06Own.l0 : Nat → Int → List (S57) → List (S49) → List (S57) → List (S49) → Option ((List (S57)) × (List (S49)))
  | 0, _, _, _, _, _ => none
  | k + 1, x4, x225000, x225001, x233000, x233001 => if x4 < (x225001.length : Int) then (if 0 ≤ x4 then ((spec_l00Own.f ((rd_T49 x225001 x4).f2)).bind fun t235 => (if x233001.length < 3518437208883 then (spec_l06Own.l0 k (wrap64 (x4 + 1)) x225000 x225001 x233000 (x233001 ++ [(⟨(rd_T49 x225001 x4).f0, (rd_T49 x225001 x4).f1, t235⟩ : S49)])) else (none))) else (none)) else (some (x233000, x233001))
def spec_l06Own.f (k : Nat) (l0_0 : List (S57)) (l0_1 : List (S49)) : Option ((List (S57)) × (List (S49))) := (some (([] : List (S57)) : List (S57))).bind fun y226 => (if y226.length + l0_0.length < 8796093022208 then (spec_l06Own.l0 k 0 l0_0 l0_1 (y226 ++ l0_0) ([] : List (S49))) else (none))
set_option maxHeartbeats 8000000 in
set_option maxRecDepth 100000 in
theorem spec_l06Own.calls (k : Nat) (A0_0 : Option Addr) (c0_0 : Nat) (l0_0 : List (S57)) (A0_1 : Option Addr) (c0_1 : Nat) (l0_1 : List (S49)) (r1 : List (S57)) (r2 : List (S49)) (w : World) (hr0_0 : Kd.C k57 w A0_0 l0_0.length l0_0) (hc0_0 : l0_0.length ≤ c0_0) (hr0_1 : Kd.C k49 w A0_1 l0_1.length l0_1) (hc0_1 : l0_1.length ≤ c0_1) (h : spec_l06Own.f k l0_0 l0_1 = some (r1, r2)) :
  Calls Tryz.prog 10 #[.agg #[.slice A0_0 l0_0.length c0_0, .slice A0_1 l0_1.length c0_1]] w fun e w' => ∃ v0_ v1_ : Value, e = .returned (.agg #[v0_, v1_]) ∧ Kd.R k57 57 w' w.heap.size (fun _ => True) v0_ r1 ∧ Kd.S k49 49 w' w.heap.size (fun _ => True) v1_ r2 ∧ Below w.heap.size w w' := by
 have hu25 := Tryz.underlying25
 have hu49 := Tryz.underlying49
 have HR0_0 := Aside0.mk hr0_0
 have HC0_0 := Aside0.mk hc0_0
 clear hr0_0 hc0_0
 have HR0_1 := Aside0.mk hr0_1
 have HC0_1 := Aside0.mk hc0_1
 clear hr0_1 hc0_1
 have HB := Aside0.mk (Below.refl w.heap.size w)
 have H : ((some (([] : List (S57)) : List (S57))).bind fun y226 => (if y226.length + l0_0.length < 8796093022208 then (spec_l06Own.l0 k 0 l0_0 l0_1 (y226 ++ l0_0) ([] : List (S49))) else (none))) = some (r1, r2) := h
 clear h
 obtain ⟨y226, hy226⟩ : ∃ y_ : List (S57), y_ = (([] : List (S57))) := ⟨_, rfl⟩
 replace H : (if y226.length + l0_0.length < 8796093022208 then (spec_l06Own.l0 k 0 l0_0 l0_1 (y226 ++ l0_0) ([] : List (S49))) else (none)) = some (r1, r2) := by first | (rw [hy226]; with_reducible exact H) | (have H2_ := (Option.bind_some _ _).symm.trans H; rw [hy226]; with_reducible exact H2_) | (have H2_ := (Option.bind_some _ _).symm.trans H; with_reducible exact H2_) | with_reducible exact H | (rw [hy226]; exact H) | exact H
 have Ny226 := Aside0.mk hy226
 clear hy226
 by_cases c2 : y226.length + l0_0.length < 8796093022208
 ·rw [if_pos c2] at H
  have LMc2 := Aside0.mk c2
  clear c2
  obtain ⟨y229, hy229⟩ : ∃ y_ : List (S57), y_ = (y226 ++ l0_0) := ⟨_, rfl⟩
  replace H : (spec_l06Own.l0 k 0 l0_0 l0_1 y229 ([] : List (S49))) = some (r1, r2) := by first | (rw [hy229]; with_reducible exact H) | (have H2_ := (Option.bind_some _ _).symm.trans H; rw [hy229]; with_reducible exact H2_) | (have H2_ := (Option.bind_some _ _).symm.trans H; with_reducible exact H2_) | with_reducible exact H | (rw [hy229]; exact H) | exact H
  have Ny229 := Aside0.mk hy229
  clear hy229
  have H' := Aside0.mk H
  clear H
  go_enter Tryz.func10, Tryz.ntmps10
  go_wp2_with (first | ((with_reducible refine gate_dst (N := 1) rfl ?_); refine box_event ?hg (N := 1) ?hd (cs := #[.slice A0_0 l0_0.length c0_0, .slice A0_1 l0_1.length c0_1]) (t := 25) ?hr ?_; (case hd => rfl); (case hg => rfl); (case hr => first | (go_simp; done) | (go_simp; rfl)); intro gb224 hg w3 hbox hb; have n0_ := Aside0.mk (below_step (by repeat first | exact HB.out | apply below_alloc | apply pw_below_drewN | apply below_drew1) hb); have n1_ := Aside0.mk (hbox); have n2_ := Aside0.mk ((by rw [hg]; exact (below_size (by repeat first | exact HB.out | apply below_alloc | apply pw_below_drewN | apply below_drew1)) : w.heap.size ≤ gb224)); have n3_ := Aside0.mk ((by rw [hg]; exact (below_size (by repeat first | exact HB.out | apply below_alloc | apply pw_below_drewN | apply below_drew1)) : w.heap.size ≤ gb224)); clear HB; have HB := n0_; have BK224 := n1_; have GW224 := n2_; have GE224 := n3_; clear n0_ n1_ n2_ n3_; clear hb hbox hg) | ((with_reducible refine gate_dst (N := 2) rfl ?_); refine box_event ?hg (N := 2) ?hd (cs := #[.slice none 0 0, .slice none 0 0]) (t := 25) ?hr ?_; (case hd => rfl); (case hg => rfl); (case hr => first | (go_simp; done) | (go_simp; rfl)); intro gb225 hg w4 hbox hb; have n0_ := Aside0.mk (blk_below (g := gb224) (o := .cells #[.slice A0_0 l0_0.length c0_0, .slice A0_1 l0_1.length c0_1] 25 (0, 0)) (by (with_reducible repeat first | apply blk_drewN | apply blk_drew | apply blk_alloc); exact BK224.out) hb); have n1_ := Aside0.mk (below_step (by repeat (first | (with_reducible first | exact HB.out | apply below_alloc | apply pw_below_drewN | apply below_drew1 | refine below_set ?_ GE224.out) | exact HB.out)) hb); have n2_ := Aside0.mk (hbox); have n3_ := Aside0.mk ((by rw [hg]; exact (below_size (by repeat (first | (with_reducible first | exact HB.out | apply below_alloc | apply pw_below_drewN | apply below_drew1 | refine below_set ?_ GE224.out) | exact HB.out))) : w.heap.size ≤ gb225)); have n4_ := Aside0.mk ((by rw [hg]; exact (below_size (by repeat (first | (with_reducible first | exact HB.out | apply below_alloc | apply pw_below_drewN | apply below_drew1 | refine below_set ?_ GE224.out) | exact HB.out))) : w.heap.size ≤ gb225)); have n5_ := Aside0.mk ((by rw [hg]; exact Nat.ne_of_lt (blk_lt (g := gb224) (o := .cells #[.slice A0_0 l0_0.length c0_0, .slice A0_1 l0_1.length c0_1] 25 (0, 0)) (by (with_reducible repeat first | apply blk_drewN | apply blk_drew | apply blk_alloc); exact BK224.out)) : gb224 ≠ gb225)); have n6_ := Aside0.mk ((by rw [hg]; exact Nat.ne_of_gt (blk_lt (g := gb224) (o := .cells #[.slice A0_0 l0_0.length c0_0, .slice A0_1 l0_1.length c0_1] 25 (0, 0)) (by (with_reducible repeat first | apply blk_drewN | apply blk_drew | apply blk_alloc); exact BK224.out)) : gb225 ≠ gb224)); clear BK224; clear HB; have BK224 := n0_; have HB := n1_; have BK225 := n2_; have GW225 := n3_; have GE225 := n4_; have NB224_225 := n5_; have NB225_224 := n6_; clear n0_ n1_ n2_ n3_ n4_ n5_ n6_; clear hb hbox hg) | ((with_reducible refine gate_dst (N := 6) rfl ?_); refine Kd.R_lit k57 _ 57 ?hg (N := 6) ?hd (xs := ([] : List (S57))) (inner := []) (ok := fun _ => True) (okp := fun _ => True) ?hr ?hp (fun _ hk => hk) trivial (Below.refl _ _) (Nat.le_refl _) (by simp) ?_; (case hd => rfl); (case hg => rfl); (case hr => first | (go_simp; done) | (go_simp; rfl)); (case hp => exact (Reps.none _ _)); intro v227 w5 ho6 hb hg_ hnew_; clear hg_ hnew_; (first | rw [← Ny226.out] at ho6 | (simp only [Int.reduceToNat] at ho6; rw [← Ny226.out] at ho6)); have n0_ := Aside0.mk (Kd.R_lower ho6 (below_size (by repeat (first | (with_reducible first | exact HB.out | apply below_alloc | apply pw_below_drewN | apply below_drew1 | refine below_set ?_ GE224.out | refine below_set ?_ GE225.out) | exact HB.out)))); have n1_ := Aside0.mk (blk_below (g := gb224) (o := .cells #[.slice A0_0 l0_0.length c0_0, .slice A0_1 l0_1.length c0_1] 25 (0, 0)) (by (with_reducible repeat first | apply blk_drewN | apply blk_drew | apply blk_alloc); exact BK224.out) hb); have n2_ := Aside0.mk (blk_below (g := gb225) (o := .cells #[.slice none 0 0, .slice none 0 0] 25 (0, 0)) (by (with_reducible repeat first | apply blk_drewN | apply blk_drew | apply blk_alloc); exact BK225.out) hb); have n3_ := Aside0.mk (below_step (by repeat (first | (with_reducible first | exact HB.out | apply below_alloc | apply pw_below_drewN | apply below_drew1 | refine below_set ?_ GE224.out | refine below_set ?_ GE225.out) | exact HB.out)) hb); clear BK224; clear BK225; clear HB; have HO228 := n0_; have BK224 := n1_; have BK225 := n2_; have HB := n3_; clear n0_ n1_ n2_ n3_; clear hb ho6; have hnb7 := NB224_225.out; have hnc7 := NB225_224.out; have hcz8_0 : w5.cell? ⟨gb224, 0, none⟩ = some (.slice A0_0 l0_0.length c0_0) := (blk_cell BK224.out 0).trans rfl; have hcz8_1 : w5.cell? ⟨gb224, 1, none⟩ = some (.slice A0_1 l0_1.length c0_1) := (blk_cell BK224.out 1).trans rfl; have hfz8_0 := blk_frozen BK224.out 0; have hfz8_1 := blk_frozen BK224.out 1) | ((with_reducible refine gate_builtin (b := .append) (xs := #[.tmp 6, .tmp 8]) rfl ?_); at_builtin; refine Kd.R_append_rows k57 (w0 := w) w.heap.size rfl (.tmp 6) (.tmp 8) 22 57 (.agg #[(.int .i64 0), (.int .i64 0)]) 16 rfl Tryz.underlying22 info57 rfl (by decide) (by omega) v227 y226 l0_0 _ _ _ (fun _ => True) (fun _ => False) rfl rfl ?aO ?aR (fun _ _ h => h) (fun _ h => h.elim) ?aF ?aB ?aS ?aL ?_; (case aR => repeat (first | exact (Kd.C_below HR0_0.out HB.out) | (with_reducible refine Kd.C_alloc ?_ _) | (with_reducible refine Kd.C_drewN ?_ _) | (with_reducible refine Kd.C_drew ?_))); (case aB => exact (by repeat (first | (with_reducible first | exact HB.out | apply below_alloc | apply pw_below_drewN | apply below_drew1 | refine below_set ?_ GE224.out | refine below_set ?_ GE225.out) | exact HB.out))); (case aF => exact (fun _ _ => trivial)); (case aO => exact (by (with_reducible repeat (first | apply Kd.R_alloc | apply Kd.R_drewN | apply Kd.R_drew)); exact HO228.out)); (case aS => exact (below_size (by repeat (first | (with_reducible first | exact HB.out | apply below_alloc | apply pw_below_drewN | apply below_drew1 | refine below_set ?_ GE224.out | refine below_set ?_ GE225.out) | exact HB.out)))); (case aL => have := LMc2.out; omega); intro v230 w9 ho hb hg hat; rw [← Ny229.out] at ho; have n0_ := Aside0.mk (blk_grown (g := gb224) (o := .cells #[.slice A0_0 l0_0.length c0_0, .slice A0_1 l0_1.length c0_1] 25 (0, 0)) (by (with_reducible repeat first | apply blk_drewN | apply blk_drew | apply blk_alloc); exact BK224.out) hg (Kd.R_ne HO228.out BK224.out (by decide))); have n1_ := Aside0.mk (blk_grown (g := gb225) (o := .cells #[.slice none 0 0, .slice none 0 0] 25 (0, 0)) (by (with_reducible repeat first | apply blk_drewN | apply blk_drew | apply blk_alloc); exact BK225.out) hg (Kd.R_ne HO228.out BK225.out (by decide))); have n2_ := Aside0.mk (hb); have n3_ := Aside0.mk (ho); clear BK224; clear BK225; clear HB; clear HO228; have BK224 := n0_; have BK225 := n1_; have HB := n2_; have HO231 := n3_; clear n0_ n1_ n2_ n3_; clear ho hb hg hat; obtain ⟨Ao10, co10, eo10⟩ := Kd.R_slice HO231.out; subst eo10) | ((with_reducible refine gate_dst (N := 3) rfl ?_); refine box_event ?hg (N := 3) ?hd (cs := #[.slice none 0 0, .slice none 0 0]) (t := 25) ?hr ?_; (case hd => rfl); (case hg => rfl); (case hr => first | (go_simp; done) | (go_simp; rfl)); intro gb232 hg w11 hbox hb; have n0_ := Aside0.mk (Kd.R_below (by (with_reducible repeat (first | apply Kd.R_alloc | apply Kd.R_drewN | apply Kd.R_drew)); exact HO231.out) hb); have n1_ := Aside0.mk (blk_below (g := gb224) (o := .cells #[.slice A0_0 l0_0.length c0_0, .slice A0_1 l0_1.length c0_1] 25 (0, 0)) (by (with_reducible repeat first | apply blk_drewN | apply blk_drew | apply blk_alloc); exact BK224.out) hb); have n2_ := Aside0.mk (blk_below (g := gb225) (o := .cells #[.slice none 0 0, .slice none 0 0] 25 (0, 0)) (by (with_reducible repeat first | apply blk_drewN | apply blk_drew | apply blk_alloc); exact BK225.out) hb); have n3_ := Aside0.mk (below_step (by repeat (first | (with_reducible first | exact HB.out | apply below_alloc | apply pw_below_drewN | apply below_drew1 | refine below_set ?_ GE224.out | refine below_set ?_ GE225.out) | exact HB.out)) hb); have n4_ := Aside0.mk (hbox); have n5_ := Aside0.mk ((by rw [hg]; exact (below_size (by repeat (first | (with_reducible first | exact HB.out | apply below_alloc | apply pw_below_drewN | apply below_drew1 | refine below_set ?_ GE224.out | refine below_set ?_ GE225.out) | exact HB.out))) : w.heap.size ≤ gb232)); have n6_ := Aside0.mk ((by rw [hg]; exact (below_size (by repeat (first | (with_reducible first | exact HB.out | apply below_alloc | apply pw_below_drewN | apply below_drew1 | refine below_set ?_ GE224.out | refine below_set ?_ GE225.out) | exact HB.out))) : w.heap.size ≤ gb232)); have n7_ := Aside0.mk ((by rw [hg]; exact Nat.ne_of_lt (blk_lt (g := gb224) (o := .cells #[.slice A0_0 l0_0.length c0_0, .slice A0_1 l0_1.length c0_1] 25 (0, 0)) (by (with_reducible repeat first | apply blk_drewN | apply blk_drew | apply blk_alloc); exact BK224.out)) : gb224 ≠ gb232)); have n8_ := Aside0.mk ((by rw [hg]; exact Nat.ne_of_gt (blk_lt (g := gb224) (o := .cells #[.slice A0_0 l0_0.length c0_0, .slice A0_1 l0_1.length c0_1] 25 (0, 0)) (by (with_reducible repeat first | apply blk_drewN | apply blk_drew | apply blk_alloc); exact BK224.out)) : gb232 ≠ gb224)); have n9_ := Aside0.mk ((by rw [hg]; exact Nat.ne_of_lt (blk_lt (g := gb225) (o := .cells #[.slice none 0 0, .slice none 0 0] 25 (0, 0)) (by (with_reducible repeat first | apply blk_drewN | apply blk_drew | apply blk_alloc); exact BK225.out)) : gb225 ≠ gb232)); have n10_ := Aside0.mk ((by rw [hg]; exact Nat.ne_of_gt (blk_lt (g := gb225) (o := .cells #[.slice none 0 0, .slice none 0 0] 25 (0, 0)) (by (with_reducible repeat first | apply blk_drewN | apply blk_drew | apply blk_alloc); exact BK225.out)) : gb232 ≠ gb225)); clear HO231; clear BK224; clear BK225; clear HB; have HO231 := n0_; have BK224 := n1_; have BK225 := n2_; have HB := n3_; have BK232 := n4_; have GW232 := n5_; have GE232 := n6_; have NB224_232 := n7_; have NB232_224 := n8_; have NB225_232 := n9_; have NB232_225 := n10_; clear n0_ n1_ n2_ n3_ n4_ n5_ n6_ n7_ n8_ n9_ n10_; clear hb hbox hg; have hnb12 := NB232_224.out; have hnc12 := NB224_232.out; have hnb13 := NB232_225.out; have hnc13 := NB225_232.out; have hcz14_0 : w11.cell? ⟨gb232, 0, none⟩ = some (.slice none 0 0) := (blk_cell BK232.out 0).trans rfl; have hcz14_1 : w11.cell? ⟨gb232, 1, none⟩ = some (.slice none 0 0) := (blk_cell BK232.out 1).trans rfl; have hfz14_0 := blk_frozen BK232.out 0; have hfz14_1 := blk_frozen BK232.out 1))
  go_loopg [4] k (fun kq v4 w' => ∃ (x4_1 : Int) (x233001_1 : List (S49)) (u233001 : Value), v4 = .int .i64 x4_1 ∧ Aside0 (spec_l06Own.l0 kq x4_1 l0_0 l0_1 y229 x233001_1 = some (r1, r2)) ∧ Aside0 (kq ≤ k) ∧ Aside0 (Kd.R k57 57 w' w.heap.size (fun _ => True) (.slice Ao10 y229.length co10) y229) ∧ Aside0 (Kd.S k49 49 w' w.heap.size (fun _ => True) u233001 x233001_1) ∧ Aside0 (w'.heap[gb224]? = some (.cells #[(.slice A0_0 l0_0.length c0_0), (.slice A0_1 l0_1.length c0_1)] 25 (0, 0))) ∧ Aside0 (w'.heap[gb225]? = some (.cells #[(.slice none 0 0), (.slice none 0 0)] 25 (0, 0))) ∧ Aside0 (w'.heap[gb232]? = some (.cells #[(.slice Ao10 y229.length co10), u233001] 25 (0, 0))) ∧ Aside0 (Below w.heap.size w w'))
  case atStart => exact ⟨(0), (([] : List (S49))), (.slice none 0 0), (by first | rfl | (simp; done) | (simp [*]; done)), H', ⟨Nat.le_refl _⟩, ⟨by (with_reducible repeat (first | apply Kd.R_alloc | apply Kd.R_drewN | apply Kd.R_drew)); exact Kd.R_mono (Kd.R_far (p := ⟨gb232, 1, none⟩) (Kd.R_far (p := ⟨gb232, 0, none⟩) (Kd.R_types HO231.out BK232.out (by decide)) (fun _ hk => hk.2) (.slice Ao10 y229.length co10)) (fun _ hk => hk.2) (.slice none 0 0)) (fun _ hk => trivial)⟩, ⟨by first | exact Kd.S_nil _ _ _ _ _ | exact Kd.N_nil _ _ _ _ _ | exact Kd.V_nil _ _ _ _ _ | exact Kd.Q_nil _ _ _ _ _ | exact Kd.R_nil _ _ _ _ _⟩, ⟨by (with_reducible repeat first | apply blk_drewN | apply blk_drew | apply blk_alloc); refine blk_far ?_ NB224_232.out _; (with_reducible repeat first | apply blk_drewN | apply blk_drew | apply blk_alloc); refine blk_far ?_ NB224_232.out _; (with_reducible repeat first | apply blk_drewN | apply blk_drew | apply blk_alloc); exact BK224.out⟩, ⟨by (with_reducible repeat first | apply blk_drewN | apply blk_drew | apply blk_alloc); refine blk_far ?_ NB225_232.out _; (with_reducible repeat first | apply blk_drewN | apply blk_drew | apply blk_alloc); refine blk_far ?_ NB225_232.out _; (with_reducible repeat first | apply blk_drewN | apply blk_drew | apply blk_alloc); exact BK225.out⟩, ⟨by (with_reducible repeat first | apply blk_drewN | apply blk_drew | apply blk_alloc); refine blk_put (cs := #[.slice Ao10 y229.length co10, .slice none 0 0]) ?_ 1 _ rfl; (with_reducible repeat first | apply blk_drewN | apply blk_drew | apply blk_alloc); refine blk_put (cs := #[.slice none 0 0, .slice none 0 0]) ?_ 0 _ rfl; (with_reducible repeat first | apply blk_drewN | apply blk_drew | apply blk_alloc); exact BK232.out⟩, ⟨by repeat (first | (with_reducible first | exact HB.out | apply below_alloc | apply pw_below_drewN | apply below_drew1 | refine below_set ?_ GE224.out | refine below_set ?_ GE225.out | refine below_set ?_ GE232.out) | exact HB.out)⟩⟩
  case round =>
   clear H'
   try clear c1
   try clear c2
   try clear p2
   try clear c7
   try clear c10
   try clear c12
   try clear c13
   try clear hcz14_0
   try clear hcz14_1
   try clear hcz8_0
   try clear hcz8_1
   try clear hfz14_0
   try clear hfz14_1
   try clear hfz8_0
   try clear hfz8_1
   obtain ⟨x4_1, x233001_1, u233001, rfl, HA, HK1, HO_233000, HO_233001, BK224, BK225, BK232, HB⟩ := hrel
   cases gk with
   | zero => exact absurd HA.out (by simp [spec_l06Own.l0])
   | succ k1 =>
    have H := HA.out
    clear HA
    simp only [spec_l06Own.l0] at H
    by_cases c15 : x4_1 < (l0_1.length : Int)
    ·rw [if_pos c15] at H
     have c15b0 : decide (x4_1 < (l0_1.length : Int)) = true := decide_eq_true c15
     clear c15
     by_cases c16 : 0 ≤ x4_1
     ·rw [if_pos c16] at H
      have c16b0 : decide (0 ≤ x4_1) = true := decide_eq_true c16
      clear c16
      replace H := Option.bind_eq_some_iff.mp H
      obtain ⟨t235, A170, H⟩ := H
      replace H : (if x233001_1.length < 3518437208883 then (spec_l06Own.l0 k1 (wrap64 (x4_1 + 1)) l0_0 l0_1 y229 (x233001_1 ++ [(⟨(rd_T49 l0_1 x4_1).f0, (rd_T49 l0_1 x4_1).f1, t235⟩ : S49)])) else (none)) = some (r1, r2) := H
      have A17 := Aside0.mk A170
      clear A170
      by_cases c18 : x233001_1.length < 3518437208883
      ·rw [if_pos c18] at H
       have LMc18 := Aside0.mk c18
       clear c18
       obtain ⟨y238, hy238⟩ : ∃ y_ : List (S49), y_ = (x233001_1 ++ [(⟨(rd_T49 l0_1 x4_1).f0, (rd_T49 l0_1 x4_1).f1, t235⟩ : S49)]) := ⟨_, rfl⟩
       replace H : (spec_l06Own.l0 k1 (wrap64 (x4_1 + 1)) l0_0 l0_1 y229 y238) = some (r1, r2) := by first | (rw [hy238]; with_reducible exact H) | (have H2_ := (Option.bind_some _ _).symm.trans H; rw [hy238]; with_reducible exact H2_) | (have H2_ := (Option.bind_some _ _).symm.trans H; with_reducible exact H2_) | with_reducible exact H | (rw [hy238]; exact H) | exact H
       have Ny238 := Aside0.mk hy238
       clear hy238
       have H' := Aside0.mk H
       clear H
       have hnb19 := NB224_225.out
       have hnc19 := NB225_224.out
       have hnb20 := NB224_232.out
       have hnc20 := NB232_224.out
       have hcz21_0 : wr.cell? ⟨gb224, 0, none⟩ = some (.slice A0_0 l0_0.length c0_0) := (blk_cell BK224.out 0).trans rfl
       have hcz21_1 : wr.cell? ⟨gb224, 1, none⟩ = some (.slice A0_1 l0_1.length c0_1) := (blk_cell BK224.out 1).trans rfl
       have hfz21_0 := blk_frozen BK224.out 0
       have hfz21_1 := blk_frozen BK224.out 1
       have p233 : 0 ≤ (x4_1 : Int) := of_decide_eq_true (by assumption)
       have q233 : x4_1 < (l0_1.length : Int) := of_decide_eq_true (by assumption)
       obtain ⟨ad233, A233_2, c233_2, e233, hx233_0, hx233_1, hx233_2, hl233_2, hi233_2⟩ := at_T49 HR0_1.out x4_1 p233 q233
       cases e233
       replace hx233_0 := (HB.out.cell (World.block_lt_of_cell? w _ hx233_0)).trans hx233_0
       replace hx233_1 := (HB.out.cell (World.block_lt_of_cell? w _ hx233_1)).trans hx233_1
       replace hx233_2 := (HB.out.cell (World.block_lt_of_cell? w _ hx233_2)).trans hx233_2
       have HR233_2 := Aside0.mk hi233_2
       have HC233_2 := Aside0.mk hl233_2
       clear hi233_2 hl233_2
       replace p233 := eq_true p233
       replace q233 := eq_true q233
       go_wp2_with (first | ((with_reducible refine gate_dst (N := 5) rfl ?_); refine box_event ?hg (N := 5) ?hd (cs := #[.int .i64 0, .int .i64 0, .slice none 0 0]) (t := 49) ?hr ?_; (case hd => rfl); (case hg => rfl); (case hr => first | (go_simp; done) | (go_simp; rfl)); intro gb234 hg w22 hbox hb; have n0_ := Aside0.mk (Kd.R_below (by (with_reducible repeat (first | apply Kd.R_alloc | apply Kd.R_drewN | apply Kd.R_drew)); exact HO_233000.out) hb); have n1_ := Aside0.mk (Kd.S_below (Kd.S_elderB (by (with_reducible repeat (first | apply Kd.S_alloc | apply Kd.S_drewN | apply Kd.S_drew)); exact HO_233001.out) gb234 (Nat.le_of_eq hg.symm)) hb); have n2_ := Aside0.mk (blk_below (g := gb224) (o := .cells #[.slice A0_0 l0_0.length c0_0, .slice (some ad233) l0_1.length c0_1] 25 (0, 0)) (by (with_reducible repeat first | apply blk_drewN | apply blk_drew | apply blk_alloc); exact BK224.out) hb); have n3_ := Aside0.mk (blk_below (g := gb225) (o := .cells #[.slice none 0 0, .slice none 0 0] 25 (0, 0)) (by (with_reducible repeat first | apply blk_drewN | apply blk_drew | apply blk_alloc); exact BK225.out) hb); have n4_ := Aside0.mk (blk_below (g := gb232) (o := .cells #[.slice Ao10 y229.length co10, u233001] 25 (0, 0)) (by (with_reducible repeat first | apply blk_drewN | apply blk_drew | apply blk_alloc); exact BK232.out) hb); have n5_ := Aside0.mk (below_step (by repeat (first | (with_reducible first | exact HB.out | apply below_alloc | apply pw_below_drewN | apply below_drew1 | refine below_set ?_ GE224.out | refine below_set ?_ GE225.out | refine below_set ?_ GE232.out) | exact HB.out)) hb); have n6_ := Aside0.mk (hbox); have n7_ := Aside0.mk ((by rw [hg]; exact (below_size (by repeat (first | (with_reducible first | exact HB.out | apply below_alloc | apply pw_below_drewN | apply below_drew1 | refine below_set ?_ GE224.out | refine below_set ?_ GE225.out | refine below_set ?_ GE232.out) | exact HB.out))) : w.heap.size ≤ gb234)); have n8_ := Aside0.mk ((by rw [hg]; exact (below_size (by repeat (first | (with_reducible first | exact HB.out | apply below_alloc | apply pw_below_drewN | apply below_drew1 | refine below_set ?_ GE224.out | refine below_set ?_ GE225.out | refine below_set ?_ GE232.out) | exact HB.out))) : w.heap.size ≤ gb234)); have n9_ := Aside0.mk ((by rw [hg]; exact Nat.ne_of_lt (blk_lt (g := gb224) (o := .cells #[.slice A0_0 l0_0.length c0_0, .slice (some ad233) l0_1.length c0_1] 25 (0, 0)) (by (with_reducible repeat first | apply blk_drewN | apply blk_drew | apply blk_alloc); exact BK224.out)) : gb224 ≠ gb234)); have n10_ := Aside0.mk ((by rw [hg]; exact Nat.ne_of_gt (blk_lt (g := gb224) (o := .cells #[.slice A0_0 l0_0.length c0_0, .slice (some ad233) l0_1.length c0_1] 25 (0, 0)) (by (with_reducible repeat first | apply blk_drewN | apply blk_drew | apply blk_alloc); exact BK224.out)) : gb234 ≠ gb224)); have n11_ := Aside0.mk ((by rw [hg]; exact Nat.ne_of_lt (blk_lt (g := gb225) (o := .cells #[.slice none 0 0, .slice none 0 0] 25 (0, 0)) (by (with_reducible repeat first | apply blk_drewN | apply blk_drew | apply blk_alloc); exact BK225.out)) : gb225 ≠ gb234)); have n12_ := Aside0.mk ((by rw [hg]; exact Nat.ne_of_gt (blk_lt (g := gb225) (o := .cells #[.slice none 0 0, .slice none 0 0] 25 (0, 0)) (by (with_reducible repeat first | apply blk_drewN | apply blk_drew | apply blk_alloc); exact BK225.out)) : gb234 ≠ gb225)); have n13_ := Aside0.mk ((by rw [hg]; exact Nat.ne_of_lt (blk_lt (g := gb232) (o := .cells #[.slice Ao10 y229.length co10, u233001] 25 (0, 0)) (by (with_reducible repeat first | apply blk_drewN | apply blk_drew | apply blk_alloc); exact BK232.out)) : gb232 ≠ gb234)); have n14_ := Aside0.mk ((by rw [hg]; exact Nat.ne_of_gt (blk_lt (g := gb232) (o := .cells #[.slice Ao10 y229.length co10, u233001] 25 (0, 0)) (by (with_reducible repeat first | apply blk_drewN | apply blk_drew | apply blk_alloc); exact BK232.out)) : gb234 ≠ gb232)); clear HO_233000; clear HO_233001; clear BK224; clear BK225; clear BK232; clear HB; have HO_233000 := n0_; have HO_233001 := n1_; have BK224 := n2_; have BK225 := n3_; have BK232 := n4_; have HB := n5_; have BK234 := n6_; have GW234 := n7_; have GE234 := n8_; have NB224_234 := n9_; have NB234_224 := n10_; have NB225_234 := n11_; have NB234_225 := n12_; have NB232_234 := n13_; have NB234_232 := n14_; clear n0_ n1_ n2_ n3_ n4_ n5_ n6_ n7_ n8_ n9_ n10_ n11_ n12_ n13_ n14_; clear hb hbox hg; have hnb23 := NB234_224.out; have hnc23 := NB224_234.out; have hnb24 := NB234_225.out; have hnc24 := NB225_234.out; have hnb25 := NB234_232.out; have hnc25 := NB232_234.out; have hcz26_0 : w22.cell? ⟨gb234, 0, none⟩ = some (.int .i64 0) := (blk_cell BK234.out 0).trans rfl; have hcz26_1 : w22.cell? ⟨gb234, 1, none⟩ = some (.int .i64 0) := (blk_cell BK234.out 1).trans rfl; have hcz26_2 : w22.cell? ⟨gb234, 2, none⟩ = some (.slice none 0 0) := (blk_cell BK234.out 2).trans rfl; have hfz26_0 := blk_frozen BK234.out 0; have hfz26_1 := blk_frozen BK234.out 1; have hfz26_2 := blk_frozen BK234.out 2) | ((with_reducible refine gate_callee (f := 26) rfl ?_); refine goesL_ (some 25) rfl rfl Tryz.func26 (by kernel_rfl) rfl #[.slice A233_2 ((rd_T49 l0_1 x4_1).f2).length c233_2] rfl (by (try simp only [List.map_toArray, List.map_cons, List.map_nil]); first | done | rfl | (simp only [List.length_drop, List.length_take]; rfl)) ?_; (with_reducible refine (spec_l00Own.calls _ _ ((rd_T49 l0_1 x4_1).f2) t235 _ ?side1 ?side2 A17.out).mono ?_); (case side1 => exact Kd.C_below HR233_2.out (by repeat (first | (with_reducible first | exact HB.out | apply below_alloc | apply pw_below_drewN | apply below_drew1 | refine below_set ?_ GE224.out | refine below_set ?_ GE225.out | refine below_set ?_ GE232.out | refine below_set ?_ GE234.out) | exact HB.out))); (case side2 => exact HC233_2.out); rintro e w27 ⟨v236, rfl, ho0, hb⟩; refine ⟨_, rfl, ?_⟩; have n0_ := Aside0.mk (Kd.R_below (by (with_reducible repeat (first | apply Kd.R_alloc | apply Kd.R_drewN | apply Kd.R_drew)); exact (Kd.R_mono (Kd.R_far (p := ⟨gb234, 2, none⟩) (Kd.R_far (p := ⟨gb234, 1, none⟩) (Kd.R_far (p := ⟨gb234, 0, none⟩) (Kd.R_types HO_233000.out BK234.out (by decide)) (fun _ hk => hk.2) (.int .i64 ((rd_T49 l0_1 x4_1).f0))) (fun _ hk => hk.2) (.int .i64 ((rd_T49 l0_1 x4_1).f1))) (fun _ hk => hk.2) (.slice A233_2 ((rd_T49 l0_1 x4_1).f2).length c233_2)) (fun _ h_ => h_.1))) hb); have n1_ := Aside0.mk (Kd.S_elder' (by (with_reducible repeat (first | apply Kd.S_alloc | apply Kd.S_drewN | apply Kd.S_drew)); exact (Kd.S_mono (Kd.S_far (p := ⟨gb234, 2, none⟩) (Kd.S_far (p := ⟨gb234, 1, none⟩) (Kd.S_far (p := ⟨gb234, 0, none⟩) (Kd.S_mono HO_233001.out (fun k_ hk => (⟨hk, hk.2⟩ : _ ∧ k_ ≠ gb234))) (fun _ hk => hk.2) (.int .i64 ((rd_T49 l0_1 x4_1).f0))) (fun _ hk => hk.2) (.int .i64 ((rd_T49 l0_1 x4_1).f1))) (fun _ hk => hk.2) (.slice A233_2 ((rd_T49 l0_1 x4_1).f2).length c233_2)) (fun _ h_ => h_.1))) (Kd.R_base ho0) hb); have n2_ := Aside0.mk (Kd.R_lower ho0 (below_size (by repeat (first | (with_reducible first | exact HB.out | apply below_alloc | apply pw_below_drewN | apply below_drew1 | refine below_set ?_ GE224.out | refine below_set ?_ GE225.out | refine below_set ?_ GE232.out | refine below_set ?_ GE234.out) | exact HB.out)))); have n3_ := Aside0.mk (blk_below (g := gb224) (o := .cells #[.slice A0_0 l0_0.length c0_0, .slice (some ad233) l0_1.length c0_1] 25 (0, 0)) (by (with_reducible repeat first | apply blk_drewN | apply blk_drew | apply blk_alloc); refine blk_far ?_ NB224_234.out _; (with_reducible repeat first | apply blk_drewN | apply blk_drew | apply blk_alloc); refine blk_far ?_ NB224_234.out _; (with_reducible repeat first | apply blk_drewN | apply blk_drew | apply blk_alloc); refine blk_far ?_ NB224_234.out _; (with_reducible repeat first | apply blk_drewN | apply blk_drew | apply blk_alloc); exact BK224.out) hb); have n4_ := Aside0.mk (blk_below (g := gb225) (o := .cells #[.slice none 0 0, .slice none 0 0] 25 (0, 0)) (by (with_reducible repeat first | apply blk_drewN | apply blk_drew | apply blk_alloc); refine blk_far ?_ NB225_234.out _; (with_reducible repeat first | apply blk_drewN | apply blk_drew | apply blk_alloc); refine blk_far ?_ NB225_234.out _; (with_reducible repeat first | apply blk_drewN | apply blk_drew | apply blk_alloc); refine blk_far ?_ NB225_234.out _; (with_reducible repeat first | apply blk_drewN | apply blk_drew | apply blk_alloc); exact BK225.out) hb); have n5_ := Aside0.mk (blk_below (g := gb232) (o := .cells #[.slice Ao10 y229.length co10, u233001] 25 (0, 0)) (by (with_reducible repeat first | apply blk_drewN | apply blk_drew | apply blk_alloc); refine blk_far ?_ NB232_234.out _; (with_reducible repeat first | apply blk_drewN | apply blk_drew | apply blk_alloc); refine blk_far ?_ NB232_234.out _; (with_reducible repeat first | apply blk_drewN | apply blk_drew | apply blk_alloc); refine blk_far ?_ NB232_234.out _; (with_reducible repeat first | apply blk_drewN | apply blk_drew | apply blk_alloc); exact BK232.out) hb); have n6_ := Aside0.mk (blk_below (g := gb234) (o := .cells #[.int .i64 ((rd_T49 l0_1 x4_1).f0), .int .i64 ((rd_T49 l0_1 x4_1).f1), .slice A233_2 ((rd_T49 l0_1 x4_1).f2).length c233_2] 49 (0, 0)) (by (with_reducible repeat first | apply blk_drewN | apply blk_drew | apply blk_alloc); refine blk_put (cs := #[.int .i64 ((rd_T49 l0_1 x4_1).f0), .int .i64 ((rd_T49 l0_1 x4_1).f1), .slice none 0 0]) ?_ 2 _ rfl; (with_reducible repeat first | apply blk_drewN | apply blk_drew | apply blk_alloc); refine blk_put (cs := #[.int .i64 ((rd_T49 l0_1 x4_1).f0), .int .i64 0, .slice none 0 0]) ?_ 1 _ rfl; (with_reducible repeat first | apply blk_drewN | apply blk_drew | apply blk_alloc); refine blk_put (cs := #[.int .i64 0, .int .i64 0, .slice none 0 0]) ?_ 0 _ rfl; (with_reducible repeat first | apply blk_drewN | apply blk_drew | apply blk_alloc); exact BK234.out) hb); have n7_ := Aside0.mk (below_step (by repeat (first | (with_reducible first | exact HB.out | apply below_alloc | apply pw_below_drewN | apply below_drew1 | refine below_set ?_ GE224.out | refine below_set ?_ GE225.out | refine below_set ?_ GE232.out | refine below_set ?_ GE234.out) | exact HB.out)) hb); clear HO_233000; clear HO_233001; clear BK224; clear BK225; clear BK232; clear BK234; clear HB; have HO_233000 := n0_; have HO_233001 := n1_; have HO237 := n2_; have BK224 := n3_; have BK225 := n4_; have BK232 := n5_; have BK234 := n6_; have HB := n7_; clear n0_ n1_ n2_ n3_ n4_ n5_ n6_ n7_; (try clear hb); (try clear hb2); (try clear hk); (try clear hi); (try clear ho0); obtain ⟨Ao28, co28, eo28⟩ := Kd.R_slice HO237.out; subst eo28; have hcz29_0 : w27.cell? ⟨gb234, 0, none⟩ = some (.int .i64 ((rd_T49 l0_1 x4_1).f0)) := (blk_cell BK234.out 0).trans rfl; have hcz29_1 : w27.cell? ⟨gb234, 1, none⟩ = some (.int .i64 ((rd_T49 l0_1 x4_1).f1)) := (blk_cell BK234.out 1).trans rfl; have hcz29_2 : w27.cell? ⟨gb234, 2, none⟩ = some (.slice A233_2 ((rd_T49 l0_1 x4_1).f2).length c233_2) := (blk_cell BK234.out 2).trans rfl; have hfz29_0 := blk_frozen BK234.out 0; have hfz29_1 := blk_frozen BK234.out 1; have hfz29_2 := blk_frozen BK234.out 2) | ((with_reducible refine gate_store (t := 47) (p := 26) rfl ?_); refine store_event (t := 47) (p := 26) (v := ?vo_w30) (w1 := (w27.setCell ⟨gb234, 2, none⟩ (.slice Ao28 t235.length co28))) ?hg ?ho ?hn ?hr ?_; (case ho => rfl); (case hg => rfl); (case hn => rfl); (case hr => first | (go_simp; done) | (go_simp; rfl)); intro w30 hw; have n0_ : Aside0 (Kd.R k57 57 w30 w.heap.size (fun _ => True) (.slice Ao10 y229.length co10) y229) := ⟨(by rw [hw]; exact (by (with_reducible repeat (first | apply Kd.R_alloc | apply Kd.R_drewN | apply Kd.R_drew)); exact Kd.R_mono (Kd.R_far (p := ⟨gb234, 2, none⟩) (Kd.R_types HO_233000.out BK234.out (by decide)) (fun _ hk => hk.2) (.slice Ao28 t235.length co28)) (fun _ hk => trivial)))⟩; have n1_ : Aside0 (Kd.S k49 49 w30 w.heap.size (fun k_ => some k_ ≠ (.slice Ao28 t235.length co28 : Value).ownBlock ∧ k_ ≠ gb234) u233001 x233001_1) := ⟨(by rw [hw]; exact (by (with_reducible repeat (first | apply Kd.S_alloc | apply Kd.S_drewN | apply Kd.S_drew)); exact Kd.S_mono (Kd.S_far (p := ⟨gb234, 2, none⟩) (Kd.S_mono HO_233001.out (fun k_ hk => (⟨hk, hk.1.2⟩ : _ ∧ k_ ≠ gb234))) (fun _ hk => hk.2) (.slice Ao28 t235.length co28)) (fun _ hk => ⟨hk.1.2, hk.1.1.2⟩)))⟩; have n2_ : Aside0 (Kd.R (Kd.int .i64) 2 w30 w.heap.size (fun _ => True) (.slice Ao28 t235.length co28) t235) := ⟨(by rw [hw]; exact (by (with_reducible repeat (first | apply Kd.R_alloc | apply Kd.R_drewN | apply Kd.R_drew)); exact Kd.R_mono (Kd.R_far (p := ⟨gb234, 2, none⟩) (Kd.R_types HO237.out BK234.out (by decide)) (fun _ hk => hk.2) (.slice Ao28 t235.length co28)) (fun _ hk => trivial)))⟩; have n3_ : Aside0 (w30.heap[gb224]? = some (.cells #[.slice A0_0 l0_0.length c0_0, .slice (some ad233) l0_1.length c0_1] 25 (0, 0))) := ⟨(by rw [hw]; exact (by (with_reducible repeat first | apply blk_drewN | apply blk_drew | apply blk_alloc); refine blk_far ?_ NB224_234.out _; (with_reducible repeat first | apply blk_drewN | apply blk_drew | apply blk_alloc); exact BK224.out))⟩; have n4_ : Aside0 (w30.heap[gb225]? = some (.cells #[.slice none 0 0, .slice none 0 0] 25 (0, 0))) := ⟨(by rw [hw]; exact (by (with_reducible repeat first | apply blk_drewN | apply blk_drew | apply blk_alloc); refine blk_far ?_ NB225_234.out _; (with_reducible repeat first | apply blk_drewN | apply blk_drew | apply blk_alloc); exact BK225.out))⟩; have n5_ : Aside0 (w30.heap[gb232]? = some (.cells #[.slice Ao10 y229.length co10, u233001] 25 (0, 0))) := ⟨(by rw [hw]; exact (by (with_reducible repeat first | apply blk_drewN | apply blk_drew | apply blk_alloc); refine blk_far ?_ NB232_234.out _; (with_reducible repeat first | apply blk_drewN | apply blk_drew | apply blk_alloc); exact BK232.out))⟩; have n6_ : Aside0 (w30.heap[gb234]? = some (.cells #[.int .i64 ((rd_T49 l0_1 x4_1).f0), .int .i64 ((rd_T49 l0_1 x4_1).f1), .slice Ao28 t235.length co28] 49 (0, 0))) := ⟨(by rw [hw]; exact (by (with_reducible repeat first | apply blk_drewN | apply blk_drew | apply blk_alloc); refine blk_put (cs := #[.int .i64 ((rd_T49 l0_1 x4_1).f0), .int .i64 ((rd_T49 l0_1 x4_1).f1), .slice A233_2 ((rd_T49 l0_1 x4_1).f2).length c233_2]) ?_ 2 _ rfl; (with_reducible repeat first | apply blk_drewN | apply blk_drew | apply blk_alloc); exact BK234.out))⟩; have n7_ : Aside0 (Below w.heap.size w w30) := ⟨(by rw [hw]; exact (by repeat (first | (with_reducible first | exact HB.out | apply below_alloc | apply pw_below_drewN | apply below_drew1 | refine below_set ?_ GE224.out | refine below_set ?_ GE225.out | refine below_set ?_ GE232.out | refine below_set ?_ GE234.out) | exact HB.out)))⟩; clear hw; clear HO_233000; clear HO_233001; clear HO237; clear BK224; clear BK225; clear BK232; clear BK234; clear HB; have HO_233000 := n0_; have HO_233001 := n1_; have HO237 := n2_; have BK224 := n3_; have BK225 := n4_; have BK232 := n5_; have BK234 := n6_; have HB := n7_; clear n0_ n1_ n2_ n3_ n4_ n5_ n6_ n7_; have hnb31 := NB232_225.out; have hnc31 := NB225_232.out; have hcz32_0 : w30.cell? ⟨gb232, 0, none⟩ = some (.slice Ao10 y229.length co10) := (blk_cell BK232.out 0).trans rfl; have hcz32_1 : w30.cell? ⟨gb232, 1, none⟩ = some (u233001) := (blk_cell BK232.out 1).trans rfl; have hfz32_0 := blk_frozen BK232.out 0; have hfz32_1 := blk_frozen BK232.out 1; have hcz33_0 : w30.cell? ⟨gb234, 0, none⟩ = some (.int .i64 ((rd_T49 l0_1 x4_1).f0)) := (blk_cell BK234.out 0).trans rfl; have hcz33_1 : w30.cell? ⟨gb234, 1, none⟩ = some (.int .i64 ((rd_T49 l0_1 x4_1).f1)) := (blk_cell BK234.out 1).trans rfl; have hcz33_2 : w30.cell? ⟨gb234, 2, none⟩ = some (.slice Ao28 t235.length co28) := (blk_cell BK234.out 2).trans rfl; have hfz33_0 := blk_frozen BK234.out 0; have hfz33_1 := blk_frozen BK234.out 1; have hfz33_2 := blk_frozen BK234.out 2) | ((with_reducible refine gate_builtin (b := .append) (xs := #[.tmp 28, .tmp 30]) rfl ?_); at_builtin; refine Kd.S_append k49 (w0 := w) w.heap.size rfl (.tmp 28) (.tmp 30) 23 49 (.agg #[(.int .i64 0), (.int .i64 0), (.slice none 0 0)]) 40 rfl Tryz.underlying23 info49 rfl (by decide) (by omega) u233001 x233001_1 (⟨(rd_T49 l0_1 x4_1).f0, (rd_T49 l0_1 x4_1).f1, t235⟩ : S49) [.int .i64 ((rd_T49 l0_1 x4_1).f0), .int .i64 ((rd_T49 l0_1 x4_1).f1), .slice Ao28 t235.length co28] (fun k_ => k_ ≠ gb234) (fun k_ => some k_ = (.slice Ao28 t235.length co28 : Value).ownBlock) rfl rfl ?aP (fun k_ hk_ => ((Kd.R_mono (ok' := fun k_ => ((fun k_ => k_ ≠ gb234)) k_ ∧ some k_ ≠ (u233001 : Value).ownBlock) (Kd.R_types (Kd.R_apart' (HO237.out) (Kd.S_typed HO_233001.out) (by decide)) BK234.out (by decide)) (fun k_ hk => ⟨hk.2, hk.1.2⟩))).1 k_ hk_.symm) ?aF ?aO ?aB ?aS ?aL ?_; (case aP => exact k49_mkM _ _ _ (⟨(rd_T49 l0_1 x4_1).f0, (rd_T49 l0_1 x4_1).f1, t235⟩ : S49) (Kd.R_mono (Kd.R_tight rfl (Kd.R_mono (ok' := fun k_ => ((fun k_ => k_ ≠ gb234)) k_ ∧ some k_ ≠ (u233001 : Value).ownBlock) (Kd.R_types (Kd.R_apart' (HO237.out) (Kd.S_typed HO_233001.out) (by decide)) BK234.out (by decide)) (fun k_ hk => ⟨hk.2, hk.1.2⟩))) (fun _ h_ => h_))); (case aB => exact (by repeat (first | (with_reducible first | exact HB.out | apply below_alloc | apply pw_below_drewN | apply below_drew1 | refine below_set ?_ GE224.out | refine below_set ?_ GE225.out | refine below_set ?_ GE232.out | refine below_set ?_ GE234.out) | exact HB.out))); (case aF => exact (fun k_ hk => Kd.freshB (g := gb234) (o := .cells #[.int .i64 ((rd_T49 l0_1 x4_1).f0), .int .i64 ((rd_T49 l0_1 x4_1).f1), .slice Ao28 t235.length co28] 49 (0, 0)) (by (with_reducible repeat first | apply blk_drewN | apply blk_drew | apply blk_alloc); exact BK234.out) k_ hk)); (case aO => exact (by (with_reducible repeat (first | apply Kd.S_alloc | apply Kd.S_drewN | apply Kd.S_drew)); exact Kd.S_mono HO_233001.out (fun k_ hk => ⟨hk.2, fun e_ => hk.1 e_⟩))); (case aS => exact (below_size (by repeat (first | (with_reducible first | exact HB.out | apply below_alloc | apply pw_below_drewN | apply below_drew1 | refine below_set ?_ GE224.out | refine below_set ?_ GE225.out | refine below_set ?_ GE232.out | refine below_set ?_ GE234.out) | exact HB.out)))); (case aL => have := LMc18.out; omega); intro v239 w34 ho hb hg hat; rw [← Ny238.out] at ho; have n0_ := Aside0.mk (Kd.R_over' (by (with_reducible repeat (first | apply Kd.R_alloc | apply Kd.R_drewN | apply Kd.R_drew)); exact HO_233000.out) (Kd.S_typed (by (with_reducible repeat (first | apply Kd.S_alloc | apply Kd.S_drewN | apply Kd.S_drew)); exact HO_233001.out)) (by decide) hg); have n1_ := Aside0.mk (blk_grown (g := gb224) (o := .cells #[.slice A0_0 l0_0.length c0_0, .slice (some ad233) l0_1.length c0_1] 25 (0, 0)) (by (with_reducible repeat first | apply blk_drewN | apply blk_drew | apply blk_alloc); exact BK224.out) hg (Kd.S_ne HO_233001.out BK224.out (by decide))); have n2_ := Aside0.mk (blk_grown (g := gb225) (o := .cells #[.slice none 0 0, .slice none 0 0] 25 (0, 0)) (by (with_reducible repeat first | apply blk_drewN | apply blk_drew | apply blk_alloc); exact BK225.out) hg (Kd.S_ne HO_233001.out BK225.out (by decide))); have n3_ := Aside0.mk (blk_grown (g := gb232) (o := .cells #[.slice Ao10 y229.length co10, u233001] 25 (0, 0)) (by (with_reducible repeat first | apply blk_drewN | apply blk_drew | apply blk_alloc); exact BK232.out) hg (Kd.S_ne HO_233001.out BK232.out (by decide))); have n4_ := Aside0.mk (blk_grown (g := gb234) (o := .cells #[.int .i64 ((rd_T49 l0_1 x4_1).f0), .int .i64 ((rd_T49 l0_1 x4_1).f1), .slice Ao28 t235.length co28] 49 (0, 0)) (by (with_reducible repeat first | apply blk_drewN | apply blk_drew | apply blk_alloc); exact BK234.out) hg (Kd.S_away HO_233001.out (fun _ hk => hk.2))); have n5_ := Aside0.mk (hb); have n6_ := Aside0.mk (ho); clear HO_233000; clear BK224; clear BK225; clear BK232; clear BK234; clear HB; clear HO_233001; clear HO237; have HO_233000 := n0_; have BK224 := n1_; have BK225 := n2_; have BK232 := n3_; have BK234 := n4_; have HB := n5_; have HO240 := n6_; clear n0_ n1_ n2_ n3_ n4_ n5_ n6_; clear ho hb hg hat; obtain ⟨Ao35, co35, eo35⟩ := Kd.S_slice HO240.out; subst eo35; have hcz36_0 : w34.cell? ⟨gb232, 0, none⟩ = some (.slice Ao10 y229.length co10) := (blk_cell BK232.out 0).trans rfl; have hcz36_1 : w34.cell? ⟨gb232, 1, none⟩ = some (u233001) := (blk_cell BK232.out 1).trans rfl; have hfz36_0 := blk_frozen BK232.out 0; have hfz36_1 := blk_frozen BK232.out 1))
       go_roundg k1
       case measure => have := HK1.out; omega
       case rel => exact ⟨(wrap64 (x4_1 + 1)), (y238), (.slice Ao35 y238.length co35), (by first | rfl | (simp; done) | (simp [*]; done)), H', ⟨by have := HK1.out; omega⟩, ⟨by (with_reducible repeat (first | apply Kd.R_alloc | apply Kd.R_drewN | apply Kd.R_drew)); exact Kd.R_mono (Kd.R_far (p := ⟨gb232, 1, none⟩) (Kd.R_types HO_233000.out BK232.out (by decide)) (fun _ hk => hk.2) (.slice Ao35 y238.length co35)) (fun _ hk => trivial)⟩, ⟨by (with_reducible repeat (first | apply Kd.S_alloc | apply Kd.S_drewN | apply Kd.S_drew)); exact Kd.S_mono (Kd.S_far (p := ⟨gb232, 1, none⟩) (Kd.S_types HO240.out BK232.out (by decide)) (fun _ hk => hk.2) (.slice Ao35 y238.length co35)) (fun _ hk => trivial)⟩, ⟨by (with_reducible repeat first | apply blk_drewN | apply blk_drew | apply blk_alloc); refine blk_far ?_ NB224_232.out _; (with_reducible repeat first | apply blk_drewN | apply blk_drew | apply blk_alloc); exact BK224.out⟩, ⟨by (with_reducible repeat first | apply blk_drewN | apply blk_drew | apply blk_alloc); refine blk_far ?_ NB225_232.out _; (with_reducible repeat first | apply blk_drewN | apply blk_drew | apply blk_alloc); exact BK225.out⟩, ⟨by (with_reducible repeat first | apply blk_drewN | apply blk_drew | apply blk_alloc); refine blk_put (cs := #[.slice Ao10 y229.length co10, u233001]) ?_ 1 _ rfl; (with_reducible repeat first | apply blk_drewN | apply blk_drew | apply blk_alloc); exact BK232.out⟩, ⟨by repeat (first | (with_reducible first | exact HB.out | apply below_alloc | apply pw_below_drewN | apply below_drew1 | refine below_set ?_ GE224.out | refine below_set ?_ GE225.out | refine below_set ?_ GE232.out | refine below_set ?_ GE234.out) | exact HB.out)⟩⟩
      ·rw [if_neg c18] at H
       exact absurd H (by simp)
     ·rw [if_neg c16] at H
      exact absurd H (by simp)
    ·rw [if_neg c15] at H
     have c15b0 : decide (x4_1 < (l0_1.length : Int)) = false := decide_eq_false c15
     clear c15
     simp only [Option.some.injEq, Prod.mk.injEq] at H
     obtain ⟨rfl, rfl⟩ := H
     have hnb37 := NB224_225.out
     have hnc37 := NB225_224.out
     have hnb38 := NB224_232.out
     have hnc38 := NB232_224.out
     have hcz39_0 : wr.cell? ⟨gb224, 0, none⟩ = some (.slice A0_0 l0_0.length c0_0) := (blk_cell BK224.out 0).trans rfl
     have hcz39_1 : wr.cell? ⟨gb224, 1, none⟩ = some (.slice A0_1 l0_1.length c0_1) := (blk_cell BK224.out 1).trans rfl
     have hfz39_0 := blk_frozen BK224.out 0
     have hfz39_1 := blk_frozen BK224.out 1
     have hnb40 := NB232_225.out
     have hnc40 := NB225_232.out
     have hcz41_0 : wr.cell? ⟨gb232, 0, none⟩ = some (.slice Ao10 y229.length co10) := (blk_cell BK232.out 0).trans rfl
     have hcz41_1 : wr.cell? ⟨gb232, 1, none⟩ = some (u233001) := (blk_cell BK232.out 1).trans rfl
     have hfz41_0 := blk_frozen BK232.out 0
     have hfz41_1 := blk_frozen BK232.out 1
     have hcz42_0 : wr.cell? ⟨gb225, 0, none⟩ = some (.slice none 0 0) := (blk_cell BK225.out 0).trans rfl
     have hcz42_1 : wr.cell? ⟨gb225, 1, none⟩ = some (.slice none 0 0) := (blk_cell BK225.out 1).trans rfl
     have hfz42_0 := blk_frozen BK225.out 0
     have hfz42_1 := blk_frozen BK225.out 1
     obtain ⟨Ao43, co43, eo43⟩ := Kd.S_slice HO_233001.out
     subst eo43
     go_wp2
     refine bodyPost_ret (results_cell_row rfl _ _ gb225 25 #[.slice Ao10 y229.length co10, .slice Ao43 x233001_1.length co43] (0, 0) _ rfl (by (with_reducible repeat first | apply blk_drewN | apply blk_drew | apply blk_alloc); refine blk_put (cs := #[.slice Ao10 y229.length co10, .slice none 0 0]) ?_ 1 _ rfl; (with_reducible repeat first | apply blk_drewN | apply blk_drew | apply blk_alloc); refine blk_put (cs := #[.slice none 0 0, .slice none 0 0]) ?_ 0 _ rfl; (with_reducible repeat first | apply blk_drewN | apply blk_drew | apply blk_alloc); exact BK225.out) Tryz.underlying25 rfl (by kernel_rfl)) rfl ?_
     exact ⟨_, _, by first | rfl | (simp [*, errW_none, errW_some] <;> rfl), by (with_reducible repeat (first | apply Kd.R_alloc | apply Kd.R_drewN | apply Kd.R_drew)); exact Kd.R_mono (Kd.R_far (p := ⟨gb225, 1, none⟩) (Kd.R_far (p := ⟨gb225, 0, none⟩) (Kd.R_types HO_233000.out BK225.out (by decide)) (fun _ hk => hk.2) (.slice Ao10 y229.length co10)) (fun _ hk => hk.2) (.slice Ao43 x233001_1.length co43)) (fun _ hk => trivial), by (with_reducible repeat (first | apply Kd.S_alloc | apply Kd.S_drewN | apply Kd.S_drew)); exact Kd.S_mono (Kd.S_far (p := ⟨gb225, 1, none⟩) (Kd.S_far (p := ⟨gb225, 0, none⟩) (Kd.S_types HO_233001.out BK225.out (by decide)) (fun _ hk => hk.2) (.slice Ao10 y229.length co10)) (fun _ hk => hk.2) (.slice Ao43 x233001_1.length co43)) (fun _ hk => trivial), by repeat (first | (with_reducible first | exact HB.out | apply below_alloc | apply pw_below_drewN | apply below_drew1 | refine below_set ?_ GE224.out | refine below_set ?_ GE225.out | refine below_set ?_ GE232.out) | exact HB.out)⟩
 ·rw [if_neg c2] at H
  exact absurd H (by simp)

end Go.Proofs.YtohjpgcmhihdhaaGreatDoor.Q

namespace Go.Proofs.YtohjpgcmhihdhaaGreatDoor.Pure
open Go.RowKit Go.Proofs.YtohjpgcmhihdhaaGreatDoor.Q Go.Proofs.YtohjpgcmhihdhaaGreatDoorW.PrintWords Go.Proofs.YtohjpgcmhihdhaaGreatDoorW.PrintLast Go.Proofs.YtohjpgcmhihdhaaGreatDoorW.PrintMore
set_option linter.unusedVariables false
set_option linter.unusedSimpArgs false
/-- lines read, but the last -/
def spLines : List S57 → List S49 → List ByteArray → Option (List S57 × List S49)
  | D, B, [] => some (D, B)
  | D, B, [_] => some (D, B)
  | D, B, x :: y :: r => (spLine D B (cutB 32 x)).bind fun p => spLines p.1 p.2 (y :: r)
/-- a text read -/
def spRead (s : ByteArray) : Option (List S57 × List S49) :=
  if 29 < (cutB 10 s).length then none else (spLines [] [] (cutB 10 s)).bind fun p => if treeOkB p.1 p.2 = true ∧ treeB8 p.1 p.2 = s then some p else none
theorem spLine_len {D D' : List S57} {B B' : List S49} {W : List ByteArray} (h : spLine D B W = some (D', B')) : D'.length + B'.length ≤ D.length + B.length + 1 := by
  cases W with
  | nil => cases h
  | cons w0 ws =>
    obtain ⟨n, hn, h⟩ := Option.bind_eq_some_iff.1 (show (spN ws).bind (addX D B w0) = some (D', B') from h)
    cases n with
    | nil => cases h
    | cons a r =>
      unfold addX at h
      simp only at h
      split at h
      · cases h
      · split at h
        · split at h
          · injection h with h
            injection h with h1 h2
            subst h1
            subst h2
            simp
            omega
          · cases h
        · injection h with h
          injection h with h1 h2
          subst h1
          subst h2
          simp
          omega
/-- a topology that the reference reads, in its box -/
structure SpS (w W : World) (gr gt : Nat) (v0 v1 : Value) (D : List S57) (B : List S49) : Prop where
  box : W.heap[gt]? = some (.cells #[v0, v1] 25 (0, 0))
  res : W.heap[gr]? = some (.cells #[.slice none 0 0, .slice none 0 0] 25 (0, 0))
  d : Kd.R k57 57 W w.heap.size (fun _ => True) v0 D
  b : Kd.S kqB 49 W w.heap.size (fun _ => True) v1 B
  bl : Below w.heap.size w W
theorem SpS.below {w W W2 : World} {gr gt : Nat} {v0 v1 : Value} {D : List S57} {B : List S49} (h : SpS w W gr gt v0 v1 D B) (hb : Below W.heap.size W W2) : SpS w W2 gr gt v0 v1 D B :=
  ⟨blk_below h.box hb, blk_below h.res hb, Kd.R_below h.d hb, Kd.S_below h.b hb, below_step h.bl hb⟩
/-- what the reference's reading hands back -/
def RdOut (s : ByteArray) (e : Ending) (w w' : World) : Prop :=
  ∃ u0 u1, e = .returned (.tuple #[.agg #[u0, u1], .bool (spRead s).isSome]) ∧ (∃ A n c, u0 = .slice A n c) ∧ (∃ A n c, u1 = .slice A n c) ∧ (∀ D B, spRead s = some (D, B) → Kd.R k57 57 w' w.heap.size (fun _ => True) u0 D ∧ Kd.S kqB 49 w' w.heap.size (fun _ => True) u1 B) ∧ Below w.heap.size w w'
/-- behind the region that reads a line -/
structure SpL (w W : World) (gr gt gl g7 : Nat) (lcs : Array Value) (v0 v1 u0 u1 : Value) (D : List S57) (B : List S49) (L : List ByteArray) : Prop where
  box : W.heap[gt]? = some (.cells #[v0, v1] 25 (0, 0))
  res : W.heap[gr]? = some (.cells #[.slice none 0 0, .slice none 0 0] 25 (0, 0))
  x7 : W.heap[g7]? = some (.cells #[.slice none 0 0, .slice none 0 0] 25 (0, 0))
  ln : W.heap[gl]? = some (.cells lcs 9 (0, 0))
  bl : Below w.heap.size w W
  s0 : ∃ A n c, u0 = .slice A n c
  s1 : ∃ A n c, u1 = .slice A n c
  o : ∀ D' B', spLine D B L = some (D', B') → Kd.R k57 57 W w.heap.size (fun _ => True) u0 D' ∧ Kd.S kqB 49 W w.heap.size (fun _ => True) u1 B'
  n7 : w.heap.size ≤ g7 ∧ g7 ≠ gt ∧ g7 ≠ gr
/-- behind the line's call -/
theorem SpL.of_line {w W W2 : World} {gr gt gl g7 : Nat} {lcs : Array Value} {v0 v1 u0 u1 : Value} {D : List S57} {B : List S49} {L : List ByteArray} (h : SpS w W gr gt v0 v1 D B) (hl : W.heap[gl]? = some (.cells lcs 9 (0, 0))) (h7 : W2.heap[g7]? = some (.cells #[.slice none 0 0, .slice none 0 0] 25 (0, 0))) (hb : Below w.heap.size W W2) (hk : Kept W W2 (fun k => v0.ownBlock = some k ∨ v1.ownBlock = some k)) (s0 : ∃ A n c, u0 = .slice A n c) (s1 : ∃ A n c, u1 = .slice A n c)
    (o : ∀ D' B', spLine D B L = some (D', B') → Kd.R k57 57 W2 w.heap.size (fun _ => True) u0 D' ∧ Kd.S kqB 49 W2 w.heap.size (fun _ => True) u1 B') (n7 : w.heap.size ≤ g7 ∧ g7 ≠ gt ∧ g7 ≠ gr) : SpL w W2 gr gt gl g7 lcs v0 v1 u0 u1 D B L := by
  have kp : ∀ {g : Nat} {t : TypeId} {cs : Array Value}, W.heap[g]? = some (.cells cs t (0, 0)) → 57 ≠ t → 49 ≠ t → W2.heap[g]? = some (.cells cs t (0, 0)) := fun {g t cs} hg h1 h2 => (hk.2 g (blk_lt hg) (fun hx => hx.elim (fun he => Kd.R_ne h.d hg h1 he.symm) (fun he => Kd.R_ne (Kd.S_R h.b) hg h2 he.symm))).trans hg
  exact ⟨kp h.box (by decide) (by decide), kp h.res (by decide) (by decide), h7, kp hl (by decide) (by decide), h.bl.trans hb, s0, s1, o, n7⟩
/-- behind the line's call, its box not yet made -/
structure SpB (w W : World) (gr gt gl : Nat) (lcs : Array Value) (v0 v1 u0 u1 : Value) (D : List S57) (B : List S49) (L : List ByteArray) : Prop where
  box : W.heap[gt]? = some (.cells #[v0, v1] 25 (0, 0))
  res : W.heap[gr]? = some (.cells #[.slice none 0 0, .slice none 0 0] 25 (0, 0))
  ln : W.heap[gl]? = some (.cells lcs 9 (0, 0))
  bl : Below w.heap.size w W
  s0 : ∃ A n c, u0 = .slice A n c
  s1 : ∃ A n c, u1 = .slice A n c
  o : ∀ D' B', spLine D B L = some (D', B') → Kd.R k57 57 W w.heap.size (fun _ => True) u0 D' ∧ Kd.S kqB 49 W w.heap.size (fun _ => True) u1 B'
theorem SpB.of_line {w W W2 : World} {gr gt gl : Nat} {lcs : Array Value} {v0 v1 u0 u1 : Value} {D : List S57} {B : List S49} {L : List ByteArray} (h : SpS w W gr gt v0 v1 D B) (hl : W.heap[gl]? = some (.cells lcs 9 (0, 0))) (hb : Below w.heap.size W W2) (hk : Kept W W2 (fun k => v0.ownBlock = some k ∨ v1.ownBlock = some k)) (s0 : ∃ A n c, u0 = .slice A n c) (s1 : ∃ A n c, u1 = .slice A n c)
    (o : ∀ D' B', spLine D B L = some (D', B') → Kd.R k57 57 W2 w.heap.size (fun _ => True) u0 D' ∧ Kd.S kqB 49 W2 w.heap.size (fun _ => True) u1 B') : SpB w W2 gr gt gl lcs v0 v1 u0 u1 D B L := by
  have kp : ∀ {g : Nat} {t : TypeId} {cs : Array Value}, W.heap[g]? = some (.cells cs t (0, 0)) → 57 ≠ t → 49 ≠ t → W2.heap[g]? = some (.cells cs t (0, 0)) := fun {g t cs} hg h1 h2 => (hk.2 g (blk_lt hg) (fun hx => hx.elim (fun he => Kd.R_ne h.d hg h1 he.symm) (fun he => Kd.R_ne (Kd.S_R h.b) hg h2 he.symm))).trans hg
  exact ⟨kp h.box (by decide) (by decide), kp h.res (by decide) (by decide), kp hl (by decide) (by decide), h.bl.trans hb, s0, s1, o⟩
theorem SpB.box7 {w W : World} {gr gt gl : Nat} {lcs : Array Value} {v0 v1 u0 u1 : Value} {D : List S57} {B : List S49} {L : List ByteArray} (h : SpB w W gr gt gl lcs v0 v1 u0 u1 D B L) (o : Obj) (ho : o = .cells #[.slice none 0 0, .slice none 0 0] 25) : SpL w (W.alloc o) gr gt gl W.heap.size lcs v0 v1 u0 u1 D B L := by
  subst ho
  have hb := below_alloc (Below.refl W.heap.size W) (.cells #[.slice none 0 0, .slice none 0 0] 25)
  exact ⟨blk_below h.box hb, blk_below h.res hb, blk_new W _, blk_below h.ln hb, below_step h.bl hb, h.s0, h.s1, fun D' B' e => ⟨Kd.R_below (h.o D' B' e).1 hb, Kd.S_below (h.o D' B' e).2 hb⟩, h.bl.size, fun e => by have := blk_lt h.box; omega, fun e => by have := blk_lt h.res; omega⟩
set_option maxHeartbeats 8000000 in
set_option maxRecDepth 100000 in
theorem spRead_at (s : ByteArray) (w : World) (hs : s.size ≤ 1048576) :
    Calls Tryz.prog 9 #[.string s] w fun e w' => RdOut s e w w' := by
  have HS := Aside0.mk hs
  clear hs
  obtain ⟨k, hk⟩ := (cut_ev s 10 (by have := HS.out; omega)).rounds
  go_enter Tryz.func9, Tryz.ntmps9
  go_wp2_with fail
  have h0 : SpS w ((w.alloc (.cells #[.slice none 0 0, .slice none 0 0] 25)).alloc (.cells #[.slice none 0 0, .slice none 0 0] 25)) w.heap.size (w.heap.size + 1) (.slice none 0 0) (.slice none 0 0) [] [] := by
    refine ⟨?_, blk_alloc (blk_new w _) _, Kd.R_nil _ _ _ _ _, Kd.S_nil _ _ _ _ _, below_alloc (below_alloc (Below.refl _ _) _) _⟩
    have h := blk_new (w.alloc (.cells #[.slice none 0 0, .slice none 0 0] 25)) (.cells #[.slice none 0 0, .slice none 0 0] 25)
    rw [World.size_alloc] at h
    exact h
  generalize ((w.alloc (.cells #[.slice none 0 0, .slice none 0 0] 25)).alloc (.cells #[.slice none 0 0, .slice none 0 0] 25)) = W1 at h0 ⊢
  obtain ⟨gr, er⟩ : ∃ g, g = w.heap.size := ⟨_, rfl⟩
  obtain ⟨gt, et⟩ : ∃ g, g = w.heap.size + 1 := ⟨_, rfl⟩
  rw [← et] at h0 ⊢
  have HG := Aside0.mk (show gr ≠ gt ∧ w.heap.size ≤ gr ∧ w.heap.size ≤ gt by omega)
  have HS0 := Aside0.mk (show SpS w W1 gr gt (.slice none 0 0) (.slice none 0 0) [] [] by rw [er]; exact h0)
  rw [← er]
  clear er et h0
  refine (spec_l06Cut.calls k s 10 (cutB 10 s) W1 hk).mono ?_
  rintro e w2 ⟨vL, rfl, hL, hb⟩
  have HSp := Aside0.mk (HS0.out.below hb)
  have HRd := Aside0.mk (show spRead s = if 29 < (cutB 10 s).length then none else (spLines [] [] (cutB 10 s)).bind fun p => if treeOkB p.1 p.2 = true ∧ treeB8 p.1 p.2 = s then some p else none from rfl)
  have HZ := Aside0.mk (fun x hx => cutB_sizes 10 s x hx)
  have HL1 := Aside0.mk (show 1 ≤ (cutB 10 s).length by obtain ⟨a, r, h⟩ := cutB_ne 10 s; rw [h]; simp)
  clear hb hk HS0
  generalize cutB 10 s = L at HRd HZ HL1 hL ⊢
  obtain ⟨gl, cl, el, hgl, hgs, lcs, hln⟩ := Kd.R_form hL (by have := HL1.out; omega)
  subst el
  have HLN := Aside0.mk hln
  have HGL := Aside0.mk (show ∀ i (h : i < L.length), lcs[i]? = some (.string L[i]) from fun i h => by
    have h1 := (Kd.R_cell ByteArray.empty hL (i : Int) (by omega) (by omega)).1
    rw [Int.toNat_natCast] at h1
    have h2 := (blk_cell hln i).symm.trans h1
    rw [h2]
    unfold rdOf
    rw [Int.toNat_natCast, List.getD_eq_getElem?_getD, List.getElem?_eq_getElem h]
    rfl)
  clear hL hln hgl hgs
  by_cases cl29 : 29 < L.length
  · have cb := decide_eq_true (show (29 : Int) < (L.length : Int) by omega)
    have HF := Aside0.mk (show spRead s = none from by rw [HRd.out, if_pos cl29])
    have hc0 := (blk_cell HSp.out.box 0).trans rfl
    have hc1 := (blk_cell HSp.out.box 1).trans rfl
    have hr0 := (blk_cell HSp.out.res 0).trans rfl
    have hr1 := (blk_cell HSp.out.res 1).trans rfl
    have hf0 := blk_frozen HSp.out.res 0
    have hf1 := blk_frozen HSp.out.res 1
    go_wp2_with fail
    have HR3 := blk_put (blk_put HSp.out.res 0 (.slice none 0 0) rfl) 1 (.slice none 0 0) rfl
    (try simp only [Exit.inBlock, Exit.then])
    refine bodyPost_ret (results_ct rfl _ _ gr (.agg #[.slice none 0 0, .slice none 0 0]) (.bool false) rfl (run_loadVar_row _ gr 25 25 _ (0, 0) _ HR3 Tryz.underlying25 rfl (by kernel_rfl)) rfl) rfl ?_
    exact ⟨_, _, by rw [HF.out]; rfl, ⟨_, _, _, rfl⟩, ⟨_, _, _, rfl⟩, (fun D' B' h => by rw [HF.out] at h; cases h), (HSp.out.bl.setCell HG.out.2.1 _).setCell HG.out.2.1 _⟩
  have cb := decide_eq_false (show ¬ (29 : Int) < (L.length : Int) by omega)
  have HR2 := Aside0.mk (HRd.out.trans (if_neg cl29))
  clear HRd
  go_wp2_with fail
  go_loopg [6] L.length (fun gg v6 wr => ∃ (kk : Nat) (v0 v1 : Value) (D : List S57) (B : List S49), kk + 1 ≤ L.length ∧ (L.length : Int) - kk ≤ gg ∧ v6 = .int .i64 (kk : Int) ∧ Aside0 (SpS w wr gr gt v0 v1 D B) ∧ Aside0 (wr.heap[gl]? = some (.cells lcs 9 (0, 0))) ∧ Aside0 (spLines D B (L.drop kk) = spLines [] [] L) ∧ Aside0 (D.length + B.length ≤ kk))
  case atStart => exact ⟨0, _, _, [], [], by have := HL1.out; omega, by omega, rfl, HSp, HLN, ⟨rfl⟩, ⟨by simp⟩⟩
  case round =>
    clear HSp HLN
    obtain ⟨kk, v0, v1, D, B, hk, hg, rfl, HSp, HLN, HE, HDB⟩ := hrel
    obtain ⟨A0, c0, e0⟩ := Kd.R_slice HSp.out.d
    obtain ⟨A1, c1, e1⟩ := Kd.S_slice HSp.out.b
    subst e0 e1
    by_cases hlt : kk + 1 < L.length
    · obtain ⟨x, hx⟩ : ∃ x, x = L[kk] := ⟨_, rfl⟩
      have HLX := Aside0.mk (show lcs[kk]? = some (.string x) by rw [hx]; exact HGL.out kk (by omega))
      have HXS := Aside0.mk (show x.size ≤ s.size by rw [hx]; exact HZ.out _ (List.getElem_mem _))
      have HST := Aside0.mk (show spLines D B (L.drop kk) = (spLine D B (cutB 32 x)).bind fun p => spLines p.1 p.2 (L.drop (kk + 1)) from by
        rw [List.drop_eq_getElem_cons (show kk < L.length by omega), ← hx, List.drop_eq_getElem_cons hlt]
        rfl)
      obtain ⟨w0, ws, hcw⟩ := cutB_ne 32 x
      have HWN := Aside0.mk (cutB_len 32 x)
      obtain ⟨k2, hk2⟩ := (cut_ev x 32 (by have := HXS.out; have := HS.out; omega)).rounds
      rw [hcw] at hk2 HST HWN
      have HK2 := Aside0.mk (show spec_l06Cut.f k2 x 32 = some (w0 :: ws) from hk2)
      have HDL := Aside0.mk (show D.length ≤ 2097152 ∧ B.length ≤ 2097152 by have := HDB.out; omega)
      have HDL2 := Aside0.mk (show ws.length ≤ 2097152 by have h1 := HWN.out; have := HXS.out; have := HS.out; simp only [List.length_cons] at h1; omega)
      clear hk2 hcw hx HWN
      have q1 : ((kk : Int) + 1 < (L.length : Int)) = True := eq_true (by omega)
      have q2 : ((0 : Int) ≤ (kk : Int)) = True := eq_true (by omega)
      have q3 : ((kk : Int) < (L.length : Int)) = True := eq_true (by omega)
      have n0 := Aside0.mk (HSp.out.below (below_drew1 (Below.refl wr.heap.size wr)))
      have n1 := Aside0.mk (show wr.drew.heap[gl]? = some (.cells lcs 9 (0, 0)) from blk_below HLN.out (below_drew1 (Below.refl wr.heap.size wr)))
      clear HSp HLN
      have HSp := n0
      have HLN := n1
      clear n0 n1
      go_wp2_with fail
      refine start_ (n := 13) (S := fun w' => w'.cell? ⟨gt, 0, none⟩ = some (Value.slice A0 D.length c0) ∧ w'.cell? ⟨gt, 1, none⟩ = some (Value.slice A1 B.length c1) ∧ w'.cell? ⟨gl, kk, none⟩ = some (.string x)) (ds := [11]) #[false, false, false, false, false, false, false, false, false, false, false, false, false] (by kernel_rfl) rfl rfl ⟨(blk_cell HSp.out.box 0).trans rfl, (blk_cell HSp.out.box 1).trans rfl, (blk_cell HLN.out kk).trans HLX.out⟩ (fun hHeld => ?_)
      refine pure_ (i := 1) (N := some 25) (v := ?_) (a' := ?_) #[false, true, false, false, false, false, false, false, false, false, false, false, false] rfl rfl (by kernel_rfl) (fun _ _ _ h => h) (Or.inl ⟨by rfl, ?_⟩) ?_ ?_
      rotate_left
      · intro w'
        go_simp
        with_reducible rfl
      rotate_left
      · simp only [Act.put, List.setIfInBounds_toArray, List.set_cons_zero, List.set_cons_succ, i64_w, i32_w]
        rfl
      refine pure_ (i := 2) (N := some 26) (v := ?_) (a' := ?_) #[false, true, true, false, false, false, false, false, false, false, false, false, false] rfl rfl (by kernel_rfl) (fun _ _ _ h => h) (Or.inl ⟨by rfl, ?_⟩) ?_ ?_
      rotate_left
      · intro w'
        go_simp
        with_reducible rfl
      rotate_left
      · simp only [Act.put, List.setIfInBounds_toArray, List.set_cons_zero, List.set_cons_succ, i64_w, i32_w]
        rfl
      refine pure_ (i := 3) (N := some 27) (v := ?_) (a' := ?_) #[false, true, true, true, false, false, false, false, false, false, false, false, false] rfl rfl (by kernel_rfl) (fun _ _ _ h => h) (Or.inl ⟨by rfl, ?_⟩) ?_ ?_
      rotate_left
      · intro w'
        go_simp
        with_reducible rfl
      rotate_left
      · simp only [Act.put, List.setIfInBounds_toArray, List.set_cons_zero, List.set_cons_succ, i64_w, i32_w]
        rfl
      refine take_ (i := 0) (N := some 24) (v := ?_) (a' := ?_) #[true, true, true, true, false, false, false, false, false, false, false, false, false] rfl rfl (by kernel_rfl) (fun _ _ _ h => h) (Or.inl ⟨by rfl, ?_⟩) hHeld ?_ ?_
      rotate_left
      · rintro w' ⟨s0, s1, s2⟩
        go_simp
        with_reducible rfl
      rotate_left
      · simp only [Act.put, List.setIfInBounds_toArray, List.set_cons_zero, List.set_cons_succ, i64_w, i32_w]
        rfl
      refine take_ (i := 4) (N := some 28) (v := ?_) (a' := ?_) #[true, true, true, true, true, false, false, false, false, false, false, false, false] rfl rfl (by kernel_rfl) (fun _ _ _ h => h) (Or.inl ⟨by rfl, ?_⟩) hHeld ?_ ?_
      rotate_left
      · rintro w' ⟨s0, s1, s2⟩
        go_simp
        with_reducible rfl
      rotate_left
      · simp only [Act.put, List.setIfInBounds_toArray, List.set_cons_zero, List.set_cons_succ, i64_w, i32_w]
        rfl
      refine join_ (σ := Value × Value × Value × Nat) 2 #[true, true, true, true, true, true, true, true, true, true, true, false, false] (fun s_ => [(29, s_.1), (30, .tuple #[.agg #[s_.2.1, s_.2.2.1], .bool (spLine D B (w0 :: ws)).isSome]), (23, .tuple #[.agg #[s_.2.1, s_.2.2.1], .bool (spLine D B (w0 :: ws)).isSome]), (31, .agg #[s_.2.1, s_.2.2.1]), (32, .bool (spLine D B (w0 :: ws)).isSome), (7, .pointer (some ⟨s_.2.2.2, 0, none⟩))]) (fun s_ w' => SpL w w' gr gt gl s_.2.2.2 lcs (.slice A0 D.length c0) (.slice A1 B.length c1) s_.2.1 s_.2.2.1 D B (w0 :: ws)) ?_ ?_
      rotate_left
      · intro hCont
        refine two_ (i := 5) (j := 10) (Ni := some 29) (Nj := some 7) #[true, true, true, true, true, true, false, false, false, false, false, false, false] #[true, true, true, true, true, false, false, false, false, false, true, false, false] rfl rfl rfl rfl (by kernel_rfl) (by decide) (by decide) (fun K hK => ?_) (fun K hK => ?_)
        · skip
          generalize wr.drew = wd at HSp HLN hHeld ⊢
          refine goes_ Tryz.func22 (by kernel_rfl) rfl #[.string x, .int .u8 32] (by rfl) rfl rfl (by simp only [List.map_toArray, List.map_cons, List.map_nil]; rfl) ?_
          with_reducible refine (spec_l06Cut.calls k2 x 32 (w0 :: ws) _ HK2.out).mono ?_
          rintro e w5 ⟨vW, rfl, hW, hb⟩
          refine ⟨_, rfl, ?_⟩
          have n0 := Aside0.mk (HSp.out.below hb)
          have n1 := Aside0.mk (blk_below HLN.out hb)
          obtain ⟨Aw, cw, eW⟩ := Kd.R_slice hW
          subst eW
          obtain ⟨-, hwc, hwC⟩ := Kd.R_reads' hW
          have HWc := Aside0.mk hwc
          have HWC := Aside0.mk hwC
          clear hW hb hwc hwC
          clear HSp HLN
          have HSp := n0
          have HLN := n1
          clear n0 n1
          refine hK.out _ _ ⟨(blk_cell HSp.out.box 0).trans rfl, (blk_cell HSp.out.box 1).trans rfl, (blk_cell HLN.out kk).trans HLX.out⟩ (fun hHeld => ?_)
          clear hK K
          refine norm_ (a' := ?_) ?_ ?_
          rotate_left
          · show Act.put _ (some 29) _ = _
            simp only [Act.put, List.setIfInBounds_toArray, List.set_cons_zero, List.set_cons_succ, i64_w, i32_w]
            rfl
          refine two_ (i := 6) (j := 10) (Ni := some 30) (Nj := some 7) #[true, true, true, true, true, true, true, false, false, false, false, false, false] #[true, true, true, true, true, true, false, false, false, false, true, false, false] rfl rfl rfl rfl (by kernel_rfl) (by decide) (by decide) (fun K hK => ?_) (fun K hK => ?_)
          · skip
            refine goes_ Tryz.func23 (by kernel_rfl) rfl #[.agg #[(.slice A0 D.length c0), (.slice A1 B.length c1)], .slice Aw (w0 :: ws).length cw] (by rfl) rfl rfl (by simp only [List.map_toArray, List.map_cons, List.map_nil]; rfl) ?_
            with_reducible refine (spLine_at w.heap.size (.slice A0 D.length c0) (.slice A1 B.length c1) D B Aw cw w0 ws _ HSp.out.d HSp.out.b HWC.out HWc.out HSp.out.bl.size HDL.out.1 HDL.out.2 HDL2.out).mono ?_
            rintro e w6 ⟨u0, u1, rfl, hs0, hs1, ho, hb, hkp⟩
            refine ⟨_, rfl, ?_⟩
            have HO := Aside0.mk (SpB.of_line HSp.out HLN.out hb hkp hs0 hs1 ho)
            clear hs0 hs1 ho hb hkp HSp HLN
            refine hK.out _ _ ⟨(blk_cell HO.out.box 0).trans rfl, (blk_cell HO.out.box 1).trans rfl, (blk_cell HO.out.ln kk).trans HLX.out⟩ (fun hHeld => ?_)
            clear hK K
            refine norm_ (a' := ?_) ?_ ?_
            rotate_left
            · show Act.put _ (some 30) _ = _
              simp only [Act.put, List.setIfInBounds_toArray, List.set_cons_zero, List.set_cons_succ, i64_w, i32_w]
              rfl
            refine pure_ (i := 7) (N := some 23) (v := ?_) (a' := ?_) #[true, true, true, true, true, true, true, true, false, false, false, false, false] rfl rfl (by kernel_rfl) (fun _ _ _ h => h) (Or.inl ⟨by rfl, ?_⟩) ?_ ?_
            rotate_left
            · intro w'
              go_simp
              with_reducible rfl
            rotate_left
            · simp only [Act.put, List.setIfInBounds_toArray, List.set_cons_zero, List.set_cons_succ, i64_w, i32_w]
              rfl
            refine pure_ (i := 8) (N := some 31) (v := ?_) (a' := ?_) #[true, true, true, true, true, true, true, true, true, false, false, false, false] rfl rfl (by kernel_rfl) (fun _ _ _ h => h) (Or.inl ⟨by rfl, ?_⟩) ?_ ?_
            rotate_left
            · intro w'
              go_simp
              with_reducible rfl
            rotate_left
            · simp only [Act.put, List.setIfInBounds_toArray, List.set_cons_zero, List.set_cons_succ, i64_w, i32_w]
              rfl
            refine pure_ (i := 9) (N := some 32) (v := ?_) (a' := ?_) #[true, true, true, true, true, true, true, true, true, true, false, false, false] rfl rfl (by kernel_rfl) (fun _ _ _ h => h) (Or.inl ⟨by rfl, ?_⟩) ?_ ?_
            rotate_left
            · intro w'
              go_simp
              with_reducible rfl
            rotate_left
            · simp only [Act.put, List.setIfInBounds_toArray, List.set_cons_zero, List.set_cons_succ, i64_w, i32_w]
              rfl
            refine one_ (i := 10) (N := some 7) #[true, true, true, true, true, true, true, true, true, true, true, false, false] rfl rfl (by kernel_rfl) (by decide) (fun K hK => ?_)
            refine value_ (w1 := ?_) (v := ?_) (by rfl) rfl ?_ ?_
            rotate_left 2
            · go_simp
              constructor
              · rfl
              · rfl
            have n0 := Aside0.mk (HO.out.box7 (.cells #[.slice none 0 0, .slice none 0 0] 25) rfl)
            generalize (w6.alloc (.cells #[.slice none 0 0, .slice none 0 0] 25)) = wa at n0 ⊢
            generalize w6.heap.size = g7 at n0 ⊢
            clear HO
            have HO := n0
            clear n0
            refine hK.out _ _ ⟨(blk_cell HO.out.box 0).trans rfl, (blk_cell HO.out.box 1).trans rfl, (blk_cell HO.out.ln kk).trans HLX.out⟩ (fun hHeld => ?_)
            clear hK K
            refine norm_ (a' := ?_) ?_ ?_
            rotate_left
            · show Act.put _ (some 7) _ = _
              simp only [Act.put, List.setIfInBounds_toArray, List.set_cons_zero, List.set_cons_succ, i64_w, i32_w]
              rfl
            exact norm_ (by simp only [putAll, Act.put, List.setIfInBounds_toArray, List.set_cons_zero, List.set_cons_succ]) (hCont (.slice Aw (w0 :: ws).length cw, u0, u1, g7) _ HO.out)
          · skip
            refine value_ (w1 := ?_) (v := ?_) (by rfl) rfl ?_ ?_
            rotate_left 2
            · go_simp
              constructor
              · rfl
              · rfl
            have hb := below_alloc (Below.refl w5.heap.size w5) (.cells #[.slice none 0 0, .slice none 0 0] 25)
            have n0 := Aside0.mk (HSp.out.below hb)
            have n1 := Aside0.mk (blk_below HLN.out hb)
            have H7 := Aside0.mk (blk_new w5 (.cells #[.slice none 0 0, .slice none 0 0] 25))
            have HN7 := Aside0.mk (show w.heap.size ≤ w5.heap.size ∧ w5.heap.size ≠ gt ∧ w5.heap.size ≠ gr from ⟨HSp.out.bl.size, fun h => by have := blk_lt HSp.out.box; omega, fun h => by have := blk_lt HSp.out.res; omega⟩)
            have n2 := Aside0.mk (Kd.C_below HWC.out hb)
            generalize (w5.alloc (.cells #[.slice none 0 0, .slice none 0 0] 25)) = wa at n0 n1 H7 n2 ⊢
            generalize w5.heap.size = g7 at H7 HN7 ⊢
            clear hb
            clear HSp HLN
            have HSp := n0
            have HLN := n1
            clear n0 n1
            clear HWC
            have HWC := n2
            clear n2
            refine hK.out _ _ ⟨(blk_cell HSp.out.box 0).trans rfl, (blk_cell HSp.out.box 1).trans rfl, (blk_cell HLN.out kk).trans HLX.out⟩ (fun hHeld => ?_)
            clear hK K
            refine norm_ (a' := ?_) ?_ ?_
            rotate_left
            · show Act.put _ (some 7) _ = _
              simp only [Act.put, List.setIfInBounds_toArray, List.set_cons_zero, List.set_cons_succ, i64_w, i32_w]
              rfl
            refine one_ (i := 6) (N := some 30) #[true, true, true, true, true, true, true, false, false, false, true, false, false] rfl rfl (by kernel_rfl) (by decide) (fun K hK => ?_)
            refine goes_ Tryz.func23 (by kernel_rfl) rfl #[.agg #[(.slice A0 D.length c0), (.slice A1 B.length c1)], .slice Aw (w0 :: ws).length cw] (by rfl) rfl rfl (by simp only [List.map_toArray, List.map_cons, List.map_nil]; rfl) ?_
            with_reducible refine (spLine_at w.heap.size (.slice A0 D.length c0) (.slice A1 B.length c1) D B Aw cw w0 ws _ HSp.out.d HSp.out.b HWC.out HWc.out HSp.out.bl.size HDL.out.1 HDL.out.2 HDL2.out).mono ?_
            rintro e w6 ⟨u0, u1, rfl, hs0, hs1, ho, hb, hkp⟩
            refine ⟨_, rfl, ?_⟩
            have HO := Aside0.mk (SpL.of_line HSp.out HLN.out ((hkp.2 g7 (blk_lt H7.out) (fun hx => hx.elim (fun he => Kd.R_ne HSp.out.d H7.out (by decide) he.symm) (fun he => Kd.R_ne (Kd.S_R HSp.out.b) H7.out (by decide) he.symm))).trans H7.out) hb hkp hs0 hs1 ho HN7.out)
            clear hs0 hs1 ho hb hkp HSp HLN H7
            refine hK.out _ _ ⟨(blk_cell HO.out.box 0).trans rfl, (blk_cell HO.out.box 1).trans rfl, (blk_cell HO.out.ln kk).trans HLX.out⟩ (fun hHeld => ?_)
            clear hK K
            refine norm_ (a' := ?_) ?_ ?_
            rotate_left
            · show Act.put _ (some 30) _ = _
              simp only [Act.put, List.setIfInBounds_toArray, List.set_cons_zero, List.set_cons_succ, i64_w, i32_w]
              rfl
            refine pure_ (i := 7) (N := some 23) (v := ?_) (a' := ?_) #[true, true, true, true, true, true, true, true, false, false, true, false, false] rfl rfl (by kernel_rfl) (fun _ _ _ h => h) (Or.inl ⟨by rfl, ?_⟩) ?_ ?_
            rotate_left
            · intro w'
              go_simp
              with_reducible rfl
            rotate_left
            · simp only [Act.put, List.setIfInBounds_toArray, List.set_cons_zero, List.set_cons_succ, i64_w, i32_w]
              rfl
            refine pure_ (i := 8) (N := some 31) (v := ?_) (a' := ?_) #[true, true, true, true, true, true, true, true, true, false, true, false, false] rfl rfl (by kernel_rfl) (fun _ _ _ h => h) (Or.inl ⟨by rfl, ?_⟩) ?_ ?_
            rotate_left
            · intro w'
              go_simp
              with_reducible rfl
            rotate_left
            · simp only [Act.put, List.setIfInBounds_toArray, List.set_cons_zero, List.set_cons_succ, i64_w, i32_w]
              rfl
            refine pure_ (i := 9) (N := some 32) (v := ?_) (a' := ?_) #[true, true, true, true, true, true, true, true, true, true, true, false, false] rfl rfl (by kernel_rfl) (fun _ _ _ h => h) (Or.inl ⟨by rfl, ?_⟩) ?_ ?_
            rotate_left
            · intro w'
              go_simp
              with_reducible rfl
            rotate_left
            · simp only [Act.put, List.setIfInBounds_toArray, List.set_cons_zero, List.set_cons_succ, i64_w, i32_w]
              rfl
            exact norm_ (by simp only [putAll, Act.put, List.setIfInBounds_toArray, List.set_cons_zero, List.set_cons_succ]) (hCont (.slice Aw (w0 :: ws).length cw, u0, u1, g7) _ HO.out)
        · skip
          generalize wr.drew = wd at HSp HLN hHeld ⊢
          refine value_ (w1 := ?_) (v := ?_) (by rfl) rfl ?_ ?_
          rotate_left 2
          · go_simp
            constructor
            · rfl
            · rfl
          have hb := below_alloc (Below.refl wd.heap.size wd) (.cells #[.slice none 0 0, .slice none 0 0] 25)
          have n0 := Aside0.mk (HSp.out.below hb)
          have n1 := Aside0.mk (blk_below HLN.out hb)
          have H7 := Aside0.mk (blk_new wd (.cells #[.slice none 0 0, .slice none 0 0] 25))
          have HN7 := Aside0.mk (show w.heap.size ≤ wd.heap.size ∧ wd.heap.size ≠ gt ∧ wd.heap.size ≠ gr from ⟨HSp.out.bl.size, fun h => by have := blk_lt HSp.out.box; omega, fun h => by have := blk_lt HSp.out.res; omega⟩)
          generalize (wd.alloc (.cells #[.slice none 0 0, .slice none 0 0] 25)) = wa at n0 n1 H7 ⊢
          generalize wd.heap.size = g7 at H7 HN7 ⊢
          clear hb
          clear HSp HLN
          have HSp := n0
          have HLN := n1
          clear n0 n1
          refine hK.out _ _ ⟨(blk_cell HSp.out.box 0).trans rfl, (blk_cell HSp.out.box 1).trans rfl, (blk_cell HLN.out kk).trans HLX.out⟩ (fun hHeld => ?_)
          clear hK K
          refine norm_ (a' := ?_) ?_ ?_
          rotate_left
          · show Act.put _ (some 7) _ = _
            simp only [Act.put, List.setIfInBounds_toArray, List.set_cons_zero, List.set_cons_succ, i64_w, i32_w]
            rfl
          refine one_ (i := 5) (N := some 29) #[true, true, true, true, true, true, false, false, false, false, true, false, false] rfl rfl (by kernel_rfl) (by decide) (fun K hK => ?_)
          refine goes_ Tryz.func22 (by kernel_rfl) rfl #[.string x, .int .u8 32] (by rfl) rfl rfl (by simp only [List.map_toArray, List.map_cons, List.map_nil]; rfl) ?_
          with_reducible refine (spec_l06Cut.calls k2 x 32 (w0 :: ws) _ HK2.out).mono ?_
          rintro e w5 ⟨vW, rfl, hW, hb⟩
          refine ⟨_, rfl, ?_⟩
          have n0 := Aside0.mk (HSp.out.below hb)
          have n1 := Aside0.mk (blk_below HLN.out hb)
          have n2 := Aside0.mk (blk_below H7.out hb)
          obtain ⟨Aw, cw, eW⟩ := Kd.R_slice hW
          subst eW
          obtain ⟨-, hwc, hwC⟩ := Kd.R_reads' hW
          have HWc := Aside0.mk hwc
          have HWC := Aside0.mk hwC
          clear hW hb hwc hwC
          clear HSp HLN
          have HSp := n0
          have HLN := n1
          clear n0 n1
          clear H7
          have H7 := n2
          clear n2
          refine hK.out _ _ ⟨(blk_cell HSp.out.box 0).trans rfl, (blk_cell HSp.out.box 1).trans rfl, (blk_cell HLN.out kk).trans HLX.out⟩ (fun hHeld => ?_)
          clear hK K
          refine norm_ (a' := ?_) ?_ ?_
          rotate_left
          · show Act.put _ (some 29) _ = _
            simp only [Act.put, List.setIfInBounds_toArray, List.set_cons_zero, List.set_cons_succ, i64_w, i32_w]
            rfl
          refine one_ (i := 6) (N := some 30) #[true, true, true, true, true, true, true, false, false, false, true, false, false] rfl rfl (by kernel_rfl) (by decide) (fun K hK => ?_)
          refine goes_ Tryz.func23 (by kernel_rfl) rfl #[.agg #[(.slice A0 D.length c0), (.slice A1 B.length c1)], .slice Aw (w0 :: ws).length cw] (by rfl) rfl rfl (by simp only [List.map_toArray, List.map_cons, List.map_nil]; rfl) ?_
          with_reducible refine (spLine_at w.heap.size (.slice A0 D.length c0) (.slice A1 B.length c1) D B Aw cw w0 ws _ HSp.out.d HSp.out.b HWC.out HWc.out HSp.out.bl.size HDL.out.1 HDL.out.2 HDL2.out).mono ?_
          rintro e w6 ⟨u0, u1, rfl, hs0, hs1, ho, hb, hkp⟩
          refine ⟨_, rfl, ?_⟩
          have HO := Aside0.mk (SpL.of_line HSp.out HLN.out ((hkp.2 g7 (blk_lt H7.out) (fun hx => hx.elim (fun he => Kd.R_ne HSp.out.d H7.out (by decide) he.symm) (fun he => Kd.R_ne (Kd.S_R HSp.out.b) H7.out (by decide) he.symm))).trans H7.out) hb hkp hs0 hs1 ho HN7.out)
          clear hs0 hs1 ho hb hkp HSp HLN H7
          refine hK.out _ _ ⟨(blk_cell HO.out.box 0).trans rfl, (blk_cell HO.out.box 1).trans rfl, (blk_cell HO.out.ln kk).trans HLX.out⟩ (fun hHeld => ?_)
          clear hK K
          refine norm_ (a' := ?_) ?_ ?_
          rotate_left
          · show Act.put _ (some 30) _ = _
            simp only [Act.put, List.setIfInBounds_toArray, List.set_cons_zero, List.set_cons_succ, i64_w, i32_w]
            rfl
          refine pure_ (i := 7) (N := some 23) (v := ?_) (a' := ?_) #[true, true, true, true, true, true, true, true, false, false, true, false, false] rfl rfl (by kernel_rfl) (fun _ _ _ h => h) (Or.inl ⟨by rfl, ?_⟩) ?_ ?_
          rotate_left
          · intro w'
            go_simp
            with_reducible rfl
          rotate_left
          · simp only [Act.put, List.setIfInBounds_toArray, List.set_cons_zero, List.set_cons_succ, i64_w, i32_w]
            rfl
          refine pure_ (i := 8) (N := some 31) (v := ?_) (a' := ?_) #[true, true, true, true, true, true, true, true, true, false, true, false, false] rfl rfl (by kernel_rfl) (fun _ _ _ h => h) (Or.inl ⟨by rfl, ?_⟩) ?_ ?_
          rotate_left
          · intro w'
            go_simp
            with_reducible rfl
          rotate_left
          · simp only [Act.put, List.setIfInBounds_toArray, List.set_cons_zero, List.set_cons_succ, i64_w, i32_w]
            rfl
          refine pure_ (i := 9) (N := some 32) (v := ?_) (a' := ?_) #[true, true, true, true, true, true, true, true, true, true, true, false, false] rfl rfl (by kernel_rfl) (fun _ _ _ h => h) (Or.inl ⟨by rfl, ?_⟩) ?_ ?_
          rotate_left
          · intro w'
            go_simp
            with_reducible rfl
          rotate_left
          · simp only [Act.put, List.setIfInBounds_toArray, List.set_cons_zero, List.set_cons_succ, i64_w, i32_w]
            rfl
          exact norm_ (by simp only [putAll, Act.put, List.setIfInBounds_toArray, List.set_cons_zero, List.set_cons_succ]) (hCont (.slice Aw (w0 :: ws).length cw, u0, u1, g7) _ HO.out)
      rintro ⟨vW, u0, u1, g7⟩ w8 HF8
      have HO := Aside0.mk (show SpL w w8 gr gt gl g7 lcs (.slice A0 D.length c0) (.slice A1 B.length c1) u0 u1 D B (w0 :: ws) from HF8)
      clear HF8
      obtain ⟨Au, nu, cu, eu⟩ := HO.out.s0
      subst eu
      obtain ⟨Av, nv, cv, ev⟩ := HO.out.s1
      subst ev
      have hHeld : w8.cell? ⟨gt, 0, none⟩ = some (Value.slice A0 D.length c0) ∧ w8.cell? ⟨gt, 1, none⟩ = some (Value.slice A1 B.length c1) ∧ w8.cell? ⟨gl, kk, none⟩ = some (.string x) := ⟨(blk_cell HO.out.box 0).trans rfl, (blk_cell HO.out.box 1).trans rfl, (blk_cell HO.out.ln kk).trans HLX.out⟩
      refine norm_ (a' := ?_) ?_ ?_
      rotate_left
      · simp only [putAll, Act.put, List.setIfInBounds_toArray, List.set_cons_zero, List.set_cons_succ]
        rfl
      refine last_ (i := 11) (N := none) #[true, true, true, true, true, true, true, true, true, true, true, true, false] rfl rfl (by kernel_rfl) (by decide) (fun K hK => ?_)
      have ha0 := (blk_cell HO.out.x7 0).trans rfl
      have ha1 := (blk_cell HO.out.x7 1).trans rfl
      have hg0 := blk_frozen HO.out.x7 0
      have hg1 := blk_frozen HO.out.x7 1
      refine skip_ (w1 := ?_) (by rfl) rfl ?_ ?_
      rotate_left
      · go_simp
        rfl
      refine hK.out _ _ ?_
      clear hK K
      refine pure_ (i := 12) (N := some 8) (v := ?_) (a' := ?_) #[true, true, true, true, true, true, true, true, true, true, true, true, true] rfl rfl (by kernel_rfl) (fun _ _ _ h => h) (Or.inl ⟨by rfl, ?_⟩) ?_ ?_
      rotate_left
      · intro w'
        go_simp
        with_reducible rfl
      rotate_left
      · simp only [Act.put, List.setIfInBounds_toArray, List.set_cons_zero, List.set_cons_succ, i64_w, i32_w]
        rfl
      refine done_ (by kernel_rfl) ?_
      have HN7 := Aside0.mk HO.out.n7
      have H7 := Aside0.mk (blk_put (blk_put HO.out.x7 0 (.slice Au nu cu) rfl) 1 (.slice Av nv cv) rfl)
      have HBX := Aside0.mk (blk_far (blk_far HO.out.box (p := ⟨g7, 0, none⟩) (fun h => HN7.out.2.1 h.symm) (.slice Au nu cu)) (p := ⟨g7, 1, none⟩) (fun h => HN7.out.2.1 h.symm) (.slice Av nv cv))
      have HRX := Aside0.mk (blk_far (blk_far HO.out.res (p := ⟨g7, 0, none⟩) (fun h => HN7.out.2.2 h.symm) (.slice Au nu cu)) (p := ⟨g7, 1, none⟩) (fun h => HN7.out.2.2 h.symm) (.slice Av nv cv))
      have HLX2 := Aside0.mk (blk_far (blk_far HO.out.ln (p := ⟨g7, 0, none⟩) (blk_ne HO.out.ln HO.out.x7 (by decide)) (.slice Au nu cu)) (p := ⟨g7, 1, none⟩) (blk_ne HO.out.ln HO.out.x7 (by decide)) (.slice Av nv cv))
      have HBL := Aside0.mk ((HO.out.bl.setCell (p := ⟨g7, 0, none⟩) HN7.out.1 (.slice Au nu cu)).setCell (p := ⟨g7, 1, none⟩) HN7.out.1 (.slice Av nv cv))
      have HOO := Aside0.mk (fun D' B' h => (⟨Kd.R_set (Kd.R_set (HO.out.o D' B' h).1 HO.out.x7 (by decide) 0 _) (blk_put HO.out.x7 0 (.slice Au nu cu) rfl) (by decide) 1 (.slice Av nv cv), Kd.S_set (Kd.S_set (HO.out.o D' B' h).2 HO.out.x7 (by decide) 0 _) (blk_put HO.out.x7 0 (.slice Au nu cu) rfl) (by decide) 1 (.slice Av nv cv)⟩ : Kd.R k57 57 ((w8.setCell ⟨g7, 0, none⟩ (.slice Au nu cu)).setCell ⟨g7, 1, none⟩ (.slice Av nv cv)) w.heap.size (fun _ => True) (.slice Au nu cu) D' ∧ Kd.S kqB 49 ((w8.setCell ⟨g7, 0, none⟩ (.slice Au nu cu)).setCell ⟨g7, 1, none⟩ (.slice Av nv cv)) w.heap.size (fun _ => True) (.slice Av nv cv) B'))
      generalize ((w8.setCell ⟨g7, 0, none⟩ (.slice Au nu cu)).setCell ⟨g7, 1, none⟩ (.slice Av nv cv)) = w9 at H7 HBX HRX HLX2 HBL HOO ⊢
      clear HO
      have hc0 := (blk_cell HBX.out 0).trans rfl
      have hc1 := (blk_cell HBX.out 1).trans rfl
      have hd0 := (blk_cell H7.out 0).trans rfl
      have hd1 := (blk_cell H7.out 1).trans rfl
      have hr0 := (blk_cell HRX.out 0).trans rfl
      have hr1 := (blk_cell HRX.out 1).trans rfl
      have hf0 := blk_frozen HRX.out 0
      have hf1 := blk_frozen HRX.out 1
      have hf2 := blk_frozen HBX.out 0
      have hf3 := blk_frozen HBX.out 1
      cases hsp : spLine D B (w0 :: ws) with
      | none =>
        rw [hsp] at HST
        have HF := Aside0.mk (show spRead s = none from by rw [HR2.out, ← HE.out, HST.out]; rfl)
        simp only [Option.isSome_none]
        go_wp2_with fail
        have HR3 := blk_put (blk_put HRX.out 0 (.slice A0 D.length c0) rfl) 1 (.slice A1 B.length c1) rfl
        (try simp only [Exit.inBlock, Exit.then])
        refine bodyPost_ret (results_ct rfl _ _ gr (.agg #[.slice A0 D.length c0, .slice A1 B.length c1]) (.bool false) rfl (run_loadVar_row _ gr 25 25 _ (0, 0) _ HR3 Tryz.underlying25 rfl (by kernel_rfl)) rfl) rfl ?_
        exact ⟨_, _, by rw [HF.out]; rfl, ⟨_, _, _, rfl⟩, ⟨_, _, _, rfl⟩, (fun D' B' h => by rw [HF.out] at h; cases h), (HBL.out.setCell HG.out.2.1 _).setCell HG.out.2.1 _⟩
      | some y =>
        obtain ⟨D', B'⟩ := y
        rw [hsp] at HST
        have HE2 := Aside0.mk (show spLines D' B' (L.drop (kk + 1)) = spLines [] [] L from by rw [← HE.out, HST.out]; rfl)
        have HDB2 := Aside0.mk (show D'.length + B'.length ≤ kk + 1 by have := spLine_len hsp; have := HDB.out; omega)
        obtain ⟨hR, hSS⟩ := HOO.out D' B' hsp
        have HR9 := Aside0.mk hR
        have HS9 := Aside0.mk hSS
        clear hR hSS HOO HST HE
        simp only [Option.isSome_some]
        go_wp2_with fail
        have n0 := Aside0.mk (show SpS w ((w9.setCell ⟨gt, 0, none⟩ (.slice Au nu cu)).setCell ⟨gt, 1, none⟩ (.slice Av nv cv)) gr gt (.slice Au nu cu) (.slice Av nv cv) D' B' from
          ⟨blk_put (blk_put HBX.out 0 (.slice Au nu cu) rfl) 1 (.slice Av nv cv) rfl, blk_far (blk_far HRX.out (p := ⟨gt, 0, none⟩) HG.out.1 _) (p := ⟨gt, 1, none⟩) HG.out.1 _, Kd.R_set (Kd.R_set HR9.out HBX.out (by decide) 0 _) (blk_put HBX.out 0 (.slice Au nu cu) rfl) (by decide) 1 _, Kd.S_set (Kd.S_set HS9.out HBX.out (by decide) 0 _) (blk_put HBX.out 0 (.slice Au nu cu) rfl) (by decide) 1 _, (HBL.out.setCell HG.out.2.2 _).setCell HG.out.2.2 _⟩)
        have n1 := Aside0.mk (blk_far (blk_far HLX2.out (p := ⟨gt, 0, none⟩) (blk_ne HLX2.out HBX.out (by decide)) (.slice Au nu cu)) (p := ⟨gt, 1, none⟩) (blk_ne HLX2.out HBX.out (by decide)) (.slice Av nv cv))
        go_roundg (gk - 1)
        case measure => omega
        case rel => exact ⟨kk + 1, _, _, D', B', by omega, by omega, rfl, n0, n1, HE2, HDB2⟩
    · have hkl : kk + 1 = L.length := by omega
      have HDB2 := Aside0.mk (show spRead s = if treeOkB D B = true ∧ treeB8 D B = s then some (D, B) else none from by
        have e : L.drop kk = [L[kk]] := by
          rw [List.drop_eq_getElem_cons (show kk < L.length by omega), List.drop_eq_nil_of_le (by omega)]
        have h := HE.out
        rw [e] at h
        rw [HR2.out, ← h]
        rfl)
      have q1 : ((kk : Int) + 1 < (L.length : Int)) = False := eq_false (by omega)
      obtain ⟨-, hl0, hC0⟩ := Kd.R_reads' HSp.out.d
      obtain ⟨-, hl1, hC1⟩ := Kd.S_reads' HSp.out.b
      have HL0 := Aside0.mk hl0
      have HL1b := Aside0.mk hl1
      clear HL1
      have HL1 := HL1b
      clear HL1b
      have hdr := below_drew1 (Below.refl wr.heap.size wr)
      have HC0 := Aside0.mk (Kd.C_below hC0 hdr)
      have HC1 := Aside0.mk (Kd.C_below (kqB_C hC1) hdr)
      have n0 := Aside0.mk (HSp.out.below hdr)
      clear HSp hl0 hl1 hC0 hC1 hdr HE HR2 hkl
      have HSp := n0
      clear n0
      obtain ⟨k3, hk3⟩ := (spec_ok_ev D B).rounds
      by_cases hok : treeOkB D B = true
      · rw [hok] at hk3
        have HK3 := Aside0.mk hk3
        clear hk3
        have HTO := valid_text (valid_of D B hok)
        obtain ⟨k4, hk4⟩ := (text_ev D B HTO).rounds
        have HF0 := Aside0.mk (HDB2.out.trans (by rw [hok]))
        obtain ⟨tx, htx⟩ : ∃ tx, tx = treeB8 D B := ⟨_, rfl⟩
        rw [← htx] at hk4 HF0
        have HK4 := Aside0.mk hk4
        clear hk4 HTO htx hok HDB2
        by_cases hts : tx = s
        · have hne : (tx.toList == s.toList) = true := by rw [hts]; simp
          have HF := Aside0.mk (show spRead s = some (D, B) from by rw [HF0.out, if_pos ⟨rfl, hts⟩])
          clear hts HF0
          go_wp2_with fail
          refine start_ (n := 11) (S := fun w' => w'.cell? ⟨gt, 0, none⟩ = some (Value.slice A0 D.length c0) ∧ w'.cell? ⟨gt, 1, none⟩ = some (Value.slice A1 B.length c1)) (ds := [9]) #[false, false, false, false, false, false, false, false, false, false, false] (by kernel_rfl) rfl rfl ⟨(blk_cell HSp.out.box 0).trans rfl, (blk_cell HSp.out.box 1).trans rfl⟩ (fun hHeld => ?_)
          refine take_ (i := 0) (N := some 37) (v := ?_) (a' := ?_) #[true, false, false, false, false, false, false, false, false, false, false] rfl rfl (by kernel_rfl) (fun _ _ _ h => h) (Or.inl ⟨by rfl, ?_⟩) hHeld ?_ ?_
          rotate_left
          · rintro w' ⟨s0, s1⟩
            go_simp
            with_reducible rfl
          rotate_left
          · simp only [Act.put, List.setIfInBounds_toArray, List.set_cons_zero, List.set_cons_succ, i64_w, i32_w]
            rfl
          refine take_ (i := 1) (N := some 38) (v := ?_) (a' := ?_) #[true, true, false, false, false, false, false, false, false, false, false] rfl rfl (by kernel_rfl) (fun _ _ _ h => h) (Or.inl ⟨by rfl, ?_⟩) hHeld ?_ ?_
          rotate_left
          · rintro w' ⟨s0, s1⟩
            go_simp
            with_reducible rfl
          rotate_left
          · simp only [Act.put, List.setIfInBounds_toArray, List.set_cons_zero, List.set_cons_succ, i64_w, i32_w]
            rfl
          refine one_ (i := 2) (N := some 39) #[true, true, true, false, false, false, false, false, false, false, false] rfl rfl (by kernel_rfl) (by decide) (fun K hK => ?_)
          generalize wr.drew = wd at HSp HC0 HC1 hHeld ⊢
          refine goes_ Tryz.func24 (by kernel_rfl) rfl #[.agg #[(.slice A0 D.length c0), (.slice A1 B.length c1)]] (by rfl) rfl rfl (by simp only [List.map_toArray, List.map_cons, List.map_nil]; rfl) ?_
          with_reducible refine (spec_l06OK.calls k3 A0 c0 D A1 c1 B true _ HC0.out HL0.out HC1.out HL1.out HK3.out).mono ?_
          rintro e w5 ⟨rfl, hb⟩
          refine ⟨_, rfl, ?_⟩
          have n0 := Aside0.mk (HSp.out.below hb)
          have n1 := Aside0.mk (Kd.C_below HC0.out hb)
          have n2 := Aside0.mk (Kd.C_below HC1.out hb)
          clear HSp HC0 HC1 hb
          have HSp := n0
          have HC0 := n1
          have HC1 := n2
          clear n0 n1 n2
          refine hK.out _ _ ⟨(blk_cell HSp.out.box 0).trans rfl, (blk_cell HSp.out.box 1).trans rfl⟩ (fun hHeld => ?_)
          clear hK K
          refine norm_ (a' := ?_) ?_ ?_
          rotate_left
          · show Act.put _ (some 39) _ = _
            simp only [Act.put, List.setIfInBounds_toArray, List.set_cons_zero, List.set_cons_succ, i64_w, i32_w]
            rfl
          refine pure_ (i := 3) (N := some 40) (v := ?_) (a' := ?_) #[true, true, true, true, false, false, false, false, false, false, false] rfl rfl (by kernel_rfl) (fun _ _ _ h => h) (Or.inl ⟨by rfl, ?_⟩) ?_ ?_
          rotate_left
          · intro w'
            go_simp
            with_reducible rfl
          rotate_left
          · simp only [Act.put, List.setIfInBounds_toArray, List.set_cons_zero, List.set_cons_succ, i64_w, i32_w]
            rfl
          refine pure_ (i := 6) (N := some 43) (v := ?_) (a' := ?_) #[true, true, true, true, false, false, true, false, false, false, false] rfl rfl (by kernel_rfl) (fun _ _ _ h => h) (Or.inl ⟨by rfl, ?_⟩) ?_ ?_
          rotate_left
          · intro w'
            go_simp
            with_reducible rfl
          rotate_left
          · simp only [Act.put, List.setIfInBounds_toArray, List.set_cons_zero, List.set_cons_succ, i64_w, i32_w]
            rfl
          refine take_ (i := 4) (N := some 41) (v := ?_) (a' := ?_) #[true, true, true, true, true, false, true, false, false, false, false] rfl rfl (by kernel_rfl) (fun _ _ _ h => h) (Or.inl ⟨by rfl, ?_⟩) hHeld ?_ ?_
          rotate_left
          · rintro w' ⟨s0, s1⟩
            go_simp
            with_reducible rfl
          rotate_left
          · simp only [Act.put, List.setIfInBounds_toArray, List.set_cons_zero, List.set_cons_succ, i64_w, i32_w]
            rfl
          refine one_ (i := 5) (N := some 42) #[true, true, true, true, true, true, true, false, false, false, false] rfl rfl (by kernel_rfl) (by decide) (fun K hK => ?_)
          refine goes_ Tryz.func25 (by kernel_rfl) rfl #[.agg #[(.slice A0 D.length c0), (.slice A1 B.length c1)]] (by rfl) rfl rfl (by simp only [List.map_toArray, List.map_cons, List.map_nil]; rfl) ?_
          with_reducible refine (spec_l06Text.calls k4 A0 c0 D A1 c1 B tx _ HC0.out HL0.out HC1.out HL1.out HK4.out).mono ?_
          rintro e w6 ⟨rfl, hb⟩
          refine ⟨_, rfl, ?_⟩
          have n0 := Aside0.mk (HSp.out.below hb)
          have n1 := Aside0.mk (Kd.C_below HC0.out hb)
          have n2 := Aside0.mk (Kd.C_below HC1.out hb)
          clear HSp HC0 HC1 hb
          have HSp := n0
          have HC0 := n1
          have HC1 := n2
          clear n0 n1 n2
          refine hK.out _ _ ⟨(blk_cell HSp.out.box 0).trans rfl, (blk_cell HSp.out.box 1).trans rfl⟩ (fun hHeld => ?_)
          clear hK K
          refine norm_ (a' := ?_) ?_ ?_
          rotate_left
          · show Act.put _ (some 42) _ = _
            simp only [Act.put, List.setIfInBounds_toArray, List.set_cons_zero, List.set_cons_succ, i64_w, i32_w]
            rfl
          refine pure_ (i := 7) (N := some 44) (v := ?_) (a' := ?_) #[true, true, true, true, true, true, true, true, false, false, false] rfl rfl (by kernel_rfl) (fun _ _ _ h => h) (Or.inl ⟨by rfl, ?_⟩) ?_ ?_
          rotate_left
          · intro w'
            go_simp
            with_reducible rfl
          rotate_left
          · simp only [Act.put, List.setIfInBounds_toArray, List.set_cons_zero, List.set_cons_succ, i64_w, i32_w]
            rfl
          refine pure_ (i := 8) (N := some 45) (v := ?_) (a' := ?_) #[true, true, true, true, true, true, true, true, true, false, false] rfl rfl (by kernel_rfl) (fun _ _ _ h => h) (Or.inl ⟨by rfl, ?_⟩) ?_ ?_
          rotate_left
          · intro w'
            go_simp
            with_reducible rfl
          rotate_left
          · simp only [Act.put, List.setIfInBounds_toArray, List.set_cons_zero, List.set_cons_succ, i64_w, i32_w]
            rfl
          refine last_ (i := 9) (N := none) #[true, true, true, true, true, true, true, true, true, true, false] rfl rfl (by kernel_rfl) (by decide) (fun K hK => ?_)
          have ha0 := (blk_cell HSp.out.res 0).trans rfl
          have ha1 := (blk_cell HSp.out.res 1).trans rfl
          have hg0 := blk_frozen HSp.out.res 0
          have hg1 := blk_frozen HSp.out.res 1
          refine skip_ (w1 := ?_) (by rfl) rfl ?_ ?_
          rotate_left
          · go_simp
            rfl
          refine hK.out _ _ ?_
          clear hK K
          refine pure_ (i := 10) (N := some 3) (v := ?_) (a' := ?_) #[true, true, true, true, true, true, true, true, true, true, true] rfl rfl (by kernel_rfl) (fun _ _ _ h => h) (Or.inl ⟨by rfl, ?_⟩) ?_ ?_
          rotate_left
          · intro w'
            go_simp
            with_reducible rfl
          rotate_left
          · simp only [Act.put, List.setIfInBounds_toArray, List.set_cons_zero, List.set_cons_succ, i64_w, i32_w]
            rfl
          refine done_ (by kernel_rfl) ?_
          have HR3 := blk_put (blk_put HSp.out.res 0 (.slice A0 D.length c0) rfl) 1 (.slice A1 B.length c1) rfl
          (try simp only [Exit.inBlock, Exit.then])
          go_wp2_with fail
          refine bodyPost_ret (results_ct rfl _ _ gr (.agg #[.slice A0 D.length c0, .slice A1 B.length c1]) (.bool true) rfl (run_loadVar_row _ gr 25 25 _ (0, 0) _ HR3 Tryz.underlying25 rfl (by kernel_rfl)) rfl) rfl ?_
          refine ⟨_, _, by rw [HF.out]; rfl, ⟨_, _, _, rfl⟩, ⟨_, _, _, rfl⟩, fun D' B' h => ?_, (HSp.out.bl.setCell HG.out.2.1 _).setCell HG.out.2.1 _⟩
          rw [HF.out] at h
          injection h with h
          injection h with h1 h2
          subst h1
          subst h2
          exact ⟨Kd.R_set (Kd.R_set HSp.out.d HSp.out.res (by decide) 0 _) (blk_put HSp.out.res 0 (.slice A0 D.length c0) rfl) (by decide) 1 _, Kd.S_set (Kd.S_set HSp.out.b HSp.out.res (by decide) 0 _) (blk_put HSp.out.res 0 (.slice A0 D.length c0) rfl) (by decide) 1 _⟩
        · have hne : (tx.toList == s.toList) = false := str_ne hts
          have HF := Aside0.mk (show spRead s = none from by rw [HF0.out, if_neg (fun h => hts h.2)])
          clear hts HF0
          go_wp2_with fail
          refine start_ (n := 11) (S := fun w' => w'.cell? ⟨gt, 0, none⟩ = some (Value.slice A0 D.length c0) ∧ w'.cell? ⟨gt, 1, none⟩ = some (Value.slice A1 B.length c1)) (ds := [9]) #[false, false, false, false, false, false, false, false, false, false, false] (by kernel_rfl) rfl rfl ⟨(blk_cell HSp.out.box 0).trans rfl, (blk_cell HSp.out.box 1).trans rfl⟩ (fun hHeld => ?_)
          refine take_ (i := 0) (N := some 37) (v := ?_) (a' := ?_) #[true, false, false, false, false, false, false, false, false, false, false] rfl rfl (by kernel_rfl) (fun _ _ _ h => h) (Or.inl ⟨by rfl, ?_⟩) hHeld ?_ ?_
          rotate_left
          · rintro w' ⟨s0, s1⟩
            go_simp
            with_reducible rfl
          rotate_left
          · simp only [Act.put, List.setIfInBounds_toArray, List.set_cons_zero, List.set_cons_succ, i64_w, i32_w]
            rfl
          refine take_ (i := 1) (N := some 38) (v := ?_) (a' := ?_) #[true, true, false, false, false, false, false, false, false, false, false] rfl rfl (by kernel_rfl) (fun _ _ _ h => h) (Or.inl ⟨by rfl, ?_⟩) hHeld ?_ ?_
          rotate_left
          · rintro w' ⟨s0, s1⟩
            go_simp
            with_reducible rfl
          rotate_left
          · simp only [Act.put, List.setIfInBounds_toArray, List.set_cons_zero, List.set_cons_succ, i64_w, i32_w]
            rfl
          refine one_ (i := 2) (N := some 39) #[true, true, true, false, false, false, false, false, false, false, false] rfl rfl (by kernel_rfl) (by decide) (fun K hK => ?_)
          generalize wr.drew = wd at HSp HC0 HC1 hHeld ⊢
          refine goes_ Tryz.func24 (by kernel_rfl) rfl #[.agg #[(.slice A0 D.length c0), (.slice A1 B.length c1)]] (by rfl) rfl rfl (by simp only [List.map_toArray, List.map_cons, List.map_nil]; rfl) ?_
          with_reducible refine (spec_l06OK.calls k3 A0 c0 D A1 c1 B true _ HC0.out HL0.out HC1.out HL1.out HK3.out).mono ?_
          rintro e w5 ⟨rfl, hb⟩
          refine ⟨_, rfl, ?_⟩
          have n0 := Aside0.mk (HSp.out.below hb)
          have n1 := Aside0.mk (Kd.C_below HC0.out hb)
          have n2 := Aside0.mk (Kd.C_below HC1.out hb)
          clear HSp HC0 HC1 hb
          have HSp := n0
          have HC0 := n1
          have HC1 := n2
          clear n0 n1 n2
          refine hK.out _ _ ⟨(blk_cell HSp.out.box 0).trans rfl, (blk_cell HSp.out.box 1).trans rfl⟩ (fun hHeld => ?_)
          clear hK K
          refine norm_ (a' := ?_) ?_ ?_
          rotate_left
          · show Act.put _ (some 39) _ = _
            simp only [Act.put, List.setIfInBounds_toArray, List.set_cons_zero, List.set_cons_succ, i64_w, i32_w]
            rfl
          refine pure_ (i := 3) (N := some 40) (v := ?_) (a' := ?_) #[true, true, true, true, false, false, false, false, false, false, false] rfl rfl (by kernel_rfl) (fun _ _ _ h => h) (Or.inl ⟨by rfl, ?_⟩) ?_ ?_
          rotate_left
          · intro w'
            go_simp
            with_reducible rfl
          rotate_left
          · simp only [Act.put, List.setIfInBounds_toArray, List.set_cons_zero, List.set_cons_succ, i64_w, i32_w]
            rfl
          refine pure_ (i := 6) (N := some 43) (v := ?_) (a' := ?_) #[true, true, true, true, false, false, true, false, false, false, false] rfl rfl (by kernel_rfl) (fun _ _ _ h => h) (Or.inl ⟨by rfl, ?_⟩) ?_ ?_
          rotate_left
          · intro w'
            go_simp
            with_reducible rfl
          rotate_left
          · simp only [Act.put, List.setIfInBounds_toArray, List.set_cons_zero, List.set_cons_succ, i64_w, i32_w]
            rfl
          refine take_ (i := 4) (N := some 41) (v := ?_) (a' := ?_) #[true, true, true, true, true, false, true, false, false, false, false] rfl rfl (by kernel_rfl) (fun _ _ _ h => h) (Or.inl ⟨by rfl, ?_⟩) hHeld ?_ ?_
          rotate_left
          · rintro w' ⟨s0, s1⟩
            go_simp
            with_reducible rfl
          rotate_left
          · simp only [Act.put, List.setIfInBounds_toArray, List.set_cons_zero, List.set_cons_succ, i64_w, i32_w]
            rfl
          refine one_ (i := 5) (N := some 42) #[true, true, true, true, true, true, true, false, false, false, false] rfl rfl (by kernel_rfl) (by decide) (fun K hK => ?_)
          refine goes_ Tryz.func25 (by kernel_rfl) rfl #[.agg #[(.slice A0 D.length c0), (.slice A1 B.length c1)]] (by rfl) rfl rfl (by simp only [List.map_toArray, List.map_cons, List.map_nil]; rfl) ?_
          with_reducible refine (spec_l06Text.calls k4 A0 c0 D A1 c1 B tx _ HC0.out HL0.out HC1.out HL1.out HK4.out).mono ?_
          rintro e w6 ⟨rfl, hb⟩
          refine ⟨_, rfl, ?_⟩
          have n0 := Aside0.mk (HSp.out.below hb)
          have n1 := Aside0.mk (Kd.C_below HC0.out hb)
          have n2 := Aside0.mk (Kd.C_below HC1.out hb)
          clear HSp HC0 HC1 hb
          have HSp := n0
          have HC0 := n1
          have HC1 := n2
          clear n0 n1 n2
          refine hK.out _ _ ⟨(blk_cell HSp.out.box 0).trans rfl, (blk_cell HSp.out.box 1).trans rfl⟩ (fun hHeld => ?_)
          clear hK K
          refine norm_ (a' := ?_) ?_ ?_
          rotate_left
          · show Act.put _ (some 42) _ = _
            simp only [Act.put, List.setIfInBounds_toArray, List.set_cons_zero, List.set_cons_succ, i64_w, i32_w]
            rfl
          refine pure_ (i := 7) (N := some 44) (v := ?_) (a' := ?_) #[true, true, true, true, true, true, true, true, false, false, false] rfl rfl (by kernel_rfl) (fun _ _ _ h => h) (Or.inl ⟨by rfl, ?_⟩) ?_ ?_
          rotate_left
          · intro w'
            go_simp
            with_reducible rfl
          rotate_left
          · simp only [Act.put, List.setIfInBounds_toArray, List.set_cons_zero, List.set_cons_succ, i64_w, i32_w]
            rfl
          refine pure_ (i := 8) (N := some 45) (v := ?_) (a' := ?_) #[true, true, true, true, true, true, true, true, true, false, false] rfl rfl (by kernel_rfl) (fun _ _ _ h => h) (Or.inl ⟨by rfl, ?_⟩) ?_ ?_
          rotate_left
          · intro w'
            go_simp
            with_reducible rfl
          rotate_left
          · simp only [Act.put, List.setIfInBounds_toArray, List.set_cons_zero, List.set_cons_succ, i64_w, i32_w]
            rfl
          refine last_ (i := 9) (N := none) #[true, true, true, true, true, true, true, true, true, true, false] rfl rfl (by kernel_rfl) (by decide) (fun K hK => ?_)
          have ha0 := (blk_cell HSp.out.res 0).trans rfl
          have ha1 := (blk_cell HSp.out.res 1).trans rfl
          have hg0 := blk_frozen HSp.out.res 0
          have hg1 := blk_frozen HSp.out.res 1
          refine skip_ (w1 := ?_) (by rfl) rfl ?_ ?_
          rotate_left
          · go_simp
            rfl
          refine hK.out _ _ ?_
          clear hK K
          refine pure_ (i := 10) (N := some 3) (v := ?_) (a' := ?_) #[true, true, true, true, true, true, true, true, true, true, true] rfl rfl (by kernel_rfl) (fun _ _ _ h => h) (Or.inl ⟨by rfl, ?_⟩) ?_ ?_
          rotate_left
          · intro w'
            go_simp
            with_reducible rfl
          rotate_left
          · simp only [Act.put, List.setIfInBounds_toArray, List.set_cons_zero, List.set_cons_succ, i64_w, i32_w]
            rfl
          refine done_ (by kernel_rfl) ?_
          have HR3 := blk_put (blk_put HSp.out.res 0 (.slice A0 D.length c0) rfl) 1 (.slice A1 B.length c1) rfl
          (try simp only [Exit.inBlock, Exit.then])
          go_wp2_with fail
          refine bodyPost_ret (results_ct rfl _ _ gr (.agg #[.slice A0 D.length c0, .slice A1 B.length c1]) (.bool false) rfl (run_loadVar_row _ gr 25 25 _ (0, 0) _ HR3 Tryz.underlying25 rfl (by kernel_rfl)) rfl) rfl ?_
          exact ⟨_, _, by rw [HF.out]; rfl, ⟨_, _, _, rfl⟩, ⟨_, _, _, rfl⟩, (fun D' B' h => by rw [HF.out] at h; cases h), (HSp.out.bl.setCell HG.out.2.1 _).setCell HG.out.2.1 _⟩
      · rw [Bool.not_eq_true] at hok
        rw [hok] at hk3
        have HK3 := Aside0.mk hk3
        have HF := Aside0.mk (show spRead s = none from by rw [HDB2.out, if_neg (fun h => by rw [hok] at h; cases h.1)])
        clear hk3 hok HDB2
        go_wp2_with fail
        refine start_ (n := 11) (S := fun w' => w'.cell? ⟨gt, 0, none⟩ = some (Value.slice A0 D.length c0) ∧ w'.cell? ⟨gt, 1, none⟩ = some (Value.slice A1 B.length c1)) (ds := [9]) #[false, false, false, false, false, false, false, false, false, false, false] (by kernel_rfl) rfl rfl ⟨(blk_cell HSp.out.box 0).trans rfl, (blk_cell HSp.out.box 1).trans rfl⟩ (fun hHeld => ?_)
        refine take_ (i := 0) (N := some 37) (v := ?_) (a' := ?_) #[true, false, false, false, false, false, false, false, false, false, false] rfl rfl (by kernel_rfl) (fun _ _ _ h => h) (Or.inl ⟨by rfl, ?_⟩) hHeld ?_ ?_
        rotate_left
        · rintro w' ⟨s0, s1⟩
          go_simp
          with_reducible rfl
        rotate_left
        · simp only [Act.put, List.setIfInBounds_toArray, List.set_cons_zero, List.set_cons_succ, i64_w, i32_w]
          rfl
        refine take_ (i := 1) (N := some 38) (v := ?_) (a' := ?_) #[true, true, false, false, false, false, false, false, false, false, false] rfl rfl (by kernel_rfl) (fun _ _ _ h => h) (Or.inl ⟨by rfl, ?_⟩) hHeld ?_ ?_
        rotate_left
        · rintro w' ⟨s0, s1⟩
          go_simp
          with_reducible rfl
        rotate_left
        · simp only [Act.put, List.setIfInBounds_toArray, List.set_cons_zero, List.set_cons_succ, i64_w, i32_w]
          rfl
        refine one_ (i := 2) (N := some 39) #[true, true, true, false, false, false, false, false, false, false, false] rfl rfl (by kernel_rfl) (by decide) (fun K hK => ?_)
        generalize wr.drew = wd at HSp HC0 HC1 hHeld ⊢
        refine goes_ Tryz.func24 (by kernel_rfl) rfl #[.agg #[(.slice A0 D.length c0), (.slice A1 B.length c1)]] (by rfl) rfl rfl (by simp only [List.map_toArray, List.map_cons, List.map_nil]; rfl) ?_
        with_reducible refine (spec_l06OK.calls k3 A0 c0 D A1 c1 B false _ HC0.out HL0.out HC1.out HL1.out HK3.out).mono ?_
        rintro e w5 ⟨rfl, hb⟩
        refine ⟨_, rfl, ?_⟩
        have n0 := Aside0.mk (HSp.out.below hb)
        have n1 := Aside0.mk (Kd.C_below HC0.out hb)
        have n2 := Aside0.mk (Kd.C_below HC1.out hb)
        clear HSp HC0 HC1 hb
        have HSp := n0
        have HC0 := n1
        have HC1 := n2
        clear n0 n1 n2
        refine hK.out _ _ ⟨(blk_cell HSp.out.box 0).trans rfl, (blk_cell HSp.out.box 1).trans rfl⟩ (fun hHeld => ?_)
        clear hK K
        refine norm_ (a' := ?_) ?_ ?_
        rotate_left
        · show Act.put _ (some 39) _ = _
          simp only [Act.put, List.setIfInBounds_toArray, List.set_cons_zero, List.set_cons_succ, i64_w, i32_w]
          rfl
        refine pure_ (i := 3) (N := some 40) (v := ?_) (a' := ?_) #[true, true, true, true, false, false, false, false, false, false, false] rfl rfl (by kernel_rfl) (fun _ _ _ h => h) (Or.inl ⟨by rfl, ?_⟩) ?_ ?_
        rotate_left
        · intro w'
          go_simp
          with_reducible rfl
        rotate_left
        · simp only [Act.put, List.setIfInBounds_toArray, List.set_cons_zero, List.set_cons_succ, i64_w, i32_w]
          rfl
        refine pure_ (i := 4) (N := some 41) (v := undef) (a' := ?_) #[true, true, true, true, true, false, false, false, false, false, false] rfl rfl (by kernel_rfl) (fun _ _ _ h => h) (Or.inr ⟨by rfl, rfl⟩) ?_ ?_
        rotate_left
        · simp only [Act.put, List.setIfInBounds_toArray, List.set_cons_zero, List.set_cons_succ, i64_w, i32_w]
          rfl
        refine pure_ (i := 5) (N := some 42) (v := undef) (a' := ?_) #[true, true, true, true, true, true, false, false, false, false, false] rfl rfl (by kernel_rfl) (fun _ _ _ h => h) (Or.inr ⟨by rfl, rfl⟩) ?_ ?_
        rotate_left
        · simp only [Act.put, List.setIfInBounds_toArray, List.set_cons_zero, List.set_cons_succ, i64_w, i32_w]
          rfl
        refine pure_ (i := 6) (N := some 43) (v := undef) (a' := ?_) #[true, true, true, true, true, true, true, false, false, false, false] rfl rfl (by kernel_rfl) (fun _ _ _ h => h) (Or.inr ⟨by rfl, rfl⟩) ?_ ?_
        rotate_left
        · simp only [Act.put, List.setIfInBounds_toArray, List.set_cons_zero, List.set_cons_succ, i64_w, i32_w]
          rfl
        refine pure_ (i := 7) (N := some 44) (v := undef) (a' := ?_) #[true, true, true, true, true, true, true, true, false, false, false] rfl rfl (by kernel_rfl) (fun _ _ _ h => h) (Or.inr ⟨by rfl, rfl⟩) ?_ ?_
        rotate_left
        · simp only [Act.put, List.setIfInBounds_toArray, List.set_cons_zero, List.set_cons_succ, i64_w, i32_w]
          rfl
        refine pure_ (i := 8) (N := some 45) (v := ?_) (a' := ?_) #[true, true, true, true, true, true, true, true, true, false, false] rfl rfl (by kernel_rfl) (fun _ _ _ h => h) (Or.inl ⟨by rfl, ?_⟩) ?_ ?_
        rotate_left
        · intro w'
          go_simp
          with_reducible rfl
        rotate_left
        · simp only [Act.put, List.setIfInBounds_toArray, List.set_cons_zero, List.set_cons_succ, i64_w, i32_w]
          rfl
        refine last_ (i := 9) (N := none) #[true, true, true, true, true, true, true, true, true, true, false] rfl rfl (by kernel_rfl) (by decide) (fun K hK => ?_)
        have ha0 := (blk_cell HSp.out.res 0).trans rfl
        have ha1 := (blk_cell HSp.out.res 1).trans rfl
        have hg0 := blk_frozen HSp.out.res 0
        have hg1 := blk_frozen HSp.out.res 1
        refine skip_ (w1 := ?_) (by rfl) rfl ?_ ?_
        rotate_left
        · go_simp
          rfl
        refine hK.out _ _ ?_
        clear hK K
        refine pure_ (i := 10) (N := some 3) (v := ?_) (a' := ?_) #[true, true, true, true, true, true, true, true, true, true, true] rfl rfl (by kernel_rfl) (fun _ _ _ h => h) (Or.inl ⟨by rfl, ?_⟩) ?_ ?_
        rotate_left
        · intro w'
          go_simp
          with_reducible rfl
        rotate_left
        · simp only [Act.put, List.setIfInBounds_toArray, List.set_cons_zero, List.set_cons_succ, i64_w, i32_w]
          rfl
        refine done_ (by kernel_rfl) ?_
        have HR3 := blk_put (blk_put HSp.out.res 0 (.slice A0 D.length c0) rfl) 1 (.slice A1 B.length c1) rfl
        (try simp only [Exit.inBlock, Exit.then])
        go_wp2_with fail
        refine bodyPost_ret (results_ct rfl _ _ gr (.agg #[.slice A0 D.length c0, .slice A1 B.length c1]) (.bool false) rfl (run_loadVar_row _ gr 25 25 _ (0, 0) _ HR3 Tryz.underlying25 rfl (by kernel_rfl)) rfl) rfl ?_
        exact ⟨_, _, by rw [HF.out]; rfl, ⟨_, _, _, rfl⟩, ⟨_, _, _, rfl⟩, (fun D' B' h => by rw [HF.out] at h; cases h), (HSp.out.bl.setCell HG.out.2.1 _).setCell HG.out.2.1 _⟩

theorem own00_some (l : List Int) (h : l.length < 17592186044416) : spec_l00Own.f l = some l := by
  unfold spec_l00Own.f
  rw [Option.bind_some, if_pos (by simpa using h)]
  rfl
theorem own06_loop (D : List S57) (B : List S49) (hb : B.length ≤ 1000) (hi : ∀ x ∈ B, x.f2.length ≤ 1000) : ∀ (d i : Nat), i + d = B.length → Ev (fun k => spec_l06Own.l0 k i D B D (B.take i)) (D, B)
  | 0, i, h => by
    refine ev_end (fun k => ?_)
    simp only [spec_l06Own.l0]
    rw [if_neg (by omega), List.take_of_length_le (by omega)]
  | d + 1, i, h => by
    have hil : i < B.length := by omega
    have er : rd_T49 B (i : Int) = B[i] := by
      unfold rd_T49
      rw [Int.toNat_natCast, List.getD_eq_getElem?_getD, List.getElem?_eq_getElem hil]
      rfl
    have hf := hi B[i] (List.getElem_mem hil)
    have ih := own06_loop D B hb hi d (i + 1) (by omega)
    rw [List.take_succ_eq_append_getElem hil] at ih
    refine Ev.step (fun k => ?_) ih
    simp only [spec_l06Own.l0]
    rw [if_pos (by omega), if_pos (by omega), er, own00_some _ (by omega), Option.bind_some, if_pos (by rw [List.length_take]; omega), show wrap64 ((i : Int) + 1) = ((i + 1 : Nat) : Int) from by unfold wrap64; omega]
theorem own06_ev {D : List S57} {B : List S49} (V : Valid D B) : Ev (fun k => spec_l06Own.f k D B) (D, B) := by
  refine Ev.congr (f := fun k => spec_l06Own.l0 k 0 D B D []) (fun k => ?_) (own06_loop D B (by have := V.bkt; omega) (fun x hx => by
    obtain ⟨i, h, rfl⟩ := List.getElem_of_mem hx
    have := (V.bkts i h).2.2
    omega) B.length 0 (by omega))
  unfold spec_l06Own.f
  rw [Option.bind_some, if_pos (by have := V.dev; simp; omega)]
  rfl
theorem spRead_valid {s : ByteArray} {D : List S57} {B : List S49} (h : spRead s = some (D, B)) : treeOkB D B = true ∧ treeB8 D B = s := by
  unfold spRead at h
  split at h
  · cases h
  · obtain ⟨p, hp, h⟩ := Option.bind_eq_some_iff.1 h
    split at h
    · rename_i c
      injection h with h
      subst h
      exact c
    · cases h
/-- what the reference's ReadTree hands back -/
def RtOut (s : ByteArray) (e : Ending) (w w' : World) : Prop :=
  (∃ D B u0 u1, spRead s = some (D, B) ∧ e = .returned (.tuple #[.agg #[u0, u1], .int .i64 0]) ∧ Kd.R k57 57 w' w.heap.size (fun _ => True) u0 D ∧ Kd.S k49 49 w' w.heap.size (fun _ => True) u1 B ∧ Below w.heap.size w w') ∨
  (spRead s = none ∧ e = .returned (.tuple #[.agg #[.slice none 0 0, .slice none 0 0], .int .i64 7]) ∧ Below w.heap.size w w')
set_option maxHeartbeats 8000000 in
set_option maxRecDepth 100000 in
theorem specRT_at (s : ByteArray) (w : World) (hs : s.size ≤ 1048576) :
    Calls Tryz.prog 4 #[.string s] w fun e w' => RtOut s e w w' := by
  go_enter Tryz.func4, Tryz.ntmps4
  go_wp2_with fail
  have BR := Aside0.mk (blk_new w (.cells #[.slice none 0 0, .slice none 0 0] 25))
  have HB := Aside0.mk (below_alloc (Below.refl w.heap.size w) (.cells #[.slice none 0 0, .slice none 0 0] 25))
  generalize (w.alloc (.cells #[.slice none 0 0, .slice none 0 0] 25)) = w1 at BR HB ⊢
  obtain ⟨gr, er⟩ : ∃ g, g = w.heap.size := ⟨_, rfl⟩
  have HG := Aside0.mk (show w.heap.size ≤ gr by omega)
  rw [← er] at BR ⊢
  clear er
  refine (spRead_at s w1 hs).mono ?_
  rintro e w2 ⟨u0, u1, rfl, ⟨A0, n0, c0, rfl⟩, ⟨A1, n1, c1, rfl⟩, ho, hb⟩
  replace BR := Aside0.mk (blk_below BR.out hb)
  have HO := Aside0.mk (fun D B h => (⟨Kd.R_lower (ho D B h).1 HB.out.size, Kd.S_lower (ho D B h).2 HB.out.size⟩ : Kd.R k57 57 w2 w.heap.size (fun _ => True) (.slice A0 n0 c0) D ∧ Kd.S kqB 49 w2 w.heap.size (fun _ => True) (.slice A1 n1 c1) B))
  replace HB := Aside0.mk (below_step HB.out hb)
  clear ho hb hs
  cases hsp : spRead s with
  | none =>
    have HF := Aside0.mk hsp
    clear hsp HO
    simp only [Option.isSome_none]
    have hb2 := below_alloc (Below.refl w2.heap.size w2) (.cells #[.slice A0 n0 c0, .slice A1 n1 c1] 25)
    have BR2 := Aside0.mk (blk_below BR.out hb2)
    have HB2 := Aside0.mk (below_step HB.out hb2)
    clear hb2
    have hr0 := (blk_cell BR2.out 0).trans rfl
    have hr1 := (blk_cell BR2.out 1).trans rfl
    have hf0 := blk_frozen BR2.out 0
    have hf1 := blk_frozen BR2.out 1
    go_wp2_with fail
    have HR3 := blk_put (blk_put BR2.out 0 (.slice none 0 0) rfl) 1 (.slice none 0 0) rfl
    (try simp only [Exit.inBlock, Exit.then])
    refine bodyPost_ret (results_ct rfl _ _ gr (.agg #[.slice none 0 0, .slice none 0 0]) (.int .i64 7) rfl (run_loadVar_row _ gr 25 25 _ (0, 0) _ HR3 Tryz.underlying25 rfl (by kernel_rfl)) rfl) rfl ?_
    exact .inr ⟨HF.out, rfl, (HB2.out.setCell (p := ⟨gr, 0, none⟩) HG.out _).setCell (p := ⟨gr, 1, none⟩) HG.out _⟩
  | some y =>
    obtain ⟨D, B⟩ := y
    obtain ⟨hR, hS⟩ := HO.out D B hsp
    obtain ⟨hok, -⟩ := spRead_valid hsp
    have HF := Aside0.mk hsp
    obtain ⟨hn0, hl0, hC0⟩ := Kd.R_reads' hR
    obtain ⟨hn1, hl1, hC1⟩ := Kd.S_reads' hS
    subst hn0 hn1
    obtain ⟨k, hk⟩ := (own06_ev (valid_of D B hok)).rounds
    have HK := Aside0.mk hk
    have hb2 := below_alloc (Below.refl w2.heap.size w2) (.cells #[.slice A0 D.length c0, .slice A1 B.length c1] 25)
    have BR2 := Aside0.mk (blk_below BR.out hb2)
    have HB2 := Aside0.mk (below_step HB.out hb2)
    have BX := Aside0.mk (blk_new w2 (.cells #[.slice A0 D.length c0, .slice A1 B.length c1] 25))
    have HC0 := Aside0.mk (Kd.C_below hC0 hb2)
    have HC1 := Aside0.mk (Kd.C_below (kqB_C hC1) hb2)
    have HL0 := Aside0.mk hl0
    have HL1 := Aside0.mk hl1
    clear hb2 hsp HO hR hS hok hC0 hC1 hl0 hl1 hk BR HB
    simp only [Option.isSome_some]
    have hx0 := (blk_cell BX.out 0).trans rfl
    have hx1 := (blk_cell BX.out 1).trans rfl
    go_wp2_with fail
    generalize (w2.alloc (.cells #[.slice A0 D.length c0, .slice A1 B.length c1] 25)) = w3 at BR2 HB2 BX HC0 HC1 hx0 hx1 ⊢
    clear hx0 hx1
    refine (spec_l06Own.calls k A0 c0 D A1 c1 B D B w3 HC0.out HL0.out HC1.out HL1.out HK.out).mono ?_
    rintro e w4 ⟨v0, v1, rfl, h0, h1, hb⟩
    have BR3 := Aside0.mk (blk_below BR2.out hb)
    have HR := Aside0.mk (Kd.R_lower h0 HB2.out.size)
    have HS := Aside0.mk (Kd.S_lower h1 HB2.out.size)
    have HB3 := Aside0.mk (below_step HB2.out hb)
    clear h0 h1 hb BR2 HB2 BX HC0 HC1
    obtain ⟨X0, x0, e0⟩ := Kd.R_slice HR.out
    obtain ⟨X1, x1, e1⟩ := Kd.S_slice HS.out
    subst e0 e1
    have hr0 := (blk_cell BR3.out 0).trans rfl
    have hr1 := (blk_cell BR3.out 1).trans rfl
    have hf0 := blk_frozen BR3.out 0
    have hf1 := blk_frozen BR3.out 1
    go_wp2_with fail
    have HR3 := blk_put (blk_put BR3.out 0 (.slice X0 D.length x0) rfl) 1 (.slice X1 B.length x1) rfl
    (try simp only [Exit.inBlock, Exit.then])
    refine bodyPost_ret (results_ct rfl _ _ gr (.agg #[.slice X0 D.length x0, .slice X1 B.length x1]) (.int .i64 0) rfl (run_loadVar_row _ gr 25 25 _ (0, 0) _ HR3 Tryz.underlying25 rfl (by kernel_rfl)) rfl) rfl ?_
    exact .inl ⟨D, B, _, _, HF.out, rfl, Kd.R_set (Kd.R_set HR.out BR3.out (by decide) 0 _) (blk_put BR3.out 0 (.slice X0 D.length x0) rfl) (by decide) 1 _, Kd.S_set (Kd.S_set HS.out BR3.out (by decide) 0 _) (blk_put BR3.out 0 (.slice X0 D.length x0) rfl) (by decide) 1 _, (HB3.out.setCell (p := ⟨gr, 0, none⟩) HG.out _).setCell (p := ⟨gr, 1, none⟩) HG.out _⟩

def N99 (n : Int) : Prop := -99 ≤ n ∧ n ≤ 99
theorem spN_dec : ∀ l : List Int, (∀ x ∈ l, N99 x) → spN (l.map decB) = some l
  | [], _ => rfl
  | x :: l, h => by
    rw [List.map_cons, spN, dgS_dec x (h x (by simp)), if_pos rfl, spN_dec l (fun y hy => h y (by simp [hy]))]
    rfl
theorem spLine_node (D : List S57) (B : List S49) (x : S57) (h : N99 x.f0 ∧ N99 x.f1) : spLine D B (cutB 32 (lineB ⟨#[110, 111, 100, 101]⟩ [x.f0, x.f1])) = some (D ++ [x], B) := by
  rw [cutB_line _ _ (free_node 32 (.inr rfl))]
  show (spN ([x.f0, x.f1].map decB)).bind _ = _
  rw [spN_dec _ (fun y hy => by
    simp at hy
    rcases hy with rfl | rfl
    · exact h.1
    · exact h.2)]
  rfl
theorem spLine_bkt (D : List S57) (B : List S49) (x : S49) (h : N99 x.f0 ∧ (1 ≤ x.f1 ∧ x.f1 ≤ 3) ∧ ∀ y ∈ x.f2, N99 y) : spLine D B (cutB 32 (lineB (kwB x.f1) (x.f0 :: x.f2))) = some (D, B ++ [x]) := by
  rw [cutB_line _ _ (free_kw x.f1 32 (.inr rfl))]
  show (spN ((x.f0 :: x.f2).map decB)).bind _ = _
  rw [spN_dec _ (fun y hy => by
    rcases List.mem_cons.1 hy with e | e
    · rw [e]; exact h.1
    · exact h.2.2 y e)]
  show addX D B (kwB x.f1) (x.f0 :: x.f2) = _
  unfold addX
  simp only [kdW_kwB x.f1 h.2.1.1 h.2.1.2]
  rw [if_neg (by have := h.2.1; omega), if_neg (by have := h.2.1; omega)]
theorem spLines_cons (D : List S57) (B : List S49) (x : ByteArray) (T : List ByteArray) (h : T ≠ []) : spLines D B (x :: T) = (spLine D B (cutB 32 x)).bind fun p => spLines p.1 p.2 T := by
  cases T with
  | nil => exact absurd rfl h
  | cons y r => rfl
def nodeW (x : S57) : ByteArray := lineB ⟨#[110, 111, 100, 101]⟩ [x.f0, x.f1]
def bktW (x : S49) : ByteArray := lineB (kwB x.f1) (x.f0 :: x.f2)
theorem cut_nodes : ∀ (l : List S57) (rest : ByteArray), cutB 10 (toB (nodesT l) ++ rest) = l.map nodeW ++ cutB 10 rest
  | [], rest => by
    have e : toB (nodesT ([] : List S57)) ++ rest = rest := ByteArray.empty_append
    rw [e]
    rfl
  | x :: l, rest => by
    have en : nodeLine x = nodeW x ++ (⟨#[10]⟩ : ByteArray) := rfl
    have hf : Free 10 (nodeW x) := free_line [x.f0, x.f1] ⟨#[110, 111, 100, 101]⟩ (free_node 10 (.inl rfl))
    rw [nodes_cons, en, app_assoc, app_assoc, cutB_cons _ hf, cut_nodes l rest]
    rfl
theorem cut_bkts : ∀ (l : List S49) (rest : ByteArray), cutB 10 (toB (bktsT l) ++ rest) = l.map bktW ++ cutB 10 rest
  | [], rest => by
    have e : toB (bktsT ([] : List S49)) ++ rest = rest := ByteArray.empty_append
    rw [e]
    rfl
  | x :: l, rest => by
    have en : bktLine x = bktW x ++ (⟨#[10]⟩ : ByteArray) := rfl
    have hf : Free 10 (bktW x) := free_line (x.f0 :: x.f2) (kwB x.f1) (free_kw x.f1 10 (.inl rfl))
    rw [bkts_cons, en, app_assoc, app_assoc, cutB_cons _ hf, cut_bkts l rest]
    rfl
theorem cut_tree (D : List S57) (B : List S49) : cutB 10 (treeB8 D B) = D.map nodeW ++ (B.map bktW ++ [ByteArray.empty]) := by
  have e : treeB8 D B = toB (nodesT D) ++ (toB (bktsT B) ++ ByteArray.empty) := by rw [treeB8_eq, app_empty]
  rw [e, cut_nodes, cut_bkts, cutB_one (show Free 10 ByteArray.empty from fun b hb => by simp at hb)]
theorem lines_nodes : ∀ (l : List S57) (D : List S57) (B : List S49) (T : List ByteArray), T ≠ [] → (∀ x ∈ l, N99 x.f0 ∧ N99 x.f1) → spLines D B (l.map nodeW ++ T) = spLines (D ++ l) B T
  | [], D, B, T, hT, h => by simp
  | x :: l, D, B, T, hT, h => by
    rw [List.map_cons, List.cons_append, spLines_cons _ _ _ _ (by simp [hT]), nodeW, spLine_node D B x (h x (by simp)), Option.bind_some, lines_nodes l _ _ T hT (fun y hy => h y (by simp [hy]))]
    simp
theorem lines_bkts : ∀ (l : List S49) (D : List S57) (B : List S49) (T : List ByteArray), T ≠ [] → (∀ x ∈ l, N99 x.f0 ∧ (1 ≤ x.f1 ∧ x.f1 ≤ 3) ∧ ∀ y ∈ x.f2, N99 y) → spLines D B (l.map bktW ++ T) = spLines D (B ++ l) T
  | [], D, B, T, hT, h => by simp
  | x :: l, D, B, T, hT, h => by
    rw [List.map_cons, List.cons_append, spLines_cons _ _ _ _ (by simp [hT]), bktW, spLine_bkt D B x (h x (by simp)), Option.bind_some, lines_bkts l _ _ T hT (fun y hy => h y (by simp [hy]))]
    simp
theorem valid_99 {D : List S57} {B : List S49} (V : Valid D B) : (∀ x ∈ D, N99 x.f0 ∧ N99 x.f1) ∧ ∀ x ∈ B, N99 x.f0 ∧ (1 ≤ x.f1 ∧ x.f1 ≤ 3) ∧ ∀ y ∈ x.f2, N99 y := by
  refine ⟨fun x hx => ?_, fun x hx => ?_⟩
  · obtain ⟨i, hi, rfl⟩ := List.mem_iff_getElem.1 hx
    have := V.devs i hi
    unfold N99
    omega
  · obtain ⟨i, hi, rfl⟩ := List.mem_iff_getElem.1 hx
    have hb := V.bkts i hi
    refine ⟨by unfold N99; omega, hb.2.1, fun y hy => ?_⟩
    have hk := (item_kind V i hi y hy).1
    by_cases c : 1 ≤ kindAt D B y
    · obtain ⟨n, hn, -, e, -⟩ := kindAt_bucket V y c
      have := V.bkts n hn
      unfold N99
      omega
    · have e0 : kindAt D B y = if 0 ≤ devAt D y then 0 else if bucketAt B y < 0 then -1 else (rd_T49 B (bucketAt B y)).f1 := rfl
      rcases devAt_hit D y with e | ⟨n, hn, -, e⟩
      · rw [e0, e, if_neg (by omega)] at hk c
        rcases bucketAt_hit B y with e2 | ⟨n, hn, e2, e3⟩
        · rw [e2, if_pos (by omega)] at hk; omega
        · have := V.bkts n hn
          unfold N99
          omega
      · have := V.devs n hn
        unfold N99
        omega
/-- a valid topology's own text is read by the reference -/
theorem spRead_own {D : List S57} {B : List S49} (ho : treeOkB D B = true) : spRead (treeB8 D B) = some (D, B) := by
  have V := valid_of D B ho
  obtain ⟨h1, h2⟩ := valid_99 V
  unfold spRead
  rw [cut_tree, if_neg (by have := V.dev; have := V.bkt; simp; omega), lines_nodes D [] [] _ (by simp) h1, lines_bkts B _ _ _ (by simp) h2]
  show (some ([] ++ D, [] ++ B)).bind _ = _
  rw [List.nil_append, List.nil_append, Option.bind_some, if_pos ⟨ho, rfl⟩]
/-- where the reference reads nothing, the program reads nothing -/
theorem read_none {s : ByteArray} (h : spRead s = none) {e : Ending} {w w' : World} (hr : ReadOut s treeOkB e w w') : e = .returned (.tuple #[.agg #[.slice none 0 0, .slice none 0 0], .int .i64 7]) ∧ Below w.heap.size w w' := by
  obtain ⟨u0, u1, c, rfl, hb, hr⟩ := hr
  rcases hr with ⟨D, B, h1, h2, h3, -⟩ | ⟨rfl, rfl, rfl, -⟩
  · rw [← h3, spRead_own h2] at h
    cases h
  · exact ⟨rfl, hb⟩
/-- what the reference reads, the program reads -/
theorem read_some {s : ByteArray} {D : List S57} {B : List S49} (h : spRead s = some (D, B)) {e : Ending} {w w' : World} (hr : ReadOut s treeOkB e w w') :
    ∃ u0 u1, e = .returned (.tuple #[.agg #[u0, u1], .int .i64 0]) ∧ Below w.heap.size w w' ∧ Kd.R k57 57 w' w.heap.size (fun _ => True) u0 D ∧ Kd.S kqB 49 w' w.heap.size (fun _ => True) u1 B := by
  obtain ⟨ho, rfl⟩ := spRead_valid h
  exact read_own ho hr

end Go.Proofs.YtohjpgcmhihdhaaGreatDoor.Pure

namespace Go.Proofs.YtohjpgcmhihdhaaGreatDoor.Q
open Go.RowKit Go.Proofs.YtohjpgcmhihdhaaGreatDoorW.PrintWords Go.Proofs.YtohjpgcmhihdhaaGreatDoorW.PrintLast Go.Proofs.YtohjpgcmhihdhaaGreatDoorW.PrintMore
attribute [local go_sem] max2_int min2_int max_two min_two max_three min_three max_four min_four   -- for this text's walks alone
set_option linter.unusedVariables false
set_option linter.unusedSimpArgs false
/-! ### laws_markInt64S: function 41 -/
def laws_markInt64S.l0 : Nat → List Int → Int → Int → Option (Int × List Int)
  | 0, _, _, _ => none
  | k + 1, x0, x1, x5 => if x5 < (x0.length : Int) then (if 0 ≤ x5 then (laws_markInt64S.l0 k (x0.set (x5 : Int).toNat x1) (wrap64 (x1 + 1)) (wrap64 (x5 + 1))) else (none)) else (some (x1, x0))
def laws_markInt64S.f (k : Nat) (l0 : List Int) (a1 : Int) : Option (Int × List Int) := laws_markInt64S.l0 k l0 a1 0
set_option maxHeartbeats 8000000 in
set_option maxRecDepth 100000 in
theorem laws_markInt64S.calls (k : Nat) (P0_ : Nat → Prop) (u9000_ : Value) (l0 : List Int) (a1 : Int) (r1 : Int) (r2 : List Int) (w0 w : World) (hB : Below w0.heap.size w0 w) (ho0 : Kd.R (Kd.int .i64) 2 w w0.heap.size P0_ u9000_ l0) (h : laws_markInt64S.f k l0 a1 = some (r1, r2)) :
    Calls Tryz.prog 41 #[u9000_, .int .i64 a1] w fun e w' => e = .returned (.int .i64 r1) ∧ Kd.R (Kd.int .i64) 2 w' w0.heap.size (fun k_ => (P0_ k_ ∨ w.heap.size ≤ k_)) u9000_ r2 ∧ Below w0.heap.size w0 w' ∧ Kept w w' (fun k_ => P0_ k_) := by
  have HO0 := Aside0.mk (show Kd.R (Kd.int .i64) 2 w w0.heap.size (fun k_ => (P0_ k_ ∨ w.heap.size ≤ k_)) u9000_ l0 from Kd.R_mono ho0 (fun k_ hk => (.inl hk)))
  have HK := Aside0.mk (Kept.refl w (fun k_ => P0_ k_))
  have HW0 := Aside0.mk hB.size
  have HB := Aside0.mk hB
  clear hB
  have H : (laws_markInt64S.l0 k l0 a1 0) = some (r1, r2) := h
  clear h
  have H' := Aside0.mk H
  clear H
  go_enter Tryz.func41, Tryz.ntmps41
  go_wp2
  go_loopg [1, 5] k (fun kq v1 v5 w' => ∃ (x0_1 : List Int) (x1_1 : Int) (x5_1 : Int), v1 = .int .i64 x1_1 ∧ v5 = .int .i64 x5_1 ∧ Aside0 (laws_markInt64S.l0 kq x0_1 x1_1 x5_1 = some (r1, r2)) ∧ Aside0 (kq ≤ k) ∧ Aside0 (Kd.R (Kd.int .i64) 2 w' w0.heap.size (fun k_ => (P0_ k_ ∨ w.heap.size ≤ k_)) u9000_ x0_1) ∧ Aside0 (Kept w w' (fun k_ => P0_ k_)) ∧ Aside0 (Below w0.heap.size w0 w'))
  case atStart => exact ⟨(l0), (a1), (0), (by first | rfl | (simp; done) | (simp [*]; done)), (by first | rfl | (simp; done) | (simp [*]; done)), H', ⟨Nat.le_refl _⟩, ⟨by (with_reducible repeat (first | apply Kd.R_alloc | apply Kd.R_drewN | apply Kd.R_drew)); exact HO0.out⟩, ⟨by repeat (first | (with_reducible first | exact HK.out | apply Kept.alloc | apply Kept.drewN | apply Kept.drew) | exact HK.out)⟩, ⟨by repeat first | exact HB.out | apply pw_below_drewN⟩⟩
  case round =>
    clear H'
    try clear p2
    obtain ⟨x0_1, x1_1, x5_1, rfl, rfl, HA, HK1, HO_0, HK, HB⟩ := hrel
    cases gk with
    | zero => exact absurd HA.out (by simp [laws_markInt64S.l0])
    | succ k1 =>
      have H := HA.out
      clear HA
      simp only [laws_markInt64S.l0] at H
      by_cases c3 : x5_1 < (x0_1.length : Int)
      · rw [if_pos c3] at H
        have c3b0 : decide (x5_1 < (x0_1.length : Int)) = true := decide_eq_true c3
        clear c3
        by_cases c4 : 0 ≤ x5_1
        · rw [if_pos c4] at H
          have c4b0 : decide (0 ≤ x5_1) = true := decide_eq_true c4
          clear c4
          obtain ⟨y311, hy311⟩ : ∃ y_ : List Int, y_ = (x0_1.set (x5_1 : Int).toNat x1_1) := ⟨_, rfl⟩
          replace H : (laws_markInt64S.l0 k1 y311 (wrap64 (x1_1 + 1)) (wrap64 (x5_1 + 1))) = some (r1, r2) := by first | (rw [hy311]; with_reducible exact H) | (have H2_ := (Option.bind_some _ _).symm.trans H; rw [hy311]; with_reducible exact H2_) | (have H2_ := (Option.bind_some _ _).symm.trans H; with_reducible exact H2_) | with_reducible exact H | (rw [hy311]; exact H) | exact H
          have Ny311 := Aside0.mk hy311
          clear hy311
          have H' := Aside0.mk H
          clear H
          obtain ⟨Ao6, co6, eo6⟩ := Kd.R_slice HO_0.out
          subst eo6
          have p5 : 0 ≤ (x5_1 : Int) := of_decide_eq_true (by assumption)
          have q5 : (x5_1 : Int) < ((x0_1.length : Int) : Int) := of_decide_eq_true (by assumption)
          obtain ⟨go5, co5, eo5, gb5, gl5, cl5, HG5⟩ := Kd.R_form HO_0.out (by omega)
          (first | cases eo5 | (injection eo5 with ea_ en_ ec_; (first | subst ea_ | (injection ea_ with ea_; subst ea_)); subst ec_; clear en_))
          have GB5 := Aside0.mk gb5
          have GG5 := Aside0.mk HG5
          clear gb5 gl5 HG5
          have HMgo5 := Aside0.mk (show (P0_ go5 ∨ w.heap.size ≤ go5) from (HO_0.out.1 _ rfl))
          obtain ⟨hx5_0, hf5_0⟩ := Kd.R_celln 0 HO_0.out (x5_1 : Int) p5 q5
          replace p5 := eq_true p5
          replace q5 := eq_true q5
          have HP7 := Kd.R_putg HO_0.out (x5_1 : Int) x1_1
          go_wp2_with (first | ((with_reducible refine gate_store (t := 2) (p := 15) rfl ?_); refine store_event (t := 2) (p := 15) (v := ?vo_w8) (w1 := (wr.setCell ⟨go5, (x5_1 : Int).toNat, none⟩ (.int .i64 x1_1))) ?hg ?ho ?hn ?hr ?_; (case ho => rfl); (case hg => rfl); (case hn => rfl); (case hr => first | (go_simp; done) | (go_simp; rfl)); intro w8 hw; have hg : wr.grownBy w8 (some go5) := (by rw [hw]; exact HP7.2); have hp_ : Kd.R (Kd.int .i64) 2 w8 w0.heap.size (fun k_ => (P0_ k_ ∨ w.heap.size ≤ k_)) (.slice (some ⟨go5, 0, none⟩) x0_1.length co6) y311 := (by rw [hw, Ny311.out]; exact HP7.1); clear HP7; have n0_ := Aside0.mk (hp_); have n1_ := Aside0.mk ((by rw [hw]; exact below_set (HB.out) GB5.out : Below w0.heap.size w0 w8)); have n2_ := Aside0.mk (Kept.of_grown (S := (fun k_ => P0_ k_)) hg (by repeat (first | (with_reducible first | exact HK.out | apply Kept.alloc | apply Kept.drewN | apply Kept.drew) | exact HK.out)) (fun k_ e_ => (HO_0.out.1 k_ e_))); clear HO_0; clear HB; clear HK; have HO_0 := n0_; have HB := n1_; have HK := n2_; clear n0_ n1_ n2_; clear hg hw hp_))
          go_roundg k1
          case measure => have := HK1.out; omega
          case rel => exact ⟨(y311), (wrap64 (x1_1 + 1)), (wrap64 (x5_1 + 1)), (by first | rfl | (simp; done) | (simp [*]; done)), (by first | rfl | (simp; done) | (simp [*]; done)), H', ⟨by have := HK1.out; omega⟩, ⟨by (with_reducible repeat (first | apply Kd.R_alloc | apply Kd.R_drewN | apply Kd.R_drew)); exact HO_0.out⟩, ⟨by repeat (first | (with_reducible first | exact HK.out | apply Kept.alloc | apply Kept.drewN | apply Kept.drew) | exact HK.out)⟩, ⟨by repeat first | exact HB.out | apply pw_below_drewN⟩⟩
        · rw [if_neg c4] at H
          exact absurd H (by simp)
      · rw [if_neg c3] at H
        have c3b0 : decide (x5_1 < (x0_1.length : Int)) = false := decide_eq_false c3
        clear c3
        simp only [Option.some.injEq, Prod.mk.injEq] at H
        obtain ⟨rfl, rfl⟩ := H
        obtain ⟨Ao9, co9, eo9⟩ := Kd.R_slice HO_0.out
        subst eo9
        go_wp2
        go_ret
        exact ⟨by first | rfl | (simp [*, errW_none, errW_some] <;> rfl), by (with_reducible repeat (first | apply Kd.R_alloc | apply Kd.R_drewN | apply Kd.R_drew)); exact HO_0.out, by repeat first | exact HB.out | apply pw_below_drewN, by repeat (first | (with_reducible first | exact HK.out | apply Kept.alloc | apply Kept.drewN | apply Kept.drew) | exact HK.out)⟩

/-! ### laws_markDeviceS: function 18 -/
def laws_markDeviceS.l0 : Nat → List (S57) → Int → Int → Option (Int × (List (S57)))
  | 0, _, _, _ => none
  | k + 1, x0, x1, x5 => if x5 < (x0.length : Int) then (if 0 ≤ x5 then ((some (x0.set (x5 : Int).toNat (⟨x1, (rd_T57 x0 x5).f1⟩ : S57) : List (S57))).bind fun y309 => (laws_markDeviceS.l0 k (y309.set (x5 : Int).toNat (⟨(rd_T57 y309 x5).f0, wrap64 (x1 + 1)⟩ : S57)) (wrap64 ((wrap64 (x1 + 1)) + 1)) (wrap64 (x5 + 1)))) else (none)) else (some (x1, x0))
def laws_markDeviceS.f (k : Nat) (l0 : List (S57)) (a1 : Int) : Option (Int × (List (S57))) := laws_markDeviceS.l0 k l0 a1 0
set_option maxHeartbeats 8000000 in
set_option maxRecDepth 100000 in
theorem laws_markDeviceS.calls (k : Nat) (P0_ : Nat → Prop) (u9000_ : Value) (l0 : List (S57)) (a1 : Int) (r1 : Int) (r2 : List (S57)) (w0 w : World) (hB : Below w0.heap.size w0 w) (ho0 : Kd.R k57 57 w w0.heap.size P0_ u9000_ l0) (h : laws_markDeviceS.f k l0 a1 = some (r1, r2)) :
    Calls Tryz.prog 18 #[u9000_, .int .i64 a1] w fun e w' => e = .returned (.int .i64 r1) ∧ Kd.R k57 57 w' w0.heap.size (fun k_ => (P0_ k_ ∨ w.heap.size ≤ k_)) u9000_ r2 ∧ Below w0.heap.size w0 w' ∧ Kept w w' (fun k_ => P0_ k_) := by
  have HO0 := Aside0.mk (show Kd.R k57 57 w w0.heap.size (fun k_ => (P0_ k_ ∨ w.heap.size ≤ k_)) u9000_ l0 from Kd.R_mono ho0 (fun k_ hk => (.inl hk)))
  have HK := Aside0.mk (Kept.refl w (fun k_ => P0_ k_))
  have HW0 := Aside0.mk hB.size
  have HB := Aside0.mk hB
  clear hB
  have H : (laws_markDeviceS.l0 k l0 a1 0) = some (r1, r2) := h
  clear h
  have H' := Aside0.mk H
  clear H
  go_enter Tryz.func18, Tryz.ntmps18
  go_wp2
  go_loopg [1, 5] k (fun kq v1 v5 w' => ∃ (x0_1 : List (S57)) (x1_1 : Int) (x5_1 : Int), v1 = .int .i64 x1_1 ∧ v5 = .int .i64 x5_1 ∧ Aside0 (laws_markDeviceS.l0 kq x0_1 x1_1 x5_1 = some (r1, r2)) ∧ Aside0 (kq ≤ k) ∧ Aside0 (Kd.R k57 57 w' w0.heap.size (fun k_ => (P0_ k_ ∨ w.heap.size ≤ k_)) u9000_ x0_1) ∧ Aside0 (Kept w w' (fun k_ => P0_ k_)) ∧ Aside0 (Below w0.heap.size w0 w'))
  case atStart => exact ⟨(l0), (a1), (0), (by first | rfl | (simp; done) | (simp [*]; done)), (by first | rfl | (simp; done) | (simp [*]; done)), H', ⟨Nat.le_refl _⟩, ⟨by (with_reducible repeat (first | apply Kd.R_alloc | apply Kd.R_drewN | apply Kd.R_drew)); exact HO0.out⟩, ⟨by repeat (first | (with_reducible first | exact HK.out | apply Kept.alloc | apply Kept.drewN | apply Kept.drew) | exact HK.out)⟩, ⟨by repeat first | exact HB.out | apply pw_below_drewN⟩⟩
  case round =>
    clear H'
    try clear c1
    try clear p2
    obtain ⟨x0_1, x1_1, x5_1, rfl, rfl, HA, HK1, HO_0, HK, HB⟩ := hrel
    cases gk with
    | zero => exact absurd HA.out (by simp [laws_markDeviceS.l0])
    | succ k1 =>
      have H := HA.out
      clear HA
      simp only [laws_markDeviceS.l0] at H
      by_cases c3 : x5_1 < (x0_1.length : Int)
      · rw [if_pos c3] at H
        have c3b0 : decide (x5_1 < (x0_1.length : Int)) = true := decide_eq_true c3
        clear c3
        by_cases c4 : 0 ≤ x5_1
        · rw [if_pos c4] at H
          have c4b0 : decide (0 ≤ x5_1) = true := decide_eq_true c4
          clear c4
          obtain ⟨y309, hy309⟩ : ∃ y_ : List (S57), y_ = (x0_1.set (x5_1 : Int).toNat (⟨x1_1, (rd_T57 x0_1 x5_1).f1⟩ : S57)) := ⟨_, rfl⟩
          replace H : (laws_markDeviceS.l0 k1 (y309.set (x5_1 : Int).toNat (⟨(rd_T57 y309 x5_1).f0, wrap64 (x1_1 + 1)⟩ : S57)) (wrap64 ((wrap64 (x1_1 + 1)) + 1)) (wrap64 (x5_1 + 1))) = some (r1, r2) := by first | (rw [hy309]; with_reducible exact H) | (have H2_ := (Option.bind_some _ _).symm.trans H; rw [hy309]; with_reducible exact H2_) | (have H2_ := (Option.bind_some _ _).symm.trans H; with_reducible exact H2_) | with_reducible exact H | (rw [hy309]; exact H) | exact H
          have Ny309 := Aside0.mk hy309
          clear hy309
          obtain ⟨y310, hy310⟩ : ∃ y_ : List (S57), y_ = (y309.set (x5_1 : Int).toNat (⟨(rd_T57 y309 x5_1).f0, wrap64 (x1_1 + 1)⟩ : S57)) := ⟨_, rfl⟩
          replace H : (laws_markDeviceS.l0 k1 y310 (wrap64 ((wrap64 (x1_1 + 1)) + 1)) (wrap64 (x5_1 + 1))) = some (r1, r2) := by first | (rw [hy310]; with_reducible exact H) | (have H2_ := (Option.bind_some _ _).symm.trans H; rw [hy310]; with_reducible exact H2_) | (have H2_ := (Option.bind_some _ _).symm.trans H; with_reducible exact H2_) | with_reducible exact H | (rw [hy310]; exact H) | exact H
          have Ny310 := Aside0.mk hy310
          clear hy310
          have H' := Aside0.mk H
          clear H
          obtain ⟨Ao7, co7, eo7⟩ := Kd.R_slice HO_0.out
          subst eo7
          have p5 : 0 ≤ (x5_1 : Int) := of_decide_eq_true (by assumption)
          have q5 : (x5_1 : Int) < ((x0_1.length : Int) : Int) := of_decide_eq_true (by assumption)
          obtain ⟨go5, co5, eo5, gb5, gl5, cl5, HG5⟩ := Kd.R_form HO_0.out (by omega)
          (first | cases eo5 | (injection eo5 with ea_ en_ ec_; (first | subst ea_ | (injection ea_ with ea_; subst ea_)); subst ec_; clear en_))
          have GB5 := Aside0.mk gb5
          have GG5 := Aside0.mk HG5
          clear gb5 gl5 HG5
          have HMgo5 := Aside0.mk (show (P0_ go5 ∨ w.heap.size ≤ go5) from (HO_0.out.1 _ rfl))
          obtain ⟨ce5, hcl5, hM5, hcc5, hfr5⟩ := Kd.R_elem HO_0.out z57 (x5_1 : Int) p5 q5
          obtain rfl := k57_openM hM5
          have hx5_0 : wr.cell? ⟨go5, (x5_1 : Int).toNat * 2, none⟩ = some (.int .i64 ((rd_T57 x0_1 x5_1).f0)) := hcc5 0 _ rfl
          have hx5_1 : wr.cell? ⟨go5, (x5_1 : Int).toNat * 2 + 1, none⟩ = some (.int .i64 ((rd_T57 x0_1 x5_1).f1)) := hcc5 1 _ rfl
          have hf5_0 : wr.frozen? ⟨go5, (x5_1 : Int).toNat * 2, none⟩ = false := hfr5 0
          have hf5_1 : wr.frozen? ⟨go5, (x5_1 : Int).toNat * 2 + 1, none⟩ = false := hfr5 1
          clear hcl5 hcc5 hfr5 hM5
          replace p5 := eq_true p5
          replace q5 := eq_true q5
          have HX8 := Aside0.mk (show Kd.R k57 57 wr w0.heap.size (fun k_ => (P0_ k_ ∨ w.heap.size ≤ k_)) (.slice (some ⟨go5, 0, none⟩) x0_1.length co7) x0_1 from (by (with_reducible repeat (first | apply Kd.R_alloc | apply Kd.R_drewN | apply Kd.R_drew)); exact HO_0.out))
          obtain ⟨ce8, hcl8, hM8, hcc8, hfr8⟩ := Kd.R_elem HX8.out z57 (x5_1 : Int) (of_decide_eq_true (by assumption)) (by have h_ : (x5_1 : Int) < ((x0_1.length : Int) : Int) := of_decide_eq_true (by assumption); first | exact h_ | (have e_ := (Kd.R_reads' HO_0.out).1; omega) | simpa using h_)
          obtain rfl := k57_openM hM8
          have HP8 := Kd.R_seg HX8.out (x5_1 : Int) (of_decide_eq_true (by assumption)) (by have h_ : (x5_1 : Int) < ((x0_1.length : Int) : Int) := of_decide_eq_true (by assumption); first | exact h_ | (have e_ := (Kd.R_reads' HO_0.out).1; omega) | simpa using h_) (seg := [.int .i64 x1_1]) (j := 0) hcl8 hcc8 (show 1 ≤ 2 from by decide) (x' := (⟨x1_1, (rd_T57 x0_1 x5_1).f1⟩ : S57)) (k57_mkM _ _ _ (⟨x1_1, (rd_T57 x0_1 x5_1).f1⟩ : S57) ) (fun _ hk => hk)
          have hx8_0 := hcc8 0 _ rfl
          (try simp only [show (k57).sz = 2 from rfl, Nat.mul_one, Nat.add_zero] at hx8_0)
          have hf8_0 := hfr8 0
          (try simp only [show (k57).sz = 2 from rfl, Nat.mul_one, Nat.add_zero] at hf8_0)
          clear hcl8 hcc8 hfr8 hM8
          go_wp2_with (first | ((with_reducible refine gate_store (t := 2) (p := 16) rfl ?_); refine store_event (t := 2) (p := 16) (v := ?vo_w9) (w1 := (wr.setCell ⟨go5, (x5_1 : Int).toNat * 2, none⟩ (.int .i64 x1_1))) ?hg ?ho ?hn ?hr ?_; (case ho => rfl); (case hg => rfl); (case hn => rfl); (case hr => first | (go_simp; done) | (go_simp; rfl)); intro w9 hw; have hg : wr.grownBy w9 (some go5) := (by rw [hw]; exact HP8.2); have hp_ : Kd.R k57 57 w9 w0.heap.size (fun k_ => (P0_ k_ ∨ w.heap.size ≤ k_)) (.slice (some ⟨go5, 0, none⟩) x0_1.length co7) y309 := (by rw [hw, Ny309.out]; exact HP8.1); clear HP8; have n0_ := Aside0.mk (hp_); have n1_ := Aside0.mk ((by rw [hw]; exact below_set (HB.out) GB5.out : Below w0.heap.size w0 w9)); have n2_ := Aside0.mk (Kept.of_grown (S := (fun k_ => P0_ k_)) hg (by repeat (first | (with_reducible first | exact HK.out | apply Kept.alloc | apply Kept.drewN | apply Kept.drew) | exact HK.out)) (fun k_ e_ => (HO_0.out.1 k_ e_))); clear HO_0; clear HB; clear HK; have HO_0 := n0_; have HB := n1_; have HK := n2_; clear n0_ n1_ n2_; clear hg hw hp_; have p6 : 0 ≤ (x5_1 : Int) := of_decide_eq_true (by assumption); have q6 : (x5_1 : Int) < ((x0_1.length : Int) : Int) := of_decide_eq_true (by assumption); obtain ⟨ce6, hcl6, hM6, hcc6, hfr6⟩ := Kd.R_elem HO_0.out z57 (x5_1 : Int) p6 q6; obtain rfl := k57_openM hM6; have hx6_0 : w9.cell? ⟨go5, (x5_1 : Int).toNat * 2, none⟩ = some (.int .i64 ((rd_T57 y309 x5_1).f0)) := hcc6 0 _ rfl; have hx6_1 : w9.cell? ⟨go5, (x5_1 : Int).toNat * 2 + 1, none⟩ = some (.int .i64 ((rd_T57 y309 x5_1).f1)) := hcc6 1 _ rfl; have hf6_0 : w9.frozen? ⟨go5, (x5_1 : Int).toNat * 2, none⟩ = false := hfr6 0; have hf6_1 : w9.frozen? ⟨go5, (x5_1 : Int).toNat * 2 + 1, none⟩ = false := hfr6 1; clear hcl6 hcc6 hfr6 hM6; replace p6 := eq_true p6; replace q6 := eq_true q6; have HX10 := Aside0.mk (show Kd.R k57 57 w9 w0.heap.size (fun k_ => (P0_ k_ ∨ w.heap.size ≤ k_)) (.slice (some ⟨go5, 0, none⟩) x0_1.length co7) y309 from (by (with_reducible repeat (first | apply Kd.R_alloc | apply Kd.R_drewN | apply Kd.R_drew)); exact HO_0.out)); obtain ⟨ce10, hcl10, hM10, hcc10, hfr10⟩ := Kd.R_elem HX10.out z57 (x5_1 : Int) (of_decide_eq_true (by assumption)) (by have h_ : (x5_1 : Int) < ((x0_1.length : Int) : Int) := of_decide_eq_true (by assumption); first | exact h_ | (have e_ := (Kd.R_reads' HO_0.out).1; omega) | simpa using h_); obtain rfl := k57_openM hM10; have HP10 := Kd.R_seg HX10.out (x5_1 : Int) (of_decide_eq_true (by assumption)) (by have h_ : (x5_1 : Int) < ((x0_1.length : Int) : Int) := of_decide_eq_true (by assumption); first | exact h_ | (have e_ := (Kd.R_reads' HO_0.out).1; omega) | simpa using h_) (seg := [.int .i64 (wrap64 (x1_1 + 1))]) (j := 1) hcl10 hcc10 (show 2 ≤ 2 from by decide) (x' := (⟨(rd_T57 y309 x5_1).f0, wrap64 (x1_1 + 1)⟩ : S57)) (k57_mkM _ _ _ (⟨(rd_T57 y309 x5_1).f0, wrap64 (x1_1 + 1)⟩ : S57) ) (fun _ hk => hk); have hx10_1 := hcc10 1 _ rfl; (try simp only [show (k57).sz = 2 from rfl, Nat.mul_one, Nat.add_zero] at hx10_1); have hf10_1 := hfr10 1; (try simp only [show (k57).sz = 2 from rfl, Nat.mul_one, Nat.add_zero] at hf10_1); clear hcl10 hcc10 hfr10 hM10) | ((with_reducible refine gate_store (t := 2) (p := 23) rfl ?_); refine store_event (t := 2) (p := 23) (v := ?vo_w11) (w1 := (w9.setCell ⟨go5, (x5_1 : Int).toNat * 2 + 1, none⟩ (.int .i64 (wrap64 (x1_1 + 1))))) ?hg ?ho ?hn ?hr ?_; (case ho => rfl); (case hg => rfl); (case hn => rfl); (case hr => first | (go_simp; done) | (go_simp; rfl)); intro w11 hw; have hg : w9.grownBy w11 (some go5) := (by rw [hw]; exact HP10.2); have hp_ : Kd.R k57 57 w11 w0.heap.size (fun k_ => (P0_ k_ ∨ w.heap.size ≤ k_)) (.slice (some ⟨go5, 0, none⟩) x0_1.length co7) y310 := (by rw [hw, Ny310.out]; exact HP10.1); clear HP10; have n0_ := Aside0.mk (hp_); have n1_ := Aside0.mk ((by rw [hw]; exact below_set (HB.out) GB5.out : Below w0.heap.size w0 w11)); have n2_ := Aside0.mk (Kept.of_grown (S := (fun k_ => P0_ k_)) hg (by repeat (first | (with_reducible first | exact HK.out | apply Kept.alloc | apply Kept.drewN | apply Kept.drew) | exact HK.out)) (fun k_ e_ => (HO_0.out.1 k_ e_))); clear HO_0; clear HB; clear HK; have HO_0 := n0_; have HB := n1_; have HK := n2_; clear n0_ n1_ n2_; clear hg hw hp_))
          go_roundg k1
          case measure => have := HK1.out; omega
          case rel => exact ⟨(y310), (wrap64 ((wrap64 (x1_1 + 1)) + 1)), (wrap64 (x5_1 + 1)), (by first | rfl | (simp; done) | (simp [*]; done)), (by first | rfl | (simp; done) | (simp [*]; done)), H', ⟨by have := HK1.out; omega⟩, ⟨by (with_reducible repeat (first | apply Kd.R_alloc | apply Kd.R_drewN | apply Kd.R_drew)); exact HO_0.out⟩, ⟨by repeat (first | (with_reducible first | exact HK.out | apply Kept.alloc | apply Kept.drewN | apply Kept.drew) | exact HK.out)⟩, ⟨by repeat first | exact HB.out | apply pw_below_drewN⟩⟩
        · rw [if_neg c4] at H
          exact absurd H (by simp)
      · rw [if_neg c3] at H
        have c3b0 : decide (x5_1 < (x0_1.length : Int)) = false := decide_eq_false c3
        clear c3
        simp only [Option.some.injEq, Prod.mk.injEq] at H
        obtain ⟨rfl, rfl⟩ := H
        obtain ⟨Ao12, co12, eo12⟩ := Kd.R_slice HO_0.out
        subst eo12
        go_wp2
        go_ret
        exact ⟨by first | rfl | (simp [*, errW_none, errW_some] <;> rfl), by (with_reducible repeat (first | apply Kd.R_alloc | apply Kd.R_drewN | apply Kd.R_drew)); exact HO_0.out, by repeat first | exact HB.out | apply pw_below_drewN, by repeat (first | (with_reducible first | exact HK.out | apply Kept.alloc | apply Kept.drewN | apply Kept.drew) | exact HK.out)⟩

end Go.Proofs.YtohjpgcmhihdhaaGreatDoor.Q

namespace Go.Proofs.YtohjpgcmhihdhaaGreatDoorW.PrintMore
open Go.RowKit Go.Proofs.YtohjpgcmhihdhaaGreatDoorW.PrintWords Go.Proofs.YtohjpgcmhihdhaaGreatDoorW.PrintLast Go.Proofs.YtohjpgcmhihdhaaGreatDoor.Q
set_option linter.unusedVariables false
set_option linter.unusedSimpArgs false
set_option maxHeartbeats 4000000 in
set_option maxRecDepth 100000 in
theorem markI_at (k : Nat) (P : Nat → Prop) (A : Option Addr) (c c' : Nat) (l : List Int) (a1 r1 : Int) (r2 : List Int) (w0 w : World) (hB : Below w0.heap.size w0 w) (ho : (Kd.int .i64).Q 2 w w0.heap.size P (.slice A l.length c) l) (h : laws_markInt64S.f k l a1 = some (r1, r2)) :
    Calls Tryz.prog 41 #[.slice A l.length c', .int .i64 a1] w fun e w' => e = .returned (.int .i64 r1) ∧ r2.length = l.length ∧ (Kd.int .i64).Q 2 w' w0.heap.size P (.slice A l.length c) r2 ∧ Below w0.heap.size w0 w' ∧ Kept w w' P := by
  have HO := Aside0.mk ho
  have HB := Aside0.mk hB
  have HK := Aside0.mk (Kept.refl w P)
  have HA := Aside0.mk (show laws_markInt64S.l0 k l a1 0 = some (r1, r2) from h)
  clear hB ho h
  go_enter Tryz.func41, Tryz.ntmps41
  go_wp2_with fail
  go_loopg [1, 5] k (fun kq v1 v5 w' => ∃ (xs : List Int) (x1 x5 : Int), v1 = .int .i64 x1 ∧ v5 = .int .i64 x5 ∧ Aside0 (xs.length = l.length) ∧ Aside0 (laws_markInt64S.l0 kq xs x1 x5 = some (r1, r2)) ∧ Aside0 (kq ≤ k) ∧ Aside0 ((Kd.int .i64).Q 2 w' w0.heap.size P (.slice A l.length c) xs) ∧ Aside0 (Kept w w' P) ∧ Aside0 (Below w0.heap.size w0 w'))
  case atStart => exact ⟨l, a1, 0, rfl, rfl, ⟨rfl⟩, HA, ⟨Nat.le_refl _⟩, HO, HK, HB⟩
  case round =>
    clear HA HO HK HB
    obtain ⟨xs, x1, x5, rfl, rfl, HL, HA, HK1, HO, HK, HB⟩ := hrel
    cases gk with
    | zero => exact absurd HA.out (by simp [laws_markInt64S.l0])
    | succ k1 =>
      have H := HA.out
      clear HA
      simp only [laws_markInt64S.l0] at H
      rw [HL.out] at H
      by_cases c3 : x5 < (l.length : Int)
      · rw [if_pos c3] at H
        by_cases c4 : 0 ≤ x5
        case neg => rw [if_neg c4] at H; cases H
        rw [if_pos c4] at H
        have HN := Aside0.mk H
        clear H
        obtain ⟨g, o, cc, eo, gb, gl, cl, HG⟩ := Kd.Q_form HO.out (by rw [HL.out]; omega)
        rw [HL.out] at eo
        injection eo with ea _ ec
        subst ea
        subst ec
        have GB := Aside0.mk gb
        have HP := Aside0.mk (show P g from HO.out.1 _ rfl)
        clear gb gl HG
        obtain ⟨hx, hf⟩ := Kd.Q_cell (0 : Int) HO.out x5 c4 c3
        have HPG := Kd.Q_putg HO.out x5 c4 c3 x1
        have q0 := eq_true c4
        have q1 := eq_true c3
        clear c3 c4
        go_wp2_with (first | ((with_reducible refine gate_store (t := 2) (p := 15) rfl ?_); refine store_event (t := 2) (p := 15) (v := ?vo_w8) (w1 := (wr.setCell ⟨g, o + x5.toNat, none⟩ (.int .i64 x1))) ?hg ?ho ?hn ?hr ?_; (case ho => rfl); (case hg => rfl); (case hn => rfl); (case hr => first | (go_simp; done) | (go_simp; rfl)); intro w8 hw; have hg : wr.grownBy w8 (some g) := (by rw [hw]; exact HPG.2); have n0 := Aside0.mk (show (Kd.int .i64).Q 2 w8 w0.heap.size P (.slice (some ⟨g, o, none⟩) l.length c) (xs.set x5.toNat x1) from (by rw [hw]; exact HPG.1)); have n1 := Aside0.mk (show Below w0.heap.size w0 w8 from (by rw [hw]; exact below_set HB.out GB.out)); have n2 := Aside0.mk (Kept.of_grown (S := P) hg HK.out (fun k_ e_ => .inl (by injection e_ with e_; subst e_; exact HP.out))); clear HO HB HK HPG hx hf; have HO := n0; have HB := n1; have HK := n2; clear n0 n1 n2 hg hw))
        go_roundg k1
        case measure => have := HK1.out; omega
        case rel => exact ⟨xs.set x5.toNat x1, wrap64 (x1 + 1), wrap64 (x5 + 1), by go_num, by go_num, ⟨by rw [List.length_set]; exact HL.out⟩, HN, ⟨by have := HK1.out; omega⟩, HO, HK, HB⟩
      · rw [if_neg c3] at H
        have q1 := decide_eq_false c3
        injection H with H
        injection H with h1 h2
        subst h1
        subst h2
        clear c3
        go_wp2_with fail
        go_ret
        exact ⟨rfl, HL.out, HO.out, HB.out, HK.out⟩
theorem rd_setQ (xs : List S49) (i : Int) (h0 : 0 ≤ i) (h1 : i < (xs.length : Int)) (x : S49) : rd_T49 (xs.set i.toNat x) i = x := by
  unfold rd_T49
  rw [List.getD_eq_getElem?_getD, List.getElem?_set_self (by omega)]
  rfl
section
variable {W : World} {base g n cap : Nat} {ok : Nat → Prop} {xs : List S49} {i : Int}
theorem Q_setB (h : Kd.S kqB 49 W base ok (.slice (some ⟨g, 0, none⟩) n cap) xs) (h0 : 0 ≤ i) (h1 : i < n) (j : Nat) (y : Int) (x' : S49) (hj : j = 0 ∧ x' = ⟨y, (rd_T49 xs i).f1, (rd_T49 xs i).f2⟩ ∨ j = 1 ∧ x' = ⟨(rd_T49 xs i).f0, y, (rd_T49 xs i).f2⟩) :
    Kd.S kqB 49 (W.setCells g (i.toNat * 3 + j) [.int .i64 y]) base ok (.slice (some ⟨g, 0, none⟩) n cap) (xs.set i.toNat x') ∧ W.grownBy (W.setCells g (i.toNat * 3 + j) [.int .i64 y]) (some g) := by
  obtain ⟨oki, c, hcl, hM, hcc, hfr, hoki, hH⟩ := Kd.S_elem h z49 i h0 h1
  obtain ⟨A, c1, c2, rfl, hl, hR2⟩ := kqB_openM hM
  rcases hj with ⟨rfl, rfl⟩ | ⟨rfl, rfl⟩
  · obtain ⟨h2, h3⟩ := Kd.H_seg hH h0 h1 (seg := [.int .i64 y]) (j := 0) (show 0 + 1 ≤ 3 by decide) (fun q hq => by simp at hq; subst hq; rfl)
    exact ⟨Kd.H_back h2 (kqB_mkM _ base oki ⟨y, (rd_T49 xs i).f1, (rd_T49 xs i).f2⟩ hl (Kd.Q_step hR2 (fun k hk hlt => h3.block k hlt (fun he => (hoki k hk).2 (by injection he))))) (fun _ hk => hk), h3⟩
  · obtain ⟨h2, h3⟩ := Kd.H_seg hH h0 h1 (seg := [.int .i64 y]) (j := 1) (show 1 + 1 ≤ 3 by decide) (fun q hq => by simp at hq; subst hq; rfl)
    exact ⟨Kd.H_back h2 (kqB_mkM _ base oki ⟨(rd_T49 xs i).f0, y, (rd_T49 xs i).f2⟩ hl (Kd.Q_step hR2 (fun k hk hlt => h3.block k hlt (fun he => (hoki k hk).2 (by injection he))))) (fun _ hk => hk), h3⟩
theorem Q_cellsB (h : Kd.S kqB 49 W base ok (.slice (some ⟨g, 0, none⟩) n cap) xs) (h0 : 0 ≤ i) (h1 : i < n) :
    W.cell? ⟨g, i.toNat * 3, none⟩ = some (.int .i64 (rd_T49 xs i).f0) ∧ W.cell? ⟨g, i.toNat * 3 + 1, none⟩ = some (.int .i64 (rd_T49 xs i).f1) ∧ W.frozen? ⟨g, i.toNat * 3, none⟩ = false ∧ W.frozen? ⟨g, i.toNat * 3 + 1, none⟩ = false := by
  obtain ⟨oki, c, hcl, hM, hcc, hfr, hoki, hH⟩ := Kd.S_elem h z49 i h0 h1
  obtain ⟨A, c1, c2, rfl, hl, hR2⟩ := kqB_openM hM
  exact ⟨hcc 0 _ rfl, hcc 1 _ rfl, hfr 0, hfr 1⟩
theorem Q_itemsB (h : Kd.S kqB 49 W base ok (.slice (some ⟨g, 0, none⟩) n cap) xs) (h0 : 0 ≤ i) (h1 : i < n) :
    ∃ (oki : Nat → Prop) (A : Option Addr) (c c' : Nat), W.cell? ⟨g, i.toNat * 3 + 2, none⟩ = some (.slice A (rd_T49 xs i).f2.length c') ∧ (Kd.int .i64).Q 2 W base oki (.slice A (rd_T49 xs i).f2.length c) (rd_T49 xs i).f2 ∧ (∀ k, oki k → ok k) ∧ ∀ (W2 : World) (l : List Int), Kept W W2 oki → l.length = (rd_T49 xs i).f2.length → (Kd.int .i64).Q 2 W2 base oki (.slice A (rd_T49 xs i).f2.length c) l → Kd.S kqB 49 W2 base ok (.slice (some ⟨g, 0, none⟩) n cap) (xs.set i.toNat ⟨(rd_T49 xs i).f0, (rd_T49 xs i).f1, l⟩) := by
  obtain ⟨oki, c, hcl, hM, hcc, hfr, hoki, hH⟩ := Kd.S_elem h z49 i h0 h1
  obtain ⟨A, c1, c2, rfl, hl, hR2⟩ := kqB_openM hM
  refine ⟨oki, A, c1, c2, hcc 2 _ rfl, hR2, fun k hk => (hoki k hk).1, fun W2 l hK hn hQ => ?_⟩
  have hH2 := (show Kd.H kqB 49 W2 base ok (.slice (some ⟨g, 0, none⟩) n cap) xs i oki _ from ⟨hH.1, hH.2.choose, Kd.R_step hH.2.choose_spec (fun k hk hlt => hK.2 k hlt hk.2)⟩)
  refine Kd.H_back hH2 ?_ (fun k hk => hk)
  have e : (rd_T49 xs i).f2.length = l.length := hn.symm
  have h3 := kqB_mkM W2 base oki ⟨(rd_T49 xs i).f0, (rd_T49 xs i).f1, l⟩ (A := A) (c := c1) (c' := c2) (by show l.length ≤ c2; rw [hn]; exact hl) (by show (Kd.int .i64).Q 2 W2 base oki (.slice A l.length c1) l; rw [← e]; exact hQ)
  have h4 : kqB.M W2 base oki ⟨(rd_T49 xs i).f0, (rd_T49 xs i).f1, l⟩ [.int .i64 (rd_T49 xs i).f0, .int .i64 (rd_T49 xs i).f1, .slice A (rd_T49 xs i).f2.length c2] := by
    rw [e]
    exact h3
  exact h4
end
def markBQ.l0 : Nat → List S49 → Int → Int → Option (Int × List S49)
  | 0, _, _, _ => none
  | k + 1, x0, x1, x5 => if x5 < (x0.length : Int) then (if 0 ≤ x5 then (laws_markInt64S.f k (rd_T49 x0 x5).f2 (wrap64 (wrap64 (x1 + 1) + 1))).bind fun m => markBQ.l0 k (x0.set x5.toNat ⟨x1, wrap64 (x1 + 1), m.2⟩) m.1 (wrap64 (x5 + 1)) else none) else some (x1, x0)
def markBQ.f (k : Nat) (l : List S49) (a1 : Int) : Option (Int × List S49) := markBQ.l0 k l a1 0
set_option maxHeartbeats 4000000 in
set_option maxRecDepth 100000 in
theorem markBQ_at (k : Nat) (P0_ : Nat → Prop) (v_ : Value) (l : List S49) (a1 r : Int) (l' : List S49) (w0 w : World) (hB : Below w0.heap.size w0 w) (ho : Kd.S kqB 49 w w0.heap.size P0_ v_ l) (h : markBQ.f k l a1 = some (r, l')) :
    Calls Tryz.prog 19 #[v_, .int .i64 a1] w fun e w' => e = .returned (.int .i64 r) ∧ Kd.S kqB 49 w' w0.heap.size P0_ v_ l' ∧ Below w0.heap.size w0 w' ∧ Kept w w' (fun k_ => P0_ k_) := by
  obtain ⟨A0, c0, ev⟩ := Kd.S_slice ho
  subst ev
  have HO := Aside0.mk ho
  have HB := Aside0.mk hB
  have HK := Aside0.mk (Kept.refl w (fun k_ => P0_ k_))
  have HA := Aside0.mk (show markBQ.l0 k l a1 0 = some (r, l') from h)
  clear hB ho h
  go_enter Tryz.func19, Tryz.ntmps19
  go_wp2_with fail
  go_loopg [1, 5] k (fun kq v1 v5 w' => ∃ (xs : List S49) (x1 x5 : Int), v1 = .int .i64 x1 ∧ v5 = .int .i64 x5 ∧ Aside0 (xs.length = l.length) ∧ Aside0 (markBQ.l0 kq xs x1 x5 = some (r, l')) ∧ Aside0 (kq ≤ k) ∧ Aside0 (Kd.S kqB 49 w' w0.heap.size P0_ (.slice A0 l.length c0) xs) ∧ Aside0 (Kept w w' (fun k_ => P0_ k_)) ∧ Aside0 (Below w0.heap.size w0 w'))
  case atStart => exact ⟨l, a1, 0, rfl, rfl, ⟨rfl⟩, HA, ⟨Nat.le_refl _⟩, HO, HK, HB⟩
  case round =>
    clear HA HO HK HB
    obtain ⟨xs, x1, x5, rfl, rfl, HL, HA, HK1, HO, HK, HB⟩ := hrel
    cases gk with
    | zero => exact absurd HA.out (by simp [markBQ.l0])
    | succ k1 =>
      have H := HA.out
      clear HA
      simp only [markBQ.l0] at H
      rw [HL.out] at H
      by_cases c3 : x5 < (l.length : Int)
      · rw [if_pos c3] at H
        by_cases c4 : 0 ≤ x5
        case neg => rw [if_neg c4] at H; cases H
        rw [if_pos c4] at H
        obtain ⟨m, hm, H⟩ := Option.bind_eq_some_iff.1 H
        have HM := Aside0.mk hm
        have HN := Aside0.mk H
        clear hm H
        obtain ⟨go5, co5, eo5, gb5, gl5, cl5, HG5⟩ := Kd.S_form HO.out (by rw [HL.out]; omega)
        rw [HL.out] at eo5
        injection eo5 with ea _ ec
        subst ea
        subst ec
        have GB5 := Aside0.mk gb5
        have HP5 := Aside0.mk (show P0_ go5 from (Kd.S_R HO.out).1 _ rfl)
        clear gb5 gl5 HG5
        have C3 := Aside0.mk c3
        have C4 := Aside0.mk c4
        have C5 := Aside0.mk (show x5 < (xs.length : Int) by rw [HL.out]; exact c3)
        obtain ⟨hx0, hx1, hf0, hf1⟩ := Q_cellsB HO.out c4 c3
        have q0 := eq_true c4
        have q1 := eq_true c3
        clear c3 c4 H
        go_wp2_with (first | ((with_reducible refine gate_store (t := 2) (p := 16) rfl ?_); refine store_event (t := 2) (p := 16) (v := ?vo_w8) (w1 := (wr.setCell ⟨go5, x5.toNat * 3, none⟩ (.int .i64 x1))) ?hg ?ho ?hn ?hr ?_; (case ho => rfl); (case hg => rfl); (case hn => rfl); (case hr => first | (go_simp; done) | (go_simp; rfl)); intro w8 hw; have hg : wr.grownBy w8 (some go5) := (by rw [hw]; exact (Q_setB HO.out C4.out C3.out 0 x1 _ (.inl ⟨rfl, rfl⟩)).2); have n0 := Aside0.mk (show Kd.S kqB 49 w8 w0.heap.size P0_ (.slice (some ⟨go5, 0, none⟩) l.length c0) _ from (by rw [hw]; exact (Q_setB HO.out C4.out C3.out 0 x1 _ (.inl ⟨rfl, rfl⟩)).1)); have n1 := Aside0.mk (show Below w0.heap.size w0 w8 from (by rw [hw]; exact below_set HB.out GB5.out)); have n2 := Aside0.mk (Kept.of_grown (S := (fun k_ => P0_ k_)) hg HK.out (fun k_ e_ => .inl (by injection e_ with e_; subst e_; exact HP5.out))); clear HO HB HK hx0 hx1 hf0 hf1; have HO := n0; have HB := n1; have HK := n2; clear n0 n1 n2 hg hw; obtain ⟨hx0, hx1, hf0, hf1⟩ := Q_cellsB HO.out C4.out C3.out) | ((with_reducible refine gate_store (t := 2) (p := 23) rfl ?_); refine store_event (t := 2) (p := 23) (v := ?vo_w9) (w1 := (w8.setCell ⟨go5, x5.toNat * 3 + 1, none⟩ (.int .i64 (wrap64 (x1 + 1))))) ?hg ?ho ?hn ?hr ?_; (case ho => rfl); (case hg => rfl); (case hn => rfl); (case hr => first | (go_simp; done) | (go_simp; rfl)); intro w9 hw; have hg : w8.grownBy w9 (some go5) := (by rw [hw]; exact (Q_setB HO.out C4.out C3.out 1 (wrap64 (x1 + 1)) _ (.inr ⟨rfl, rfl⟩)).2); have n0 := Aside0.mk (show Kd.S kqB 49 w9 w0.heap.size P0_ (.slice (some ⟨go5, 0, none⟩) l.length c0) _ from (by rw [hw]; exact (Q_setB HO.out C4.out C3.out 1 (wrap64 (x1 + 1)) _ (.inr ⟨rfl, rfl⟩)).1)); have n1 := Aside0.mk (show Below w0.heap.size w0 w9 from (by rw [hw]; exact below_set HB.out GB5.out)); have n2 := Aside0.mk (Kept.of_grown (S := (fun k_ => P0_ k_)) hg HK.out (fun k_ e_ => .inl (by injection e_ with e_; subst e_; exact HP5.out))); clear HO HB HK hx0 hx1 hf0 hf1; have HO := n0; have HB := n1; have HK := n2; clear n0 n1 n2 hg hw; obtain ⟨oki, Ai, ci, ci', hx2, hR2, hoki, hback⟩ := Q_itemsB HO.out C4.out C3.out; have HR2 := Aside0.mk hR2; have HOK := Aside0.mk hoki; have HBK := Aside0.mk hback; clear hR2 hoki hback))
        have e1 := fun x => rd_setQ xs x5 C4.out C5.out x
        have hR2 := HR2.out
        have hback := HBK.out
        simp only [List.set_set, e1] at hR2 hback ⊢
        clear HR2 HBK hx2
        refine (markI_at k1 oki Ai ci ci' _ _ m.1 m.2 w0 w9 HB.out hR2 HM.out).mono ?_
        rintro e w10 ⟨rfl, hn, hr, hb, hk⟩
        replace HO := Aside0.mk (hback w10 m.2 hk hn hr)
        replace HB := Aside0.mk hb
        replace HK := Aside0.mk (HK.out.then_ hk (fun k_ hk2 => .inl (HOK.out k_ hk2)))
        clear hback hR2 hr hb hk e1 hn
        go_wp2_with fail
        go_roundg k1
        case measure => have := HK1.out; omega
        case rel => exact ⟨_, m.1, wrap64 (x5 + 1), rfl, by go_num, ⟨by rw [List.length_set]; exact HL.out⟩, HN, ⟨by have := HK1.out; omega⟩, HO, HK, HB⟩
      · rw [if_neg c3] at H
        injection H with H
        injection H with h1 h2
        subst h1
        subst h2
        go_wp2_with fail
        go_ret
        exact ⟨rfl, HO.out, HB.out, HK.out⟩
def markTQ.f (k : Nat) (D : List S57) (B : List S49) (a1 : Int) : Option (Int × (List S57 × List S49)) := (laws_markDeviceS.f k D a1).bind fun m => (markBQ.f k B m.1).map fun b => (b.1, (m.2, b.2))
set_option maxHeartbeats 4000000 in
set_option maxRecDepth 100000 in
theorem markTQ_at (k : Nat) (P0_ P1_ : Nat → Prop) (v0 v1 : Value) (D : List S57) (B : List S49) (a1 r : Int) (D' : List S57) (B' : List S49) (w0 w : World) (hB : Below w0.heap.size w0 w) (ho0 : Kd.R k57 57 w w0.heap.size P0_ v0 D) (ho1 : Kd.S kqB 49 w w0.heap.size P1_ v1 B) (hne : ∀ k, P1_ k → ¬ P0_ k) (h : markTQ.f k D B a1 = some (r, (D', B'))) :
    Calls Tryz.prog 7 #[.agg #[v0, v1], .int .i64 a1] w fun e w' => e = .returned (.int .i64 r) ∧ Kd.R k57 57 w' w0.heap.size (fun _ => True) v0 D' ∧ Kd.S kqB 49 w' w0.heap.size (fun _ => True) v1 B' ∧ Below w0.heap.size w0 w' ∧ Kept w w' (fun k_ => P0_ k_ ∨ P1_ k_) := by
  obtain ⟨A0, c0, e0⟩ := Kd.R_slice ho0
  obtain ⟨A1, c1, e1⟩ := Kd.S_slice ho1
  subst e0 e1
  obtain ⟨m, hm, h2⟩ := Option.bind_eq_some_iff.1 h
  obtain ⟨b, hb, h3⟩ := Option.map_eq_some_iff.1 h2
  injection h3 with h4 h5
  injection h5 with h6 h7
  subst h4 h6 h7
  have HM := Aside0.mk hm
  have HN := Aside0.mk hb
  have HR := Aside0.mk (Kd.R_mono (Kd.R_bound ho0) (ok' := fun k => P0_ k ∧ k < w.heap.size) (fun k hk => ⟨hk.1, hk.2.2.1⟩))
  have HS := Aside0.mk (Kd.S_mono (Kd.S_bound ho1) (ok' := fun k => P1_ k ∧ k < w.heap.size) (fun k hk => ⟨hk.1, hk.2.2.1⟩))
  have HE := Aside0.mk hne
  have HB0 := Aside0.mk hB
  clear ho0 ho1 h hm h2 hne hB hb
  go_enter Tryz.func7, Tryz.ntmps7
  go_wp2_with fail
  have BK := Aside0.mk (blk_new w (.cells #[.slice A0 D.length c0, .slice A1 B.length c1] 25))
  have HK := Aside0.mk (Kept.alloc (Kept.refl w (fun k_ => P0_ k_ ∨ P1_ k_)) (.cells #[.slice A0 D.length c0, .slice A1 B.length c1] 25))
  replace HB0 := Aside0.mk (below_alloc HB0.out (.cells #[.slice A0 D.length c0, .slice A1 B.length c1] 25))
  replace HR := Aside0.mk (Kd.R_alloc HR.out (.cells #[.slice A0 D.length c0, .slice A1 B.length c1] 25))
  replace HS := Aside0.mk (Kd.S_alloc HS.out (.cells #[.slice A0 D.length c0, .slice A1 B.length c1] 25))
  generalize (w.alloc (.cells #[.slice A0 D.length c0, .slice A1 B.length c1] 25)) = w1 at BK HK HB0 HR HS ⊢
  have HSZ := Aside0.mk (blk_lt BK.out)
  refine (laws_markDeviceS.calls k _ _ D a1 m.1 m.2 w0 w1 HB0.out HR.out HM.out).mono ?_
  rintro e w2 ⟨rfl, hr, hb, hk⟩
  replace BK := Aside0.mk (blk_kept BK.out hk (fun hx => absurd hx.2 (Nat.lt_irrefl _)))
  replace HK := Aside0.mk (HK.out.then_ hk (fun k_ hx => .inl (.inl hx.1)))
  replace HB0 := Aside0.mk hb
  replace HS := Aside0.mk (Kd.S_step HS.out (fun k_ h1 hlt => hk.2 k_ hlt (fun h2 => HE.out k_ h1.1 h2.1)))
  replace HR := Aside0.mk (Kd.R_mono (Kd.R_bound hr) (ok' := fun k_ => ¬ (P1_ k_ ∧ k_ < w.heap.size)) (fun k_ hk2 hk3 => hk2.1.elim (fun h => HE.out k_ hk3.1 h.1) (fun h => by
    have h9 := hk3.2
    have := HSZ.out
    omega)))
  clear hr hb hk HM
  have hx0 := (blk_cell BK.out 0).trans rfl
  have hx1 := (blk_cell BK.out 1).trans rfl
  go_wp2_with fail
  refine (markBQ_at k _ _ B m.1 b.1 b.2 w0 w2 HB0.out HS.out HN.out).mono ?_
  rintro e w3 ⟨rfl, hs, hb, hk⟩
  replace HK := Aside0.mk (HK.out.then_ hk (fun k_ hx => .inl (.inr hx.1)))
  replace HR := Aside0.mk (Kd.R_step HR.out (fun k_ h1 hlt => hk.2 k_ hlt h1))
  replace HB0 := Aside0.mk hb
  have HS2 := Aside0.mk hs
  clear hb hk hx0 hx1 BK HS hs
  go_wp2_with fail
  go_ret
  exact ⟨rfl, Kd.R_mono HR.out (fun _ _ => trivial), Kd.S_mono HS2.out (fun _ _ => trivial), HB0.out, HK.out⟩

end Go.Proofs.YtohjpgcmhihdhaaGreatDoorW.PrintMore

namespace Go.Proofs.YtohjpgcmhihdhaaGreatDoor.Q
open Go.RowKit Go.Proofs.YtohjpgcmhihdhaaGreatDoorW.PrintWords Go.Proofs.YtohjpgcmhihdhaaGreatDoorW.PrintLast Go.Proofs.YtohjpgcmhihdhaaGreatDoorW.PrintMore
attribute [local go_sem] max2_int min2_int max_two min_two max_three min_three max_four min_four   -- for this text's walks alone
set_option linter.unusedVariables false
set_option linter.unusedSimpArgs false
/-! ### laws_heldDeviceS: function 20 -/
def laws_heldDeviceS.l0 : Nat → List (S57) → Int → Int → Option (Int)
  | 0, _, _, _ => none
  | k + 1, x0, x1, x5 => if x5 < (x0.length : Int) then (if 0 ≤ x5 then (if ((rd_T57 x0 x5).f0) = x1 then (if ((rd_T57 x0 x5).f1) = (wrap64 (x1 + 1)) then (laws_heldDeviceS.l0 k x0 (wrap64 ((wrap64 (x1 + 1)) + 1)) (wrap64 (x5 + 1))) else (some (-1))) else (some (-1))) else (none)) else (some x1)
def laws_heldDeviceS.f (k : Nat) (l0 : List (S57)) (a1 : Int) : Option (Int) := laws_heldDeviceS.l0 k l0 a1 0
set_option maxHeartbeats 8000000 in
set_option maxRecDepth 100000 in
theorem laws_heldDeviceS.calls (k : Nat) (A0 : Option Addr) (c0 : Nat) (l0 : List (S57)) (a1 : Int) (r : Int) (w : World) (hr0 : Kd.C k57 w A0 l0.length l0) (hc0 : l0.length ≤ c0) (h : laws_heldDeviceS.f k l0 a1 = some r) :
    Calls Tryz.prog 20 #[.slice A0 l0.length c0, .int .i64 a1] w fun e w' => e = .returned (.int .i64 r) ∧ Drawn0 w w' := by
  have HR0 := Aside0.mk hr0
  have HC0 := Aside0.mk hc0
  clear hr0 hc0
  have H : (laws_heldDeviceS.l0 k l0 a1 0) = some r := h
  clear h
  have H' := Aside0.mk H
  clear H
  go_enter Tryz.func20, Tryz.ntmps20
  go_wp2
  go_loopg [1, 5] k (fun kq v1 v5 w' => ∃ (x1_1 : Int) (x5_1 : Int), v1 = .int .i64 x1_1 ∧ v5 = .int .i64 x5_1 ∧ Aside0 (laws_heldDeviceS.l0 kq l0 x1_1 x5_1 = some r) ∧ Aside0 (kq ≤ k) ∧ Drawn0 w w')
  case atStart => exact ⟨(a1), (0), (by first | rfl | (simp; done) | (simp [*]; done)), (by first | rfl | (simp; done) | (simp [*]; done)), H', ⟨Nat.le_refl _⟩, by repeat (first | exact Drawn0.refl _ | apply Drawn0.step)⟩
  case round =>
    clear H'
    try clear c2
    try clear p2
    obtain ⟨x1_1, x5_1, rfl, rfl, HA, HK1, ⟨m1, rfl⟩⟩ := hrel
    cases gk with
    | zero => exact absurd HA.out (by simp [laws_heldDeviceS.l0])
    | succ k1 =>
      have H := HA.out
      clear HA
      simp only [laws_heldDeviceS.l0] at H
      by_cases c3 : x5_1 < (l0.length : Int)
      · rw [if_pos c3] at H
        have c3b0 : decide (x5_1 < (l0.length : Int)) = true := decide_eq_true c3
        clear c3
        by_cases c4 : 0 ≤ x5_1
        · rw [if_pos c4] at H
          have c4b0 : decide (0 ≤ x5_1) = true := decide_eq_true c4
          clear c4
          by_cases c5 : ((rd_T57 l0 x5_1).f0) = x1_1
          · rw [if_pos c5] at H
            have c5b0 : (((rd_T57 l0 x5_1).f0) == x1_1) = true := beq_iff_eq.mpr c5
            have c5b1 : (((rd_T57 l0 x5_1).f0) != x1_1) = false := bne_eq_false_iff_eq.mpr c5
            clear c5
            by_cases c6 : ((rd_T57 l0 x5_1).f1) = (wrap64 (x1_1 + 1))
            · rw [if_pos c6] at H
              have c6b0 : (((rd_T57 l0 x5_1).f1) == (wrap64 (x1_1 + 1))) = true := beq_iff_eq.mpr c6
              have c6b1 : (((rd_T57 l0 x5_1).f1) != (wrap64 (x1_1 + 1))) = false := bne_eq_false_iff_eq.mpr c6
              clear c6
              have H' := Aside0.mk H
              clear H
              have p312 : 0 ≤ (x5_1 : Int) := of_decide_eq_true (by assumption)
              have q312 : x5_1 < (l0.length : Int) := of_decide_eq_true (by assumption)
              obtain ⟨ad312, e312, hx312_0, hx312_1⟩ := at_T57 HR0.out x5_1 p312 q312
              cases e312
              replace p312 := eq_true p312
              replace q312 := eq_true q312
              have p313 : 0 ≤ (x5_1 : Int) := of_decide_eq_true (by assumption)
              have q313 : x5_1 < (l0.length : Int) := of_decide_eq_true (by assumption)
              obtain ⟨ad313, e313, hx313_0, hx313_1⟩ := at_T57 HR0.out x5_1 p313 q313
              obtain rfl : ad312 = ad313 := (by injection e313)
              replace p313 := eq_true p313
              replace q313 := eq_true q313
              go_wp2
              go_roundg k1
              case measure => have := HK1.out; omega
              case rel => exact ⟨(wrap64 ((wrap64 (x1_1 + 1)) + 1)), (wrap64 (x5_1 + 1)), (by first | rfl | (simp; done) | (simp [*]; done)), (by first | rfl | (simp; done) | (simp [*]; done)), H', ⟨by have := HK1.out; omega⟩, by repeat (first | exact Drawn0.refl _ | apply Drawn0.step)⟩
            · rw [if_neg c6] at H
              have c6b0 : (((rd_T57 l0 x5_1).f1) == (wrap64 (x1_1 + 1))) = false := beq_eq_false_iff_ne.mpr c6
              have c6b1 : (((rd_T57 l0 x5_1).f1) != (wrap64 (x1_1 + 1))) = true := bne_iff_ne.mpr c6
              obtain rfl := Option.some.inj H
              have p312 : 0 ≤ (x5_1 : Int) := of_decide_eq_true (by assumption)
              have q312 : x5_1 < (l0.length : Int) := of_decide_eq_true (by assumption)
              obtain ⟨ad312, e312, hx312_0, hx312_1⟩ := at_T57 HR0.out x5_1 p312 q312
              cases e312
              replace p312 := eq_true p312
              replace q312 := eq_true q312
              have p313 : 0 ≤ (x5_1 : Int) := of_decide_eq_true (by assumption)
              have q313 : x5_1 < (l0.length : Int) := of_decide_eq_true (by assumption)
              obtain ⟨ad313, e313, hx313_0, hx313_1⟩ := at_T57 HR0.out x5_1 p313 q313
              obtain rfl : ad312 = ad313 := (by injection e313)
              replace p313 := eq_true p313
              replace q313 := eq_true q313
              go_wp2
              go_ret
              exact ⟨by first | rfl | (simp; done) | (simp [*]; done), by repeat (first | exact Drawn0.refl _ | apply Drawn0.step)⟩
          · rw [if_neg c5] at H
            have c5b0 : (((rd_T57 l0 x5_1).f0) == x1_1) = false := beq_eq_false_iff_ne.mpr c5
            have c5b1 : (((rd_T57 l0 x5_1).f0) != x1_1) = true := bne_iff_ne.mpr c5
            obtain rfl := Option.some.inj H
            have p312 : 0 ≤ (x5_1 : Int) := of_decide_eq_true (by assumption)
            have q312 : x5_1 < (l0.length : Int) := of_decide_eq_true (by assumption)
            obtain ⟨ad312, e312, hx312_0, hx312_1⟩ := at_T57 HR0.out x5_1 p312 q312
            cases e312
            replace p312 := eq_true p312
            replace q312 := eq_true q312
            go_wp2
            go_ret
            exact ⟨by first | rfl | (simp; done) | (simp [*]; done), by repeat (first | exact Drawn0.refl _ | apply Drawn0.step)⟩
        · rw [if_neg c4] at H
          exact absurd H (by simp)
      · rw [if_neg c3] at H
        have c3b0 : decide (x5_1 < (l0.length : Int)) = false := decide_eq_false c3
        clear c3
        obtain rfl := Option.some.inj H
        go_wp2
        go_ret
        exact ⟨by first | rfl | (simp; done) | (simp [*]; done), by repeat (first | exact Drawn0.refl _ | apply Drawn0.step)⟩

/-! ### laws_heldInt64S: function 42 -/
def laws_heldInt64S.l0 : Nat → List Int → Int → Int → Option (Int)
  | 0, _, _, _ => none
  | k + 1, x0, x1, x5 => if x5 < (x0.length : Int) then (if 0 ≤ x5 then (if (rd x0 x5) = x1 then (laws_heldInt64S.l0 k x0 (wrap64 (x1 + 1)) (wrap64 (x5 + 1))) else (some (-1))) else (none)) else (some x1)
def laws_heldInt64S.f (k : Nat) (l0 : List Int) (a1 : Int) : Option (Int) := laws_heldInt64S.l0 k l0 a1 0
set_option maxHeartbeats 8000000 in
set_option maxRecDepth 100000 in
theorem laws_heldInt64S.calls (k : Nat) (A0 : Option Addr) (c0 : Nat) (l0 : List Int) (a1 : Int) (r : Int) (w : World) (hr0 : Kd.C (Kd.int .i64) w A0 l0.length l0) (hc0 : l0.length ≤ c0) (h : laws_heldInt64S.f k l0 a1 = some r) :
    Calls Tryz.prog 42 #[.slice A0 l0.length c0, .int .i64 a1] w fun e w' => e = .returned (.int .i64 r) ∧ Drawn0 w w' := by
  have HR0 := Aside0.mk hr0
  have HC0 := Aside0.mk hc0
  clear hr0 hc0
  have H : (laws_heldInt64S.l0 k l0 a1 0) = some r := h
  clear h
  have H' := Aside0.mk H
  clear H
  go_enter Tryz.func42, Tryz.ntmps42
  go_wp2
  go_loopg [1, 5] k (fun kq v1 v5 w' => ∃ (x1_1 : Int) (x5_1 : Int), v1 = .int .i64 x1_1 ∧ v5 = .int .i64 x5_1 ∧ Aside0 (laws_heldInt64S.l0 kq l0 x1_1 x5_1 = some r) ∧ Aside0 (kq ≤ k) ∧ Drawn0 w w')
  case atStart => exact ⟨(a1), (0), (by first | rfl | (simp; done) | (simp [*]; done)), (by first | rfl | (simp; done) | (simp [*]; done)), H', ⟨Nat.le_refl _⟩, by repeat (first | exact Drawn0.refl _ | apply Drawn0.step)⟩
  case round =>
    clear H'
    try clear p2
    obtain ⟨x1_1, x5_1, rfl, rfl, HA, HK1, ⟨m1, rfl⟩⟩ := hrel
    cases gk with
    | zero => exact absurd HA.out (by simp [laws_heldInt64S.l0])
    | succ k1 =>
      have H := HA.out
      clear HA
      simp only [laws_heldInt64S.l0] at H
      by_cases c3 : x5_1 < (l0.length : Int)
      · rw [if_pos c3] at H
        have c3b0 : decide (x5_1 < (l0.length : Int)) = true := decide_eq_true c3
        clear c3
        by_cases c4 : 0 ≤ x5_1
        · rw [if_pos c4] at H
          have c4b0 : decide (0 ≤ x5_1) = true := decide_eq_true c4
          clear c4
          by_cases c5 : (rd l0 x5_1) = x1_1
          · rw [if_pos c5] at H
            have c5b0 : ((rd l0 x5_1) == x1_1) = true := beq_iff_eq.mpr c5
            have c5b1 : ((rd l0 x5_1) != x1_1) = false := bne_eq_false_iff_eq.mpr c5
            clear c5
            have H' := Aside0.mk H
            clear H
            have p314 : 0 ≤ (x5_1 : Int) := of_decide_eq_true (by assumption)
            have q314 : x5_1 < (l0.length : Int) := of_decide_eq_true (by assumption)
            obtain ⟨ad314, e314, hx314_0⟩ := Kd.at_int HR0.out x5_1 p314 q314
            cases e314
            replace p314 := eq_true p314
            replace q314 := eq_true q314
            go_wp2
            go_roundg k1
            case measure => have := HK1.out; omega
            case rel => exact ⟨(wrap64 (x1_1 + 1)), (wrap64 (x5_1 + 1)), (by first | rfl | (simp; done) | (simp [*]; done)), (by first | rfl | (simp; done) | (simp [*]; done)), H', ⟨by have := HK1.out; omega⟩, by repeat (first | exact Drawn0.refl _ | apply Drawn0.step)⟩
          · rw [if_neg c5] at H
            have c5b0 : ((rd l0 x5_1) == x1_1) = false := beq_eq_false_iff_ne.mpr c5
            have c5b1 : ((rd l0 x5_1) != x1_1) = true := bne_iff_ne.mpr c5
            obtain rfl := Option.some.inj H
            have p314 : 0 ≤ (x5_1 : Int) := of_decide_eq_true (by assumption)
            have q314 : x5_1 < (l0.length : Int) := of_decide_eq_true (by assumption)
            obtain ⟨ad314, e314, hx314_0⟩ := Kd.at_int HR0.out x5_1 p314 q314
            cases e314
            replace p314 := eq_true p314
            replace q314 := eq_true q314
            go_wp2
            go_ret
            exact ⟨by first | rfl | (simp; done) | (simp [*]; done), by repeat (first | exact Drawn0.refl _ | apply Drawn0.step)⟩
        · rw [if_neg c4] at H
          exact absurd H (by simp)
      · rw [if_neg c3] at H
        have c3b0 : decide (x5_1 < (l0.length : Int)) = false := decide_eq_false c3
        clear c3
        obtain rfl := Option.some.inj H
        go_wp2
        go_ret
        exact ⟨by first | rfl | (simp; done) | (simp [*]; done), by repeat (first | exact Drawn0.refl _ | apply Drawn0.step)⟩

/-! ### laws_heldBucketS: function 21 -/
def laws_heldBucketS.l0 : Nat → List (S49) → Int → Int → Option (Int)
  | 0, _, _, _ => none
  | k + 1, x0, x1, x5 => if x5 < (x0.length : Int) then (if 0 ≤ x5 then (if ((rd_T49 x0 x5).f0) = x1 then (if ((rd_T49 x0 x5).f1) = (wrap64 (x1 + 1)) then ((laws_heldInt64S.f k ((rd_T49 x0 x5).f2) (wrap64 ((wrap64 (x1 + 1)) + 1))).bind fun t318 => (if t318 < 0 then (some (-1)) else (laws_heldBucketS.l0 k x0 t318 (wrap64 (x5 + 1))))) else (some (-1))) else (some (-1))) else (none)) else (some x1)
def laws_heldBucketS.f (k : Nat) (l0 : List (S49)) (a1 : Int) : Option (Int) := laws_heldBucketS.l0 k l0 a1 0
set_option maxHeartbeats 8000000 in
set_option maxRecDepth 100000 in
theorem laws_heldBucketS.calls (k : Nat) (A0 : Option Addr) (c0 : Nat) (l0 : List (S49)) (a1 : Int) (r : Int) (w : World) (hr0 : Kd.C k49 w A0 l0.length l0) (hc0 : l0.length ≤ c0) (h : laws_heldBucketS.f k l0 a1 = some r) :
    Calls Tryz.prog 21 #[.slice A0 l0.length c0, .int .i64 a1] w fun e w' => e = .returned (.int .i64 r) ∧ Drawn0 w w' := by
  have HR0 := Aside0.mk hr0
  have HC0 := Aside0.mk hc0
  clear hr0 hc0
  have H : (laws_heldBucketS.l0 k l0 a1 0) = some r := h
  clear h
  have H' := Aside0.mk H
  clear H
  go_enter Tryz.func21, Tryz.ntmps21
  go_wp2
  go_loopg [1, 5] k (fun kq v1 v5 w' => ∃ (x1_1 : Int) (x5_1 : Int), v1 = .int .i64 x1_1 ∧ v5 = .int .i64 x5_1 ∧ Aside0 (laws_heldBucketS.l0 kq l0 x1_1 x5_1 = some r) ∧ Aside0 (kq ≤ k) ∧ Drawn0 w w')
  case atStart => exact ⟨(a1), (0), (by first | rfl | (simp; done) | (simp [*]; done)), (by first | rfl | (simp; done) | (simp [*]; done)), H', ⟨Nat.le_refl _⟩, by repeat (first | exact Drawn0.refl _ | apply Drawn0.step)⟩
  case round =>
    clear H'
    try clear c2
    try clear p2
    obtain ⟨x1_1, x5_1, rfl, rfl, HA, HK1, ⟨m1, rfl⟩⟩ := hrel
    cases gk with
    | zero => exact absurd HA.out (by simp [laws_heldBucketS.l0])
    | succ k1 =>
      have H := HA.out
      clear HA
      simp only [laws_heldBucketS.l0] at H
      by_cases c3 : x5_1 < (l0.length : Int)
      · rw [if_pos c3] at H
        have c3b0 : decide (x5_1 < (l0.length : Int)) = true := decide_eq_true c3
        clear c3
        by_cases c4 : 0 ≤ x5_1
        · rw [if_pos c4] at H
          have c4b0 : decide (0 ≤ x5_1) = true := decide_eq_true c4
          clear c4
          by_cases c5 : ((rd_T49 l0 x5_1).f0) = x1_1
          · rw [if_pos c5] at H
            have c5b0 : (((rd_T49 l0 x5_1).f0) == x1_1) = true := beq_iff_eq.mpr c5
            have c5b1 : (((rd_T49 l0 x5_1).f0) != x1_1) = false := bne_eq_false_iff_eq.mpr c5
            clear c5
            by_cases c6 : ((rd_T49 l0 x5_1).f1) = (wrap64 (x1_1 + 1))
            · rw [if_pos c6] at H
              have c6b0 : (((rd_T49 l0 x5_1).f1) == (wrap64 (x1_1 + 1))) = true := beq_iff_eq.mpr c6
              have c6b1 : (((rd_T49 l0 x5_1).f1) != (wrap64 (x1_1 + 1))) = false := bne_eq_false_iff_eq.mpr c6
              clear c6
              replace H := Option.bind_eq_some_iff.mp H
              obtain ⟨t318, A70, H⟩ := H
              set_option simprocs false in try dsimp only at H
              have A7 := Aside0.mk A70
              clear A70
              by_cases c8 : t318 < 0
              · rw [if_pos c8] at H
                have c8b0 : decide (t318 < 0) = true := decide_eq_true c8
                clear c8
                obtain rfl := Option.some.inj H
                have p315 : 0 ≤ (x5_1 : Int) := of_decide_eq_true (by assumption)
                have q315 : x5_1 < (l0.length : Int) := of_decide_eq_true (by assumption)
                obtain ⟨ad315, A315_2, c315_2, e315, hx315_0, hx315_1, hx315_2, hl315_2, hi315_2⟩ := at_T49 HR0.out x5_1 p315 q315
                cases e315
                have HR315_2 := Aside0.mk hi315_2
                have HC315_2 := Aside0.mk hl315_2
                clear hi315_2 hl315_2
                replace p315 := eq_true p315
                replace q315 := eq_true q315
                have p316 : 0 ≤ (x5_1 : Int) := of_decide_eq_true (by assumption)
                have q316 : x5_1 < (l0.length : Int) := of_decide_eq_true (by assumption)
                obtain ⟨ad316, A316_2, c316_2, e316, hx316_0, hx316_1, hx316_2, hl316_2, hi316_2⟩ := at_T49 HR0.out x5_1 p316 q316
                obtain rfl : ad315 = ad316 := (by injection e316)
                have HR316_2 := Aside0.mk hi316_2
                have HC316_2 := Aside0.mk hl316_2
                clear hi316_2 hl316_2
                replace p316 := eq_true p316
                replace q316 := eq_true q316
                have ea_ := Option.some.inj (hx315_2.symm.trans hx316_2)
                injection ea_ with ea_ en_ ec_
                subst ea_
                subst ec_
                clear en_
                have p317 : 0 ≤ (x5_1 : Int) := of_decide_eq_true (by assumption)
                have q317 : x5_1 < (l0.length : Int) := of_decide_eq_true (by assumption)
                obtain ⟨ad317, A317_2, c317_2, e317, hx317_0, hx317_1, hx317_2, hl317_2, hi317_2⟩ := at_T49 HR0.out x5_1 p317 q317
                obtain rfl : ad315 = ad317 := (by injection e317)
                have HR317_2 := Aside0.mk hi317_2
                have HC317_2 := Aside0.mk hl317_2
                clear hi317_2 hl317_2
                replace p317 := eq_true p317
                replace q317 := eq_true q317
                have ea_ := Option.some.inj (hx315_2.symm.trans hx317_2)
                injection ea_ with ea_ en_ ec_
                subst ea_
                subst ec_
                clear en_
                go_wp2_with (first | ((with_reducible refine gate_callee (f := 42) rfl ?_); refine goesL_ (some 36) rfl rfl Tryz.func42 (by kernel_rfl) rfl #[.slice A315_2 ((rd_T49 l0 x5_1).f2).length c315_2, .int .i64 (wrap64 ((wrap64 (x1_1 + 1)) + 1))] rfl (by (try simp only [List.map_toArray, List.map_cons, List.map_nil]); first | done | rfl) ?_; (with_reducible refine (laws_heldInt64S.calls k1 _ _ ((rd_T49 l0 x5_1).f2) (wrap64 ((wrap64 (x1_1 + 1)) + 1)) t318 _ ?side1 ?side2 A7.out).mono ?_); (case side1 => exact HR317_2.out); (case side2 => exact HC317_2.out); rintro e w' ⟨rfl, ⟨nd, rfl⟩⟩; refine ⟨_, rfl, ?_⟩))
                go_ret
                exact ⟨by first | rfl | (simp; done) | (simp [*]; done), by repeat (first | exact Drawn0.refl _ | apply Drawn0.step)⟩
              · rw [if_neg c8] at H
                have c8b0 : decide (t318 < 0) = false := decide_eq_false c8
                clear c8
                have H' := Aside0.mk H
                clear H
                have p315 : 0 ≤ (x5_1 : Int) := of_decide_eq_true (by assumption)
                have q315 : x5_1 < (l0.length : Int) := of_decide_eq_true (by assumption)
                obtain ⟨ad315, A315_2, c315_2, e315, hx315_0, hx315_1, hx315_2, hl315_2, hi315_2⟩ := at_T49 HR0.out x5_1 p315 q315
                cases e315
                have HR315_2 := Aside0.mk hi315_2
                have HC315_2 := Aside0.mk hl315_2
                clear hi315_2 hl315_2
                replace p315 := eq_true p315
                replace q315 := eq_true q315
                have p316 : 0 ≤ (x5_1 : Int) := of_decide_eq_true (by assumption)
                have q316 : x5_1 < (l0.length : Int) := of_decide_eq_true (by assumption)
                obtain ⟨ad316, A316_2, c316_2, e316, hx316_0, hx316_1, hx316_2, hl316_2, hi316_2⟩ := at_T49 HR0.out x5_1 p316 q316
                obtain rfl : ad315 = ad316 := (by injection e316)
                have HR316_2 := Aside0.mk hi316_2
                have HC316_2 := Aside0.mk hl316_2
                clear hi316_2 hl316_2
                replace p316 := eq_true p316
                replace q316 := eq_true q316
                have ea_ := Option.some.inj (hx315_2.symm.trans hx316_2)
                injection ea_ with ea_ en_ ec_
                subst ea_
                subst ec_
                clear en_
                have p317 : 0 ≤ (x5_1 : Int) := of_decide_eq_true (by assumption)
                have q317 : x5_1 < (l0.length : Int) := of_decide_eq_true (by assumption)
                obtain ⟨ad317, A317_2, c317_2, e317, hx317_0, hx317_1, hx317_2, hl317_2, hi317_2⟩ := at_T49 HR0.out x5_1 p317 q317
                obtain rfl : ad315 = ad317 := (by injection e317)
                have HR317_2 := Aside0.mk hi317_2
                have HC317_2 := Aside0.mk hl317_2
                clear hi317_2 hl317_2
                replace p317 := eq_true p317
                replace q317 := eq_true q317
                have ea_ := Option.some.inj (hx315_2.symm.trans hx317_2)
                injection ea_ with ea_ en_ ec_
                subst ea_
                subst ec_
                clear en_
                go_wp2_with (first | ((with_reducible refine gate_callee (f := 42) rfl ?_); refine goesL_ (some 36) rfl rfl Tryz.func42 (by kernel_rfl) rfl #[.slice A315_2 ((rd_T49 l0 x5_1).f2).length c315_2, .int .i64 (wrap64 ((wrap64 (x1_1 + 1)) + 1))] rfl (by (try simp only [List.map_toArray, List.map_cons, List.map_nil]); first | done | rfl) ?_; (with_reducible refine (laws_heldInt64S.calls k1 _ _ ((rd_T49 l0 x5_1).f2) (wrap64 ((wrap64 (x1_1 + 1)) + 1)) t318 _ ?side1 ?side2 A7.out).mono ?_); (case side1 => exact HR317_2.out); (case side2 => exact HC317_2.out); rintro e w' ⟨rfl, ⟨nd, rfl⟩⟩; refine ⟨_, rfl, ?_⟩))
                go_roundg k1
                case measure => have := HK1.out; omega
                case rel => exact ⟨(t318), (wrap64 (x5_1 + 1)), (by first | rfl | (simp; done) | (simp [*]; done)), (by first | rfl | (simp; done) | (simp [*]; done)), H', ⟨by have := HK1.out; omega⟩, by repeat (first | exact Drawn0.refl _ | apply Drawn0.step)⟩
            · rw [if_neg c6] at H
              have c6b0 : (((rd_T49 l0 x5_1).f1) == (wrap64 (x1_1 + 1))) = false := beq_eq_false_iff_ne.mpr c6
              have c6b1 : (((rd_T49 l0 x5_1).f1) != (wrap64 (x1_1 + 1))) = true := bne_iff_ne.mpr c6
              obtain rfl := Option.some.inj H
              have p315 : 0 ≤ (x5_1 : Int) := of_decide_eq_true (by assumption)
              have q315 : x5_1 < (l0.length : Int) := of_decide_eq_true (by assumption)
              obtain ⟨ad315, A315_2, c315_2, e315, hx315_0, hx315_1, hx315_2, hl315_2, hi315_2⟩ := at_T49 HR0.out x5_1 p315 q315
              cases e315
              have HR315_2 := Aside0.mk hi315_2
              have HC315_2 := Aside0.mk hl315_2
              clear hi315_2 hl315_2
              replace p315 := eq_true p315
              replace q315 := eq_true q315
              have p316 : 0 ≤ (x5_1 : Int) := of_decide_eq_true (by assumption)
              have q316 : x5_1 < (l0.length : Int) := of_decide_eq_true (by assumption)
              obtain ⟨ad316, A316_2, c316_2, e316, hx316_0, hx316_1, hx316_2, hl316_2, hi316_2⟩ := at_T49 HR0.out x5_1 p316 q316
              obtain rfl : ad315 = ad316 := (by injection e316)
              have HR316_2 := Aside0.mk hi316_2
              have HC316_2 := Aside0.mk hl316_2
              clear hi316_2 hl316_2
              replace p316 := eq_true p316
              replace q316 := eq_true q316
              have ea_ := Option.some.inj (hx315_2.symm.trans hx316_2)
              injection ea_ with ea_ en_ ec_
              subst ea_
              subst ec_
              clear en_
              go_wp2
              go_ret
              exact ⟨by first | rfl | (simp; done) | (simp [*]; done), by repeat (first | exact Drawn0.refl _ | apply Drawn0.step)⟩
          · rw [if_neg c5] at H
            have c5b0 : (((rd_T49 l0 x5_1).f0) == x1_1) = false := beq_eq_false_iff_ne.mpr c5
            have c5b1 : (((rd_T49 l0 x5_1).f0) != x1_1) = true := bne_iff_ne.mpr c5
            obtain rfl := Option.some.inj H
            have p315 : 0 ≤ (x5_1 : Int) := of_decide_eq_true (by assumption)
            have q315 : x5_1 < (l0.length : Int) := of_decide_eq_true (by assumption)
            obtain ⟨ad315, A315_2, c315_2, e315, hx315_0, hx315_1, hx315_2, hl315_2, hi315_2⟩ := at_T49 HR0.out x5_1 p315 q315
            cases e315
            have HR315_2 := Aside0.mk hi315_2
            have HC315_2 := Aside0.mk hl315_2
            clear hi315_2 hl315_2
            replace p315 := eq_true p315
            replace q315 := eq_true q315
            go_wp2
            go_ret
            exact ⟨by first | rfl | (simp; done) | (simp [*]; done), by repeat (first | exact Drawn0.refl _ | apply Drawn0.step)⟩
        · rw [if_neg c4] at H
          exact absurd H (by simp)
      · rw [if_neg c3] at H
        have c3b0 : decide (x5_1 < (l0.length : Int)) = false := decide_eq_false c3
        clear c3
        obtain rfl := Option.some.inj H
        go_wp2
        go_ret
        exact ⟨by first | rfl | (simp; done) | (simp [*]; done), by repeat (first | exact Drawn0.refl _ | apply Drawn0.step)⟩

/-! ### laws_heldTree: function 8 -/
def laws_heldTree.f (k : Nat) (l0_0 : List (S57)) (l0_1 : List (S49)) (a1 : Int) : Option (Int) := (laws_heldDeviceS.f k l0_0 a1).bind fun t320 => (if t320 < 0 then (some (-1)) else ((laws_heldBucketS.f k l0_1 t320).bind fun t321 => (if t321 < 0 then (some (-1)) else (some t321))))
set_option maxHeartbeats 8000000 in
set_option maxRecDepth 100000 in
theorem laws_heldTree.calls (k : Nat) (A0_0 : Option Addr) (c0_0 : Nat) (l0_0 : List (S57)) (A0_1 : Option Addr) (c0_1 : Nat) (l0_1 : List (S49)) (a1 : Int) (r : Int) (w : World) (hr0_0 : Kd.C k57 w A0_0 l0_0.length l0_0) (hc0_0 : l0_0.length ≤ c0_0) (hr0_1 : Kd.C k49 w A0_1 l0_1.length l0_1) (hc0_1 : l0_1.length ≤ c0_1) (h : laws_heldTree.f k l0_0 l0_1 a1 = some r) :
    Calls Tryz.prog 8 #[.agg #[.slice A0_0 l0_0.length c0_0, .slice A0_1 l0_1.length c0_1], .int .i64 a1] w fun e w' => e = .returned (.int .i64 r) ∧ Below w.heap.size w w' := by
  have hu25 := Tryz.underlying25
  have HR0_0 := Aside0.mk hr0_0
  have HC0_0 := Aside0.mk hc0_0
  clear hr0_0 hc0_0
  have HR0_1 := Aside0.mk hr0_1
  have HC0_1 := Aside0.mk hc0_1
  clear hr0_1 hc0_1
  have HB := Aside0.mk (Below.refl w.heap.size w)
  have H : ((laws_heldDeviceS.f k l0_0 a1).bind fun t320 => (if t320 < 0 then (some (-1)) else ((laws_heldBucketS.f k l0_1 t320).bind fun t321 => (if t321 < 0 then (some (-1)) else (some t321))))) = some r := h
  clear h
  replace H := Option.bind_eq_some_iff.mp H
  obtain ⟨t320, A30, H⟩ := H
  set_option simprocs false in try dsimp only at H
  have A3 := Aside0.mk A30
  clear A30
  by_cases c4 : t320 < 0
  · rw [if_pos c4] at H
    have c4b0 : decide (t320 < 0) = true := decide_eq_true c4
    clear c4
    obtain rfl := Option.some.inj H
    go_enter Tryz.func8, Tryz.ntmps8
    go_wp2_with (first | ((with_reducible refine gate_dst (N := 2) rfl ?_); refine box_event ?hg (N := 2) ?hd (cs := #[.slice A0_0 l0_0.length c0_0, .slice A0_1 l0_1.length c0_1]) (t := 25) ?hr ?_; (case hd => rfl); (case hg => rfl); (case hr => first | (go_simp; done) | (go_simp; rfl)); intro gb319 hg w5 hbox hb; have n0_ := Aside0.mk (below_step (by repeat first | exact HB.out | apply pw_below_drewN) hb); have n1_ := Aside0.mk (hbox); clear HB; have HB := n0_; have BK319 := n1_; clear n0_ n1_; clear hb hbox hg; have hcz6_0 := (blk_cell BK319.out 0).trans rfl; have hcz6_1 := (blk_cell BK319.out 1).trans rfl) | ((with_reducible refine gate_callee (f := 20) rfl ?_); refine goesL_ (some 8) rfl rfl Tryz.func20 (by kernel_rfl) rfl #[.slice A0_0 l0_0.length c0_0, .int .i64 a1] rfl (by (try simp only [List.map_toArray, List.map_cons, List.map_nil]); first | done | rfl) ?_; (with_reducible refine (laws_heldDeviceS.calls k _ _ l0_0 a1 t320 _ ?side1 ?side2 A3.out).mono ?_); (case side1 => exact (Kd.C_below HR0_0.out HB.out)); (case side2 => exact HC0_0.out); rintro e w' ⟨rfl, ⟨nd, rfl⟩⟩; refine ⟨_, rfl, ?_⟩))
    go_ret
    exact ⟨by first | rfl | (simp [*, errW_none, errW_some] <;> rfl), by repeat first | exact HB.out | apply pw_below_drewN⟩
  · rw [if_neg c4] at H
    have c4b0 : decide (t320 < 0) = false := decide_eq_false c4
    clear c4
    replace H := Option.bind_eq_some_iff.mp H
    obtain ⟨t321, A70, H⟩ := H
    set_option simprocs false in try dsimp only at H
    have A7 := Aside0.mk A70
    clear A70
    by_cases c8 : t321 < 0
    · rw [if_pos c8] at H
      have c8b0 : decide (t321 < 0) = true := decide_eq_true c8
      clear c8
      obtain rfl := Option.some.inj H
      go_enter Tryz.func8, Tryz.ntmps8
      go_wp2_with (first | ((with_reducible refine gate_dst (N := 2) rfl ?_); refine box_event ?hg (N := 2) ?hd (cs := #[.slice A0_0 l0_0.length c0_0, .slice A0_1 l0_1.length c0_1]) (t := 25) ?hr ?_; (case hd => rfl); (case hg => rfl); (case hr => first | (go_simp; done) | (go_simp; rfl)); intro gb319 hg w9 hbox hb; have n0_ := Aside0.mk (below_step (by repeat first | exact HB.out | apply pw_below_drewN) hb); have n1_ := Aside0.mk (hbox); clear HB; have HB := n0_; have BK319 := n1_; clear n0_ n1_; clear hb hbox hg; have hcz10_0 := (blk_cell BK319.out 0).trans rfl; have hcz10_1 := (blk_cell BK319.out 1).trans rfl) | ((with_reducible refine gate_callee (f := 20) rfl ?_); refine goesL_ (some 8) rfl rfl Tryz.func20 (by kernel_rfl) rfl #[.slice A0_0 l0_0.length c0_0, .int .i64 a1] rfl (by (try simp only [List.map_toArray, List.map_cons, List.map_nil]); first | done | rfl) ?_; (with_reducible refine (laws_heldDeviceS.calls k _ _ l0_0 a1 t320 _ ?side1 ?side2 A3.out).mono ?_); (case side1 => exact (Kd.C_below HR0_0.out HB.out)); (case side2 => exact HC0_0.out); rintro e w' ⟨rfl, ⟨nd, rfl⟩⟩; refine ⟨_, rfl, ?_⟩) | ((with_reducible refine gate_callee (f := 21) rfl ?_); refine goesL_ (some 14) rfl rfl Tryz.func21 (by kernel_rfl) rfl #[.slice A0_1 l0_1.length c0_1, .int .i64 t320] rfl (by (try simp only [List.map_toArray, List.map_cons, List.map_nil]); first | done | rfl) ?_; (with_reducible refine (laws_heldBucketS.calls k _ _ l0_1 t320 t321 _ ?side1 ?side2 A7.out).mono ?_); (case side1 => exact (Kd.C_below HR0_1.out (by repeat first | exact HB.out | apply pw_below_drewN))); (case side2 => exact HC0_1.out); rintro e w' ⟨rfl, ⟨nd, rfl⟩⟩; refine ⟨_, rfl, ?_⟩))
      go_ret
      exact ⟨by first | rfl | (simp [*, errW_none, errW_some] <;> rfl), by repeat first | exact HB.out | apply pw_below_drewN⟩
    · rw [if_neg c8] at H
      have c8b0 : decide (t321 < 0) = false := decide_eq_false c8
      clear c8
      obtain rfl := Option.some.inj H
      go_enter Tryz.func8, Tryz.ntmps8
      go_wp2_with (first | ((with_reducible refine gate_dst (N := 2) rfl ?_); refine box_event ?hg (N := 2) ?hd (cs := #[.slice A0_0 l0_0.length c0_0, .slice A0_1 l0_1.length c0_1]) (t := 25) ?hr ?_; (case hd => rfl); (case hg => rfl); (case hr => first | (go_simp; done) | (go_simp; rfl)); intro gb319 hg w11 hbox hb; have n0_ := Aside0.mk (below_step (by repeat first | exact HB.out | apply pw_below_drewN) hb); have n1_ := Aside0.mk (hbox); clear HB; have HB := n0_; have BK319 := n1_; clear n0_ n1_; clear hb hbox hg; have hcz12_0 := (blk_cell BK319.out 0).trans rfl; have hcz12_1 := (blk_cell BK319.out 1).trans rfl) | ((with_reducible refine gate_callee (f := 20) rfl ?_); refine goesL_ (some 8) rfl rfl Tryz.func20 (by kernel_rfl) rfl #[.slice A0_0 l0_0.length c0_0, .int .i64 a1] rfl (by (try simp only [List.map_toArray, List.map_cons, List.map_nil]); first | done | rfl) ?_; (with_reducible refine (laws_heldDeviceS.calls k _ _ l0_0 a1 t320 _ ?side1 ?side2 A3.out).mono ?_); (case side1 => exact (Kd.C_below HR0_0.out HB.out)); (case side2 => exact HC0_0.out); rintro e w' ⟨rfl, ⟨nd, rfl⟩⟩; refine ⟨_, rfl, ?_⟩) | ((with_reducible refine gate_callee (f := 21) rfl ?_); refine goesL_ (some 14) rfl rfl Tryz.func21 (by kernel_rfl) rfl #[.slice A0_1 l0_1.length c0_1, .int .i64 t320] rfl (by (try simp only [List.map_toArray, List.map_cons, List.map_nil]); first | done | rfl) ?_; (with_reducible refine (laws_heldBucketS.calls k _ _ l0_1 t320 t321 _ ?side1 ?side2 A7.out).mono ?_); (case side1 => exact (Kd.C_below HR0_1.out (by repeat first | exact HB.out | apply pw_below_drewN))); (case side2 => exact HC0_1.out); rintro e w' ⟨rfl, ⟨nd, rfl⟩⟩; refine ⟨_, rfl, ?_⟩))
      go_ret
      exact ⟨by first | rfl | (simp [*, errW_none, errW_some] <;> rfl), by repeat first | exact HB.out | apply pw_below_drewN⟩

end Go.Proofs.YtohjpgcmhihdhaaGreatDoor.Q

namespace Go.Proofs.YtohjpgcmhihdhaaGreatDoor.Pure
open Go.RowKit Go.Proofs.YtohjpgcmhihdhaaGreatDoor.Q Go.Proofs.YtohjpgcmhihdhaaGreatDoorW.PrintWords Go.Proofs.YtohjpgcmhihdhaaGreatDoorW.PrintLast Go.Proofs.YtohjpgcmhihdhaaGreatDoorW.PrintMore
set_option linter.unusedVariables false
set_option linter.unusedSimpArgs false
theorem wrapN (m : Nat) (h : m ≤ 4611686018427387904) : wrap64 ((m : Int) + 1) = ((m + 1 : Nat) : Int) := by unfold wrap64; omega
theorem markInts_ev (l : List Int) (c : Nat) (hl : l.length ≤ 1048576) (hc : c ≤ 1152921504606846976) : Ev (fun k => laws_markInt64S.f k l c) (((c + l.length : Nat) : Int), cnt c l.length) :=
  mark_loop l.length c (by omega) (fun k s i => laws_markInt64S.l0 k s.1 s.2 i) (fun k i x m hi hx hm => by
    simp only [laws_markInt64S.l0]
    rw [if_pos (by omega), if_pos (by omega), up64 i l.length hi (by omega), wrapN m hm, Int.toNat_natCast]) (fun k x m hx => by
    simp only [laws_markInt64S.l0]
    rw [if_neg (by omega)]) l rfl
theorem heldInts_ev (c n : Nat) (hn : n ≤ 1048576) (hc : c ≤ 1152921504606846976) : Ev (fun k => laws_heldInt64S.f k (cnt c n) c) ((c + n : Nat) : Int) :=
  held_loop n c (by omega) (fun k m i => laws_heldInt64S.l0 k (cnt c n) m i) (fun k i hi => by
    simp only [laws_heldInt64S.l0]
    rw [if_pos (by rw [cnt_length]; omega), if_pos (by omega), rd_get _ i (by rw [cnt_length]; omega), cnt_get, if_pos rfl, up64 i n hi (by omega), wrapN (c + i) (by omega)]) (fun k m => by
    simp only [laws_heldInt64S.l0]
    rw [if_neg (by rw [cnt_length]; omega)])
theorem rdD_mid (pre r : List S57) (y : S57) : rd_T57 (pre ++ y :: r) (pre.length : Int) = y := by
  rw [rd_dev _ pre.length (by simp)]
  simp
theorem rdB_mid (pre r : List S49) (y : S49) : rd_T49 (pre ++ y :: r) (pre.length : Int) = y := by
  rw [rd_bkt _ pre.length (by simp)]
  simp
theorem set_mid {α : Type} (pre r : List α) (y z : α) : (pre ++ y :: r).set pre.length z = pre ++ z :: r := by simp
theorem one_more {α : Type} (pre r : List α) (z : α) : pre ++ z :: r = (pre ++ [z]) ++ r := by simp
def mkD : Nat → Nat → List S57
  | _, 0 => []
  | c, n + 1 => ⟨(c : Int), ((c + 1 : Nat) : Int)⟩ :: mkD (c + 2) n
def mkB : Nat → List Nat → List S49
  | _, [] => []
  | c, n :: r => ⟨(c : Int), ((c + 1 : Nat) : Int), cnt (c + 2) n⟩ :: mkB (c + 2 + n) r
def endB : Nat → List Nat → Nat
  | c, [] => c
  | c, n :: r => endB (c + 2 + n) r
theorem up_len {α : Type} (pre : List α) (z : α) (h : pre.length ≤ 1000000) : wrap64 ((pre.length : Int) + 1) = (((pre ++ [z]).length : Nat) : Int) := by
  rw [List.length_append]
  unfold wrap64
  simp
  omega
theorem markD_go : ∀ (suf pre : List S57) (c : Nat), c + 2 * suf.length ≤ 1000000 → pre.length + suf.length ≤ 1000 → Ev (fun k => laws_markDeviceS.l0 k (pre ++ suf) c pre.length) (((c + 2 * suf.length : Nat) : Int), pre ++ mkD c suf.length)
  | [], pre, c, hc, hl => by
    refine ev_end (fun k => ?_)
    simp only [laws_markDeviceS.l0]
    rw [if_neg (by simp)]
    simp [mkD]
  | y :: r, pre, c, hc, hl => by
    rw [List.length_cons] at hc hl
    have ih := markD_go r (pre ++ [⟨(c : Int), ((c + 1 : Nat) : Int)⟩]) (c + 2) (by omega) (by rw [List.length_append]; simp; omega)
    rw [← one_more] at ih
    have er : (((c + 2 + 2 * r.length : Nat) : Int), (pre ++ [(⟨(c : Int), ((c + 1 : Nat) : Int)⟩ : S57)]) ++ mkD (c + 2) r.length) = (((c + 2 * (y :: r).length : Nat) : Int), pre ++ mkD c (y :: r).length) := by
      rw [← one_more, List.length_cons, show c + 2 + 2 * r.length = c + 2 * (r.length + 1) by omega]
      rfl
    rw [er] at ih
    refine Ev.step (fun k => ?_) ih
    simp only [laws_markDeviceS.l0, Option.bind_some, Int.toNat_natCast]
    rw [if_pos (by simp; omega), if_pos (by omega), set_mid, rdD_mid, rdD_mid, set_mid, wrapN c (by omega), wrapN (c + 1) (by omega), up_len pre _ (by omega)]
theorem heldD_go : ∀ (n : Nat) (pre : List S57) (c : Nat), c + 2 * n ≤ 1000000 → pre.length + n ≤ 1000 → Ev (fun k => laws_heldDeviceS.l0 k (pre ++ mkD c n) c pre.length) ((c + 2 * n : Nat) : Int)
  | 0, pre, c, hc, hl => by
    refine ev_end (fun k => ?_)
    simp only [laws_heldDeviceS.l0]
    rw [if_neg (by simp [mkD])]
    simp
  | n + 1, pre, c, hc, hl => by
    have ih := heldD_go n (pre ++ [⟨(c : Int), ((c + 1 : Nat) : Int)⟩]) (c + 2) (by omega) (by rw [List.length_append]; simp; omega)
    rw [← one_more, show c + 2 + 2 * n = c + 2 * (n + 1) by omega] at ih
    show Ev (fun k => laws_heldDeviceS.l0 k (pre ++ (⟨(c : Int), ((c + 1 : Nat) : Int)⟩ : S57) :: mkD (c + 2) n) c pre.length) _
    refine Ev.step (fun k => ?_) ih
    simp only [laws_heldDeviceS.l0]
    rw [if_pos (by simp; omega), if_pos (by omega), rdD_mid, if_pos rfl, wrapN c (by omega), if_pos rfl, wrapN (c + 1) (by omega), up_len pre _ (by omega)]
theorem markB_go : ∀ (suf pre : List S49) (c : Nat), c + 1002 * suf.length ≤ 10000000 → pre.length + suf.length ≤ 1000 → (∀ x ∈ suf, x.f2.length ≤ 1000) → Ev (fun k => markBQ.l0 k (pre ++ suf) c pre.length) (((endB c (suf.map (·.f2.length)) : Nat) : Int), pre ++ mkB c (suf.map (·.f2.length)))
  | [], pre, c, hc, hl, hs => by
    refine ev_end (fun k => ?_)
    simp only [markBQ.l0]
    rw [if_neg (by simp)]
    simp [mkB, endB]
  | y :: r, pre, c, hc, hl, hs => by
    rw [List.length_cons] at hc hl
    have hy := hs y (by simp)
    have ih := markB_go r (pre ++ [⟨(c : Int), ((c + 1 : Nat) : Int), cnt (c + 2) y.f2.length⟩]) (c + 2 + y.f2.length) (by omega) (by rw [List.length_append]; simp; omega) (fun x hx => hs x (by simp [hx]))
    rw [← one_more] at ih
    have er : (((endB (c + 2 + y.f2.length) (r.map (·.f2.length)) : Nat) : Int), (pre ++ [(⟨(c : Int), ((c + 1 : Nat) : Int), cnt (c + 2) y.f2.length⟩ : S49)]) ++ mkB (c + 2 + y.f2.length) (r.map (·.f2.length))) = (((endB c ((y :: r).map (·.f2.length)) : Nat) : Int), pre ++ mkB c ((y :: r).map (·.f2.length))) := by
      rw [← one_more]
      rfl
    rw [er] at ih
    have hm := markInts_ev y.f2 (c + 2) (by omega) (by omega)
    refine Ev.step (f := fun k => (laws_markInt64S.f k y.f2 ((c + 2 : Nat) : Int)).bind fun m => markBQ.l0 k (pre ++ (⟨(c : Int), ((c + 1 : Nat) : Int), m.2⟩ : S49) :: r) m.1 (((pre ++ [y]).length : Nat) : Int)) (fun k => ?_) ?_
    · simp only [markBQ.l0, Int.toNat_natCast]
      rw [if_pos (by simp; omega), if_pos (by omega), rdB_mid, wrapN c (by omega), wrapN (c + 1) (by omega), up_len pre y (by omega)]
      simp only [set_mid]
    · refine Ev.bind hm ?_
      have e : (((pre ++ [y]).length : Nat) : Int) = (((pre ++ [(⟨(c : Int), ((c + 1 : Nat) : Int), cnt (c + 2) y.f2.length⟩ : S49)]).length : Nat) : Int) := by simp
      rw [e]
      exact ih
theorem heldB_go : ∀ (ns : List Nat) (pre : List S49) (c : Nat), c + 1002 * ns.length ≤ 10000000 → pre.length + ns.length ≤ 1000 → (∀ n ∈ ns, n ≤ 1000) → Ev (fun k => laws_heldBucketS.l0 k (pre ++ mkB c ns) c pre.length) ((endB c ns : Nat) : Int)
  | [], pre, c, hc, hl, hs => by
    refine ev_end (fun k => ?_)
    simp only [laws_heldBucketS.l0]
    rw [if_neg (by simp [mkB])]
    simp [endB]
  | n :: r, pre, c, hc, hl, hs => by
    rw [List.length_cons] at hc hl
    have hy := hs n (by simp)
    have ih := heldB_go r (pre ++ [⟨(c : Int), ((c + 1 : Nat) : Int), cnt (c + 2) n⟩]) (c + 2 + n) (by omega) (by rw [List.length_append]; simp; omega) (fun x hx => hs x (by simp [hx]))
    rw [← one_more] at ih
    have hh := heldInts_ev (c + 2) n (by omega) (by omega)
    show Ev (fun k => laws_heldBucketS.l0 k (pre ++ (⟨(c : Int), ((c + 1 : Nat) : Int), cnt (c + 2) n⟩ : S49) :: mkB (c + 2 + n) r) c pre.length) _
    refine Ev.step (f := fun k => (laws_heldInt64S.f k (cnt (c + 2) n) ((c + 2 : Nat) : Int)).bind fun t => if t < 0 then some (-1) else laws_heldBucketS.l0 k (pre ++ (⟨(c : Int), ((c + 1 : Nat) : Int), cnt (c + 2) n⟩ : S49) :: mkB (c + 2 + n) r) t (((pre ++ [(⟨(c : Int), ((c + 1 : Nat) : Int), cnt (c + 2) n⟩ : S49)]).length : Nat) : Int)) (fun k => ?_) ?_
    · simp only [laws_heldBucketS.l0]
      rw [if_pos (by simp; omega), if_pos (by omega), rdB_mid, if_pos rfl, wrapN c (by omega), if_pos rfl, wrapN (c + 1) (by omega), up_len pre _ (by omega)]
    · refine Ev.bind hh ?_
      simp only [if_neg (show ¬ ((c + 2 + n : Nat) : Int) < 0 by omega)]
      exact ih
/-- the marks of a topology, and that they are held -/
theorem marks_ev (D : List S57) (B : List S49) (hD : D.length ≤ 100) (hB : B.length ≤ 100) (hi : ∀ x ∈ B, x.f2.length ≤ 100) : ∃ (m : Nat) (D' : List S57) (B' : List S49), Ev (fun k => markTQ.f k D B 1) ((m : Int), (D', B')) ∧ Ev (fun k => laws_heldTree.f k D' B' 1) (m : Int) := by
  have h1 := markD_go D [] 1 (by omega) (by simp; omega)
  have h2 := markB_go B [] (1 + 2 * D.length) (by omega) (by simp; omega) (fun x hx => by have := hi x hx; omega)
  have h3 := heldD_go D.length [] 1 (by omega) (by simp; omega)
  have h4 := heldB_go (B.map (·.f2.length)) [] (1 + 2 * D.length) (by rw [List.length_map]; omega) (by simp; omega) (fun n hn => by
    obtain ⟨x, hx, rfl⟩ := List.mem_map.1 hn
    have := hi x hx
    omega)
  refine ⟨endB (1 + 2 * D.length) (B.map (·.f2.length)), mkD 1 D.length, mkB (1 + 2 * D.length) (B.map (·.f2.length)), ?_, ?_⟩
  · unfold markTQ.f laws_markDeviceS.f markBQ.f
    refine Ev.bind h1 ?_
    obtain ⟨K, hK⟩ := h2
    exact ⟨K, fun k hk => by
      have := hK k hk
      simp only [List.nil_append] at this ⊢
      rw [show ((([] : List S49).length : Nat) : Int) = 0 from rfl] at this
      rw [this]
      rfl⟩
  · unfold laws_heldTree.f laws_heldDeviceS.f laws_heldBucketS.f
    refine Ev.bind h3 ?_
    simp only [if_neg (show ¬ ((1 + 2 * D.length : Nat) : Int) < 0 by omega)]
    refine Ev.bind h4 ?_
    simp only [if_neg (show ¬ ((endB (1 + 2 * D.length) (B.map (·.f2.length)) : Nat) : Int) < 0 by omega)]
    exact Ev.now _
theorem eqT_self (D : List S57) (B : List S49) (hD : D.length ≤ 100) (hB : B.length ≤ 100) (hi : ∀ x ∈ B, x.f2.length ≤ 100) : Ev (fun k => laws_eqTree.f k D B D B) true := by
  unfold laws_eqTree.f
  refine Ev.bind (eqDeviceS_ev D (by omega)) ?_
  simp only [if_true]
  refine Ev.bind (eqBucketS_ev B (by omega) (fun x hx => by have := hi x hx; omega)) ?_
  simp only [if_true]
  exact Ev.now _

/-- both readings of a text come to one topology and one code -/
structure Same (s : ByteArray) (D : List S57) (B : List S49) (c : Int) : Prop where
  d : D.length ≤ 100
  b : B.length ≤ 100
  i : ∀ x ∈ B, x.f2.length ≤ 100
  sp : ∀ e w w', RtOut s e w w' → ∃ u0 u1, e = .returned (.tuple #[.agg #[u0, u1], .int .i64 c]) ∧ Below w.heap.size w w' ∧ Kd.R k57 57 w' w.heap.size (fun _ => True) u0 D ∧ Kd.S k49 49 w' w.heap.size (fun _ => True) u1 B
  im : ∀ e w w', ReadOut s treeOkB e w w' → ∃ u0 u1, e = .returned (.tuple #[.agg #[u0, u1], .int .i64 c]) ∧ Below w.heap.size w w' ∧ Kd.R k57 57 w' w.heap.size (fun _ => True) u0 D ∧ Kd.S kqB 49 w' w.heap.size (fun _ => True) u1 B
theorem same_res (s : ByteArray) : ∃ D B c, Same s D B c := by
  cases h : spRead s with
  | none =>
    refine ⟨[], [], 7, by simp, by simp, by simp, fun e w w' ho => ?_, fun e w w' ho => ?_⟩
    · rcases ho with ⟨D, B, u0, u1, h1, -⟩ | ⟨-, rfl, hb⟩
      · rw [h] at h1; cases h1
      · exact ⟨_, _, rfl, hb, Kd.R_nil _ _ _ _ _, Kd.S_nil _ _ _ _ _⟩
    · obtain ⟨rfl, hb⟩ := read_none h ho
      exact ⟨_, _, rfl, hb, Kd.R_nil _ _ _ _ _, Kd.S_nil _ _ _ _ _⟩
  | some y =>
    obtain ⟨D, B⟩ := y
    have V := valid_of D B (spRead_valid h).1
    refine ⟨D, B, 0, by have := V.dev; omega, by have := V.bkt; omega, fun x hx => ?_, fun e w w' ho => ?_, fun e w w' ho => read_some h ho⟩
    · obtain ⟨i, hi, rfl⟩ := List.getElem_of_mem hx
      have := (V.bkts i hi).2.2
      omega
    · rcases ho with ⟨D1, B1, u0, u1, h1, rfl, h2, h3, hb⟩ | ⟨h1, -⟩
      · rw [h] at h1
        injection h1 with h1
        injection h1 with e1 e2
        subst e1
        subst e2
        exact ⟨u0, u1, rfl, hb, h2, h3⟩
      · rw [h] at h1; cases h1
def Ty (W : World) (q : Nat) (k : Nat) : Prop := ∃ cells, W.heap[k]? = some (.cells cells q (0, 0))
set_option maxHeartbeats 8000000 in
set_option maxRecDepth 100000 in
theorem lawRead_at (s : ByteArray) (w : World) (hD : DoorW w) :
    Calls Tryz.prog 3 #[.string s] w fun e w' => e = .returned (.bool true) ∧ Below w.heap.size w w' := by
  have HD := Aside0.mk hD
  clear hD
  by_cases cl : (s.size : Int) > 1048576
  case pos =>
    have cb := decide_eq_true (show 1048576 < (s.size : Int) by omega)
    have cn := decide_eq_true (show 1048576 < s.size by omega)
    clear cl
    go_enter Tryz.func3, Tryz.ntmps3
    go_wp2_with fail
    go_ret
    exact ⟨rfl, Below.refl _ _⟩
  have HS := Aside0.mk (show s.size ≤ 1048576 by omega)
  have cb := decide_eq_false (show ¬ 1048576 < (s.size : Int) by omega)
  have cn := decide_eq_false (show ¬ 1048576 < s.size by omega)
  clear cl
  obtain ⟨D, B, c, hsame⟩ := same_res s
  have HSM := Aside0.mk hsame
  obtain ⟨m, D', B', ⟨K1, hm⟩, ⟨K2, hh⟩⟩ := marks_ev D B hsame.d hsame.b hsame.i
  obtain ⟨K3, he⟩ := eqT_self D B hsame.d hsame.b hsame.i
  obtain ⟨k, hk⟩ : ∃ k, k = K1 + K2 + K3 := ⟨_, rfl⟩
  have HM := Aside0.mk (hm k (by omega))
  have HH := Aside0.mk (hh k (by omega))
  have HE := Aside0.mk (he k (by omega))
  clear hsame hm hh he hk
  go_enter Tryz.func3, Tryz.ntmps3
  go_wp2_with fail
  refine (specRT_at s w HS.out).mono ?_
  intro e w1 ho
  obtain ⟨x0, x1, rfl, hb, h0, h1⟩ := HSM.out.sp e w w1 ho
  obtain ⟨X0, cx0, ex0⟩ := Kd.R_slice h0
  obtain ⟨X1, cx1, ex1⟩ := Kd.S_slice h1
  subst ex0 ex1
  obtain ⟨-, hl0, hC0⟩ := Kd.R_reads' h0
  obtain ⟨-, hl1, hC1⟩ := Kd.S_reads' h1
  have HL0 := Aside0.mk hl0
  have HL1 := Aside0.mk hl1
  have HB := Aside0.mk hb
  have HX0 := Aside0.mk hC0
  have HX1 := Aside0.mk hC1
  clear ho h0 h1 hl0 hl1 hC0 hC1 hb cb cn
  go_wp2_with fail
  have hb := below_alloc (Below.refl w1.heap.size w1) (.cells #[.slice X0 D.length cx0, .slice X1 B.length cx1] 25)
  have BX := Aside0.mk (blk_new w1 (.cells #[.slice X0 D.length cx0, .slice X1 B.length cx1] 25))
  replace HB := Aside0.mk (below_step HB.out hb)
  replace HX0 := Aside0.mk (Kd.C_below HX0.out hb)
  replace HX1 := Aside0.mk (Kd.C_below HX1.out hb)
  clear hb
  generalize (w1.alloc (.cells #[.slice X0 D.length cx0, .slice X1 B.length cx1] 25)) = w2 at HB HX0 HX1 BX ⊢
  generalize w1.heap.size = gx at BX ⊢
  refine (readTree_at s w2 HS.out (HD.out.on HB.out) treeOkB (read_ok s HS.out)).mono ?_
  intro e w3 ho
  obtain ⟨g0, g1, rfl, hb, h0, h1⟩ := HSM.out.im e w2 w3 ho
  obtain ⟨G0, cg0, eg0⟩ := Kd.R_slice h0
  obtain ⟨G1, cg1, eg1⟩ := Kd.S_slice h1
  subst eg0 eg1
  have HR := Aside0.mk h0
  have HSS := Aside0.mk h1
  have HW2 := Aside0.mk hb
  replace BX := Aside0.mk (blk_below BX.out hb)
  clear ho h0 h1 hb
  have hx0 := (blk_cell BX.out 0).trans rfl
  have hx1 := (blk_cell BX.out 1).trans rfl
  have hx0a := fun o => (blk_cell (blk_alloc BX.out o) 0).trans rfl
  have hx1a := fun o => (blk_cell (blk_alloc BX.out o) 1).trans rfl
  go_wp2_with fail
  clear hx0 hx1 hx0a hx1a
  have hb := below_alloc (Below.refl w3.heap.size w3) (.cells #[.slice G0 D.length cg0, .slice G1 B.length cg1] 25)
  have BG := Aside0.mk (blk_new w3 (.cells #[.slice G0 D.length cg0, .slice G1 B.length cg1] 25))
  replace HW2 := Aside0.mk (below_step HW2.out hb)
  replace HR := Aside0.mk (Kd.R_below HR.out hb)
  replace HSS := Aside0.mk (Kd.S_below HSS.out hb)
  replace BX := Aside0.mk (blk_below BX.out hb)
  clear hb
  generalize (w3.alloc (.cells #[.slice G0 D.length cg0, .slice G1 B.length cg1] 25)) = w4 at HW2 HR HSS BX BG ⊢
  generalize w3.heap.size = gg at BG ⊢
  obtain ⟨-, hl2, hC2⟩ := Kd.R_reads' HR.out
  obtain ⟨-, hl3, hC3⟩ := Kd.S_reads' HSS.out
  have HL2 := Aside0.mk hl2
  have HL3 := Aside0.mk hl3
  refine (laws_eqTree.calls k G0 cg0 D G1 cg1 B X0 cx0 D X1 cx1 B true w4 hC2 hl2 (kqB_C hC3) hl3 (Kd.C_below HX0.out HW2.out) HL0.out (Kd.C_below HX1.out HW2.out) HL1.out HE.out).mono ?_
  rintro e w5 ⟨rfl, hb⟩
  replace HW2 := Aside0.mk (below_step HW2.out hb)
  replace HR := Aside0.mk (Kd.R_below HR.out hb)
  replace HSS := Aside0.mk (Kd.S_below HSS.out hb)
  replace BX := Aside0.mk (blk_below BX.out hb)
  replace BG := Aside0.mk (blk_below BG.out hb)
  clear hb hl2 hl3 hC2 hC3
  have hg0 := (blk_cell BG.out 0).trans rfl
  have hg1 := (blk_cell BG.out 1).trans rfl
  go_wp2_with fail
  clear hg0 hg1
  have hdis : ∀ k, (Ty w5 49 k ∨ Ty w5 2 k) → ¬ Ty w5 57 k := by
    rintro k (⟨c1, e1⟩ | ⟨c1, e1⟩) ⟨c2, e2⟩ <;> (rw [e1] at e2; injection e2 with e2; injection e2 with _ e3; cases e3)
  have hR5 : Kd.R k57 57 w5 w2.heap.size (Ty w5 57) (.slice G0 D.length cg0) D := Kd.R_mono (Kd.R_bound HR.out) (fun k hk => by
    obtain ⟨q, hq, hc⟩ := hk.2.2.2
    have e : k57.E = [] := rfl
    rw [e, List.mem_singleton] at hq
    subst hq
    exact hc)
  have hS5 : Kd.S kqB 49 w5 w2.heap.size (fun k => Ty w5 49 k ∨ Ty w5 2 k) (.slice G1 B.length cg1) B := Kd.S_mono (Kd.S_bound HSS.out) (fun k hk => by
    obtain ⟨q, hq, hc⟩ := hk.2.2.2
    have e : kqB.E = [2] := rfl
    rw [e] at hq
    simp only [List.mem_cons, List.mem_nil_iff, or_false] at hq
    rcases hq with rfl | rfl
    · exact .inl hc
    · exact .inr hc)
  refine (markTQ_at k (Ty w5 57) (fun k => Ty w5 49 k ∨ Ty w5 2 k) _ _ D B 1 m D' B' w2 w5 HW2.out hR5 hS5 hdis HM.out).mono ?_
  rintro e w6 ⟨rfl, hr, hs, hb, hk⟩
  have box : ∀ {g : Nat} {cs : Array Value}, w5.heap[g]? = some (.cells cs 25 (0, 0)) → w6.heap[g]? = some (.cells cs 25 (0, 0)) := fun {g cs} hg => blk_kept hg hk (by
    rintro (⟨c1, e1⟩ | ⟨c1, e1⟩ | ⟨c1, e1⟩) <;> (rw [hg] at e1; injection e1 with e1; injection e1 with _ e3; cases e3))
  replace BX := Aside0.mk (box BX.out)
  replace BG := Aside0.mk (box BG.out)
  replace HW2 := Aside0.mk hb
  obtain ⟨hn0, hm0, hC0⟩ := Kd.R_reads' hr
  obtain ⟨hn1, hm1, hC1⟩ := Kd.S_reads' hs
  have HN := Aside0.mk (And.intro hn0 hn1)
  have HQ0 := Aside0.mk (show Kd.C k57 w6 G0 D'.length D' from hn0 ▸ hC0)
  have HQ1 := Aside0.mk (show Kd.C k49 w6 G1 B'.length B' from kqB_C hC1)
  have HQL := Aside0.mk (show D'.length ≤ cg0 ∧ B'.length ≤ cg1 from ⟨hn0 ▸ hm0, hn1 ▸ hm1⟩)
  clear hr hs hb hk box hdis hR5 hS5 hn0 hm0 hC0 hn1 hm1 hC1 HR HSS
  have hg0 := (blk_cell BG.out 0).trans rfl
  have hg1 := (blk_cell BG.out 1).trans rfl
  go_wp2_with fail
  clear hg0 hg1
  refine (show Calls Tryz.prog 8 #[.agg #[.slice G0 D.length cg0, .slice G1 B.length cg1], .int .i64 1] w6 (fun e w' => e = .returned (.int .i64 (m : Int)) ∧ Below w6.heap.size w6 w') from by
    rw [HN.out.1, HN.out.2]
    exact laws_heldTree.calls k G0 cg0 D' G1 cg1 B' 1 m w6 HQ0.out HQL.out.1 HQ1.out HQL.out.2 HH.out).mono ?_
  rintro e w7 ⟨rfl, hb⟩
  replace HW2 := Aside0.mk (below_step HW2.out hb)
  replace BX := Aside0.mk (blk_below BX.out hb)
  replace BG := Aside0.mk (blk_below BG.out hb)
  replace HQ0 := Aside0.mk (Kd.C_below HQ0.out hb)
  replace HQ1 := Aside0.mk (Kd.C_below HQ1.out hb)
  clear hb
  have q0 := decide_eq_false (show ¬ (m : Int) < 0 by omega)
  go_wp2_with fail
  refine (readTree_at s w7 HS.out (HD.out.on (below_step HB.out HW2.out)) treeOkB (read_ok s HS.out)).mono ?_
  intro e w8 ho
  obtain ⟨y0, y1, rfl, hb, h0, h1⟩ := HSM.out.im e w7 w8 ho
  obtain ⟨Y0, cy0, ey0⟩ := Kd.R_slice h0
  obtain ⟨Y1, cy1, ey1⟩ := Kd.S_slice h1
  subst ey0 ey1
  obtain ⟨-, hl2, hC2⟩ := Kd.R_reads' h0
  obtain ⟨-, hl3, hC3⟩ := Kd.S_reads' h1
  have HY0 := Aside0.mk hC2
  have HY1 := Aside0.mk (kqB_C hC3)
  have HYL := Aside0.mk (And.intro hl2 hl3)
  replace HW2 := Aside0.mk (below_step HW2.out hb)
  replace BX := Aside0.mk (blk_below BX.out hb)
  replace BG := Aside0.mk (blk_below BG.out hb)
  replace HQ0 := Aside0.mk (Kd.C_below HQ0.out hb)
  replace HQ1 := Aside0.mk (Kd.C_below HQ1.out hb)
  clear ho h0 h1 hb hl2 hl3 hC2 hC3
  have hx0 := (blk_cell BX.out 0).trans rfl
  have hx1 := (blk_cell BX.out 1).trans rfl
  have hx0a := fun o => (blk_cell (blk_alloc BX.out o) 0).trans rfl
  have hx1a := fun o => (blk_cell (blk_alloc BX.out o) 1).trans rfl
  go_wp2_with fail
  clear hx0 hx1 hx0a hx1a
  have hb := below_alloc (Below.refl w8.heap.size w8) (.cells #[.slice Y0 D.length cy0, .slice Y1 B.length cy1] 25)
  replace HW2 := Aside0.mk (below_step HW2.out hb)
  replace BX := Aside0.mk (blk_below BX.out hb)
  replace BG := Aside0.mk (blk_below BG.out hb)
  replace HQ0 := Aside0.mk (Kd.C_below HQ0.out hb)
  replace HQ1 := Aside0.mk (Kd.C_below HQ1.out hb)
  replace HY0 := Aside0.mk (Kd.C_below HY0.out hb)
  replace HY1 := Aside0.mk (Kd.C_below HY1.out hb)
  clear hb
  generalize (w8.alloc (.cells #[.slice Y0 D.length cy0, .slice Y1 B.length cy1] 25)) = w9 at HW2 BX BG HQ0 HQ1 HY0 HY1 ⊢
  refine (laws_eqTree.calls k Y0 cy0 D Y1 cy1 B X0 cx0 D X1 cx1 B true w9 HY0.out HYL.out.1 HY1.out HYL.out.2 (Kd.C_below HX0.out HW2.out) HL0.out (Kd.C_below HX1.out HW2.out) HL1.out HE.out).mono ?_
  rintro e w10 ⟨rfl, hb⟩
  replace HW2 := Aside0.mk (below_step HW2.out hb)
  replace BG := Aside0.mk (blk_below BG.out hb)
  replace HQ0 := Aside0.mk (Kd.C_below HQ0.out hb)
  replace HQ1 := Aside0.mk (Kd.C_below HQ1.out hb)
  clear hb
  have hg0 := (blk_cell BG.out 0).trans rfl
  have hg1 := (blk_cell BG.out 1).trans rfl
  go_wp2_with fail
  clear hg0 hg1
  refine (show Calls Tryz.prog 8 #[.agg #[.slice G0 D.length cg0, .slice G1 B.length cg1], .int .i64 1] w10 (fun e w' => e = .returned (.int .i64 (m : Int)) ∧ Below w10.heap.size w10 w') from by
    rw [HN.out.1, HN.out.2]
    exact laws_heldTree.calls k G0 cg0 D' G1 cg1 B' 1 m w10 HQ0.out HQL.out.1 HQ1.out HQL.out.2 HH.out).mono ?_
  rintro e w11 ⟨rfl, hb⟩
  replace HW2 := Aside0.mk (below_step HW2.out hb)
  clear hb
  go_wp2_with fail
  go_ret
  exact ⟨rfl, below_step HB.out HW2.out⟩

end Go.Proofs.YtohjpgcmhihdhaaGreatDoor.Pure
