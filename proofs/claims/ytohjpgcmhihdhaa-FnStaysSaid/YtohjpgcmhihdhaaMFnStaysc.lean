/- Walks and plain laws of one claim, several texts in one. -/
import Derived.Test.YtohjpgcmhihdhaaQ0
import Derived.Test.YtohjpgcmhihdhaaOSteps
import Derived.Test.YtohjpgcmhihdhaaQf21
import Derived.Test.YtohjpgcmhihdhaaQf36
import Derived.Test.YtohjpgcmhihdhaaQf37
import Derived.Test.YtohjpgcmhihdhaaMFnStaysb
import Derived.Test.YtohjpgcmhihdhaaQf10
namespace Go.Proofs.Ytohjpgcmhihdhaa.Q
open Go.RowKit Go.Proofs.YtohjpgcmhihdhaaW.PrintWords Go.Proofs.YtohjpgcmhihdhaaW.PrintLast Go.Proofs.YtohjpgcmhihdhaaW.PrintMore
attribute [local go_sem] max2_int min2_int max_two min_two max_three min_three max_four min_four   -- for this text's walks alone
set_option linter.unusedVariables false
set_option linter.unusedSimpArgs false
/-! ### spec_l08Rule: function 23 -/
def spec_l08Rule.f (s0_0 : List Int) (s0_1 : Int) (s0_2 : Int) (l1_0 : List (S34)) (l1_1 : List (S70)) : Option (Int × Int × Int × Bool × Int × Int) := (spec_l00Src_pick.f s0_0 s0_1 s0_2 4).bind fun bt214 => (if 0 ≤ (wrap64 ((l1_1.length : Int) - 1)) then (if (wrap64 ((l1_1.length : Int) - 1)) < (l1_1.length : Int) then ((spec_l00Src_among.f s0_0 bt214.2.1 bt214.2.2 (([0, 1, 1, 1, 2] : List Int))).bind fun bt221 => ((spec_l00Src_one.f s0_0 bt221.2.1 bt221.2.2 2).bind fun bt224 => (some (wrap64 (1 + bt214.1), (rd_T70 l1_1 (wrap64 ((l1_1.length : Int) - 1))).f0, bt221.1, bt224.1, bt224.2.1, bt224.2.2)))) else (none)) else (none))
def spec_l08Rule.T1 : Bool × List (List Nat × List Nat) := (true, [([], []), ([0], [0]), ([1], [1]), ([], []), ([3], [3]), ([], []), ([5], [5]), ([6], [6]), ([7], [7]), ([4, 8], [4, 8]), ([9], [9]), ([10], [10]), ([], []), ([], []), ([12, 13, 1], [12, 13]), ([], []), ([15, 14], [15]), ([2, 11, 14, 16], [2, 11, 14, 16]), ([17, 16, 0, 1, 2, 3, 4, 5, 6, 7, 8, 9, 10, 11, 12, 13, 14, 15, 16, 17], [17])])
def spec_l08Rule.B1 : List Nat := [0, 1, 3, 0, 8, 0, 32, 96, 224, 504, 1016, 2040, 0, 0, 12291, 0, 61443, 131071, 262143]
theorem spec_l08Rule.tab1 : rtab .any (opsOf Try.f23 1) = spec_l08Rule.T1 := by kernel_rfl
theorem spec_l08Rule.bits1 : waitsOk spec_l08Rule.T1.2 spec_l08Rule.B1 = true := by kernel_rfl
def az_z23 (n m : Nat) : Array Bool := (List.replicate n true ++ List.replicate m false).toArray
def mz23_0 : Array Bool := az_z23 0 19
def mz23_1 : Array Bool := az_z23 1 18
def mz23_2 : Array Bool := #[true, false, false, true, false, false, false, false, false, false, false, false, false, false, false, false, false, false, false]
def mz23_3 : Array Bool := #[true, false, false, true, false, true, false, false, false, false, false, false, false, false, false, false, false, false, false]
def mz23_4 : Array Bool := #[true, false, false, true, false, true, false, false, false, false, false, false, true, false, false, false, false, false, false]
def mz23_5 : Array Bool := #[true, false, false, true, false, true, false, false, false, false, false, false, true, false, false, true, false, false, false]
def mz23_6 : Array Bool := #[true, false, false, true, true, true, false, false, false, false, false, false, true, false, false, true, false, false, false]
def mz23_7 : Array Bool := #[true, false, false, true, true, true, true, false, false, false, false, false, true, false, false, true, false, false, false]
def mz23_8 : Array Bool := #[true, false, false, true, true, true, true, true, false, false, false, false, true, false, false, true, false, false, false]
def mz23_9 : Array Bool := #[true, false, false, true, true, true, true, true, true, false, false, false, true, false, false, true, false, false, false]
def mz23_10 : Array Bool := #[true, false, false, true, true, true, true, true, true, true, false, false, true, false, false, true, false, false, false]
def mz23_11 : Array Bool := #[true, false, false, true, true, true, true, true, true, true, true, false, true, false, false, true, false, false, false]
def mz23_12 : Array Bool := #[true, false, false, true, true, true, true, true, true, true, true, true, true, false, false, true, false, false, false]
def mz23_13 : Array Bool := #[true, true, true, true, true, true, true, true, true, true, true, true, true, true, false, true, false, false, false]
def mz23_14 : Array Bool := #[true, true, false, true, true, true, true, true, true, true, true, true, true, false, false, true, false, false, false]
def mz23_15 : Array Bool := #[true, false, false, true, true, true, true, true, true, true, true, true, true, true, false, true, false, false, false]
def mz23_16 : Array Bool := #[true, true, true, true, true, true, true, true, true, true, true, true, true, false, false, true, false, false, false]
def mz23_17 : Array Bool := #[true, true, false, true, true, true, true, true, true, true, true, true, true, true, false, true, false, false, false]
def mz23_18 : Array Bool := az_z23 16 3
def mz23_19 : Array Bool := az_z23 17 2
def mz23_20 : Array Bool := az_z23 18 1
def mz23_21 : Array Bool := az_z23 19 0
theorem pu_z23 {P : Program} {ops : Array Oper} {Q : Exit → Act → World → Prop} {md : Region.Mode} {S : World → Prop} {ds : List Nat} {oi : Oper} {fuel : Nat} {l : Array Bool} {a : Act} {w : World} (i : Nat) (N : Option Tmp) (v : Value) (l' : Array Bool) (hi : ops[i]? = some oi) (hN : oi.dst = N) (hc : anyB md ops l l' i = true)
    (hQ : ∀ c a w, Q (.panic c) (a.put oi.dst v) w → Q (.panic c) a w) (hy : Yields P ops oi v a) (a' : Act) (ha : a.put N v = a')
    (h : wpAnyLast P md ops Q S ds fuel l' a' w) : wpAnyLast P md ops Q S ds (fuel + 1) l a w := pure_ l' hi hN hc hQ hy ha h
theorem pq_z23 : (∀ (l : List Value) (i : Nat) (v : Value), l.toArray.setIfInBounds i v = (l.set i v).toArray) ∧ (∀ (x v : Value) (xs : List Value), (x :: xs).set 0 v = v :: xs) ∧ (∀ (x v : Value) (xs : List Value) (n : Nat), (x :: xs).set (n + 1) v = x :: xs.set n v) ∧ (∀ n : Int, IntKind.i64.wrap n = Go.RowKit.wrap64 n) ∧ (∀ n : Int, IntKind.i32.wrap n = Go.RowKit.wrap32 n) :=
  ⟨fun l i v => List.setIfInBounds_toArray l i v, fun _ _ _ => rfl, fun _ _ _ _ => rfl, i64_w, i32_w⟩
set_option maxHeartbeats 8000000 in
set_option maxRecDepth 100000 in
theorem spec_l08Rule.calls (g : Nat) (s0_0 : List Int) (s0_1 : Int) (s0_2 : Int) (A1_0 : Option Addr) (c1_0 : Nat) (l1_0 : List (S34)) (A1_1 : Option Addr) (c1_1 : Nat) (l1_1 : List (S70)) (r1 : Int) (r2 : Int) (r3 : Int) (r4 : Bool) (r5 : Int) (r6 : Int) (w0 w : World) (hI : IsS68 w0 w g s0_0 s0_1 s0_2) (hB : Below w0.heap.size w0 w) (hr1_0 : ∀ W_, KeepBut w W_ g none → Kd.C k34 W_ A1_0 l1_0.length l1_0) (hc1_0 : l1_0.length ≤ c1_0) (hr1_1 : ∀ W_, KeepBut w W_ g none → Kd.C k70 W_ A1_1 l1_1.length l1_1) (hc1_1 : l1_1.length ≤ c1_1) (h : spec_l08Rule.f s0_0 s0_1 s0_2 l1_0 l1_1 = some (r1, r2, r3, r4, r5, r6)) :
  Calls Try.prog 23 #[.pointer (some ⟨g, 0, none⟩), .agg #[.slice A1_0 l1_0.length c1_0, .slice A1_1 l1_1.length c1_1]] w fun e w' => e = .returned (.agg #[.int .i64 r1, .int .i64 r2, .int .i64 r3, .bool r4]) ∧ IsS68 w0 w' g s0_0 r5 r6 ∧ Below w0.heap.size w0 w' ∧ KeepBut w w' g none := by
 have hu26 := Try.underlying26
 have hu29 := Try.underlying29
 have HR1_0 := Aside0.mk hr1_0
 have HC1_0 := Aside0.mk hc1_0
 clear hr1_0 hc1_0
 have HR1_1 := Aside0.mk hr1_1
 have HC1_1 := Aside0.mk hc1_1
 clear hr1_1 hc1_1
 have HI0 := Aside0.mk hI
 have HK := Aside0.mk (KeepBut.refl w g none)
 have HL := Aside0.mk hB.size
 clear hI
 have HW0 := Aside0.mk hB.size
 have HB := Aside0.mk hB
 clear hB
 have H : ((spec_l00Src_pick.f s0_0 s0_1 s0_2 4).bind fun bt214 => (if 0 ≤ (wrap64 ((l1_1.length : Int) - 1)) then (if (wrap64 ((l1_1.length : Int) - 1)) < (l1_1.length : Int) then ((spec_l00Src_among.f s0_0 bt214.2.1 bt214.2.2 (([0, 1, 1, 1, 2] : List Int))).bind fun bt221 => ((spec_l00Src_one.f s0_0 bt221.2.1 bt221.2.2 2).bind fun bt224 => (some (wrap64 (1 + bt214.1), (rd_T70 l1_1 (wrap64 ((l1_1.length : Int) - 1))).f0, bt221.1, bt224.1, bt224.2.1, bt224.2.2)))) else (none)) else (none))) = some (r1, r2, r3, r4, r5, r6) := h
 clear h
 replace H := Option.bind_eq_some_iff.mp H
 obtain ⟨⟨t214, t215, t216⟩, A30, H⟩ := H
 set_option simprocs false in try dsimp only at H
 have A3 := Aside0.mk A30
 clear A30
 obtain ⟨ji4, hji4⟩ : ∃ j_ : Int, (wrap64 ((l1_1.length : Int) - 1)) = j_ := ⟨_, rfl⟩
 replace H : (if 0 ≤ (ji4) then (if (ji4) < (l1_1.length : Int) then ((spec_l00Src_among.f s0_0 t215 t216 (([0, 1, 1, 1, 2] : List Int))).bind fun bt221 => ((spec_l00Src_one.f s0_0 bt221.2.1 bt221.2.2 2).bind fun bt224 => (some (wrap64 (1 + t214), (rd_T70 l1_1 (ji4)).f0, bt221.1, bt224.1, bt224.2.1, bt224.2.2)))) else (none)) else (none)) = some (r1, r2, r3, r4, r5, r6) := by first | (rw [hji4] at H; exact H) | (simp only [hji4] at H ⊢; exact H)
 (try rw [hji4] at A3)
 have hji4w : (IntKind.i64.wrap ((l1_1.length : Int) - 1)) = ji4 := (i64_w _).trans hji4
 by_cases c5 : 0 ≤ (ji4)
 ·rw [if_pos c5] at H
  have c5b0 : decide (0 ≤ (ji4)) = true := decide_eq_true c5
  clear c5
  by_cases c6 : (ji4) < (l1_1.length : Int)
  ·rw [if_pos c6] at H
   have c6b0 : decide ((ji4) < (l1_1.length : Int)) = true := decide_eq_true c6
   clear c6
   obtain ⟨y218, hy218⟩ : ∃ y_ : List Int, y_ = (([0, 1, 1, 1, 2] : List Int)) := ⟨_, rfl⟩
   replace H : ((spec_l00Src_among.f s0_0 t215 t216 y218).bind fun bt221 => ((spec_l00Src_one.f s0_0 bt221.2.1 bt221.2.2 2).bind fun bt224 => (some (wrap64 (1 + t214), (rd_T70 l1_1 (ji4)).f0, bt221.1, bt224.1, bt224.2.1, bt224.2.2)))) = some (r1, r2, r3, r4, r5, r6) := by first | (rw [hy218]; with_reducible exact H) | (have H2_ := (Option.bind_some _ _).symm.trans H; rw [hy218]; with_reducible exact H2_) | (have H2_ := (Option.bind_some _ _).symm.trans H; with_reducible exact H2_) | with_reducible exact H | (rw [hy218]; exact H) | exact H
   have Ny218 := Aside0.mk hy218
   clear hy218
   replace H := Option.bind_eq_some_iff.mp H
   obtain ⟨⟨t221, t222, t223⟩, A70, H⟩ := H
   set_option simprocs false in try dsimp only at H
   have A7 := Aside0.mk A70
   clear A70
   replace H := Option.bind_eq_some_iff.mp H
   obtain ⟨⟨t224, t225, t226⟩, A80, H⟩ := H
   set_option simprocs false in try dsimp only at H
   have A8 := Aside0.mk A80
   clear A80
   simp only [Option.some.injEq, Prod.mk.injEq] at H
   obtain ⟨rfl, rfl, rfl, rfl, rfl, rfl⟩ := H
   go_enter Try.func23, Try.ntmps23
   try go_wp2_with (first | ((with_reducible refine gate_dst (N := 3) rfl ?_); refine box_event ?hg (N := 3) ?hd (cs := #[.slice A1_0 l1_0.length c1_0, .slice A1_1 l1_1.length c1_1]) (t := 26) ?hr ?_; (case hd => rfl); (case hg => rfl); (case hr => first | (go_simp; done) | (go_simp; rfl)); intro gb212 hg w9 hbox hb; have n0_ := Aside0.mk (IsS68.below (by repeat (first | (with_reducible first | exact HI0.out | apply IsS68.alloc | apply IsS68.drewN | apply IsS68.drew | apply IsS68.set_1 | apply IsS68.set_2) | exact HI0.out)) hb); have n1_ := Aside0.mk (KeepBut.trans (by repeat (first | (with_reducible first | exact HK.out | apply KeepBut.set_ | apply keep_drewN | apply keep_drew | apply keep_alloc) | exact HK.out)) (KeepBut.of_below hb g none) (.inl rfl)); have n2_ := Aside0.mk (below_step (by repeat (first | (with_reducible first | exact HB.out | apply below_alloc | apply pw_below_drewN | apply below_drew1 | refine below_set ?_ (IsS68.ge HI0.out)) | exact HB.out)) hb); have n3_ := Aside0.mk (hbox); have n4_ := Aside0.mk ((by rw [hg]; exact (keep_size (w := w) (g := g) (row := none) (by repeat (first | (with_reducible first | exact HK.out | apply KeepBut.set_ | apply keep_drewN | apply keep_drew | apply keep_alloc) | exact HK.out))) : w.heap.size ≤ gb212)); have n5_ := Aside0.mk ((Nat.le_trans HW0.out (by rw [hg]; exact (keep_size (w := w) (g := g) (row := none) (by repeat (first | (with_reducible first | exact HK.out | apply KeepBut.set_ | apply keep_drewN | apply keep_drew | apply keep_alloc) | exact HK.out))) : w.heap.size ≤ gb212) : w0.heap.size ≤ gb212)); have n6_ := Aside0.mk ((by rw [hg]; exact Nat.ne_of_lt (IsS68.lt (show IsS68 w0 _ g s0_0 s0_1 s0_2 from by repeat (first | (with_reducible first | exact HI0.out | apply IsS68.alloc | apply IsS68.drewN | apply IsS68.drew | apply IsS68.set_1 | apply IsS68.set_2) | exact HI0.out))) : g ≠ gb212)); have n7_ := Aside0.mk ((by rw [hg]; exact Nat.ne_of_gt (IsS68.lt (show IsS68 w0 _ g s0_0 s0_1 s0_2 from by repeat (first | (with_reducible first | exact HI0.out | apply IsS68.alloc | apply IsS68.drewN | apply IsS68.drew | apply IsS68.set_1 | apply IsS68.set_2) | exact HI0.out))) : gb212 ≠ g)); clear HI0; clear HK; clear HB; have HI0 := n0_; have HK := n1_; have HB := n2_; have BK212 := n3_; have GW212 := n4_; have GE212 := n5_; have NB0_212 := n6_; have NB212_0 := n7_; clear n0_ n1_ n2_ n3_ n4_ n5_ n6_ n7_; clear hb hbox hg) | ((with_reducible refine gate_dst (N := 4) rfl ?_); refine box_event ?hg (N := 4) ?hd (cs := #[.int .i64 0, .int .i64 0, .int .i64 0, .bool false]) (t := 29) ?hr ?_; (case hd => rfl); (case hg => rfl); (case hr => first | (go_simp; done) | (go_simp; rfl)); intro gb213 hg w10 hbox hb; have n0_ := Aside0.mk (IsS68.below (by repeat (first | (with_reducible first | exact HI0.out | apply IsS68.alloc | apply IsS68.drewN | apply IsS68.drew | apply IsS68.set_1 | apply IsS68.set_2 | refine IsS68.far ?_ NB0_212.out _) | exact HI0.out)) hb); have n1_ := Aside0.mk (blk_below (by exact BK212.out) hb); have n2_ := Aside0.mk (KeepBut.trans (by repeat (first | (with_reducible first | exact HK.out | apply KeepBut.set_ | apply keep_drewN | apply keep_drew | apply keep_alloc | refine keep_far ?_ GW212.out _) | exact HK.out)) (KeepBut.of_below hb g none) (.inl rfl)); have n3_ := Aside0.mk (below_step (by repeat (first | (with_reducible first | exact HB.out | apply below_alloc | apply pw_below_drewN | apply below_drew1 | refine below_set ?_ (IsS68.ge HI0.out) | refine below_set ?_ GE212.out) | exact HB.out)) hb); have n4_ := Aside0.mk (hbox); have n5_ := Aside0.mk ((by rw [hg]; exact (keep_size (w := w) (g := g) (row := none) (by repeat (first | (with_reducible first | exact HK.out | apply KeepBut.set_ | apply keep_drewN | apply keep_drew | apply keep_alloc | refine keep_far ?_ GW212.out _) | exact HK.out))) : w.heap.size ≤ gb213)); have n6_ := Aside0.mk ((Nat.le_trans HW0.out (by rw [hg]; exact (keep_size (w := w) (g := g) (row := none) (by repeat (first | (with_reducible first | exact HK.out | apply KeepBut.set_ | apply keep_drewN | apply keep_drew | apply keep_alloc | refine keep_far ?_ GW212.out _) | exact HK.out))) : w.heap.size ≤ gb213) : w0.heap.size ≤ gb213)); have n7_ := Aside0.mk ((by rw [hg]; exact Nat.ne_of_lt (blk_lt (g := gb212) (o := .cells #[.slice A1_0 l1_0.length c1_0, .slice A1_1 l1_1.length c1_1] 26 (0, 0)) (by exact BK212.out)) : gb212 ≠ gb213)); have n8_ := Aside0.mk ((by rw [hg]; exact Nat.ne_of_gt (blk_lt (g := gb212) (o := .cells #[.slice A1_0 l1_0.length c1_0, .slice A1_1 l1_1.length c1_1] 26 (0, 0)) (by exact BK212.out)) : gb213 ≠ gb212)); have n9_ := Aside0.mk ((by rw [hg]; exact Nat.ne_of_lt (IsS68.lt (show IsS68 w0 _ g s0_0 s0_1 s0_2 from by repeat (first | (with_reducible first | exact HI0.out | apply IsS68.alloc | apply IsS68.drewN | apply IsS68.drew | apply IsS68.set_1 | apply IsS68.set_2 | refine IsS68.far ?_ NB0_212.out _) | exact HI0.out))) : g ≠ gb213)); have n10_ := Aside0.mk ((by rw [hg]; exact Nat.ne_of_gt (IsS68.lt (show IsS68 w0 _ g s0_0 s0_1 s0_2 from by repeat (first | (with_reducible first | exact HI0.out | apply IsS68.alloc | apply IsS68.drewN | apply IsS68.drew | apply IsS68.set_1 | apply IsS68.set_2 | refine IsS68.far ?_ NB0_212.out _) | exact HI0.out))) : gb213 ≠ g)); clear HI0; clear BK212; clear HK; clear HB; have HI0 := n0_; have BK212 := n1_; have HK := n2_; have HB := n3_; have BK213 := n4_; have GW213 := n5_; have GE213 := n6_; have NB212_213 := n7_; have NB213_212 := n8_; have NB0_213 := n9_; have NB213_0 := n10_; clear n0_ n1_ n2_ n3_ n4_ n5_ n6_ n7_ n8_ n9_ n10_; clear hb hbox hg))
   have n0_ := Aside0.mk (blk_drew BK212.out)
   have n1_ := Aside0.mk (blk_drew BK213.out)
   have n2_ := Aside0.mk (IsS68.drew HI0.out)
   have n3_ := Aside0.mk (keep_drew HK.out)
   have n4_ := Aside0.mk (below_drew1 HB.out)
   clear BK212
   clear BK213
   clear HI0
   clear HK
   clear HB
   have BK212 := n0_
   have BK213 := n1_
   have HI0 := n2_
   have HK := n3_
   have HB := n4_
   clear n0_ n1_ n2_ n3_ n4_
   have p217 : 0 ≤ ((ji4) : Int) := of_decide_eq_true (by assumption)
   have q217 : (ji4) < (l1_1.length : Int) := of_decide_eq_true (by assumption)
   obtain ⟨ad217, A217_2, c217_2, e217, hx217_0, hx217_1, hx217_2, hl217_2, hi217_2⟩ := at_T70 (Kd.C_foot_now HR1_1.out HK.out) (ji4) p217 q217
   have hw217_2 := hx217_2
   have hw217_1 := hx217_1
   have hw217_0 := hx217_0
   cases e217
   have hne217_2 := (show (⟨(ad217.add (((ji4)).toNat * 3)).block, (ad217.add (((ji4)).toNat * 3)).off + 2, none⟩ : Addr).block ≠ g from by first | (rw [add_block]; exact Kd.foot_ne HR1_1.out (by omega) (by decide)) | (show (Addr.add _ _).block ≠ _; rw [add_block]; exact Kd.foot_ne HR1_1.out (by omega) (by decide)) | exact Kd.foot_ne HR1_1.out (by omega) (by decide) | (dsimp only; exact Kd.foot_ne HR1_1.out (by omega) (by decide)))
   have hlt217_2 := (Kd.foot_lt HR1_1.out (by omega) (by decide))
   have hne217_1 := (show (⟨(ad217.add (((ji4)).toNat * 3)).block, (ad217.add (((ji4)).toNat * 3)).off + 1, none⟩ : Addr).block ≠ g from by first | (rw [add_block]; exact Kd.foot_ne HR1_1.out (by omega) (by decide)) | (show (Addr.add _ _).block ≠ _; rw [add_block]; exact Kd.foot_ne HR1_1.out (by omega) (by decide)) | exact Kd.foot_ne HR1_1.out (by omega) (by decide) | (dsimp only; exact Kd.foot_ne HR1_1.out (by omega) (by decide)))
   have hlt217_1 := (Kd.foot_lt HR1_1.out (by omega) (by decide))
   have hne217_0 := (show ((ad217.add (((ji4)).toNat * 3)) : Addr).block ≠ g from by first | (rw [add_block]; exact Kd.foot_ne HR1_1.out (by omega) (by decide)) | (show (Addr.add _ _).block ≠ _; rw [add_block]; exact Kd.foot_ne HR1_1.out (by omega) (by decide)) | exact Kd.foot_ne HR1_1.out (by omega) (by decide) | (dsimp only; exact Kd.foot_ne HR1_1.out (by omega) (by decide)))
   have hlt217_0 := (Kd.foot_lt HR1_1.out (by omega) (by decide))
   have HR217_2 := Aside0.mk hi217_2
   have HC217_2 := Aside0.mk hl217_2
   clear hi217_2 hl217_2
   replace p217 := eq_true p217
   replace q217 := eq_true q217
   refine start_ (n := 19) (S := fun w' => w'.cell? ⟨gb212, 0, none⟩ = some (.slice A1_0 l1_0.length c1_0) ∧ w'.cell? ⟨gb212, 1, none⟩ = some (.slice (some ad217) l1_1.length c1_1) ∧ w'.cell? (ad217.add (((ji4)).toNat * 3)) = some (.int .i64 ((rd_T70 l1_1 (ji4)).f0)) ∧ w'.cell? ⟨(ad217.add (((ji4)).toNat * 3)).block, (ad217.add (((ji4)).toNat * 3)).off + 1, none⟩ = some (.int .i64 ((rd_T70 l1_1 (ji4)).f1)) ∧ w'.cell? ⟨(ad217.add (((ji4)).toNat * 3)).block, (ad217.add (((ji4)).toNat * 3)).off + 2, none⟩ = some (.slice A217_2 ((rd_T70 l1_1 (ji4)).f2).length c217_2)) (ds := []) mz23_0 (by kernel_rfl) rfl rfl ⟨(blk_cell BK212.out 0).trans rfl, (blk_cell BK212.out 1).trans rfl, hx217_0, hx217_1, hx217_2⟩ (fun hHeld => ?_); refine with_tabW spec_l08Rule.tab1 spec_l08Rule.bits1 (fun HT_ HW_ => ?_)
   generalize w10.drew = w11 at BK212 BK213 HI0 HK HB HR217_2 hx217_0 hx217_1 hx217_2 hHeld ⊢
   refine pu 0 (some 5) mz23_1 (any_of HT_.out (by kernel_rfl)) ?_
   refine pu 3 (some 8) mz23_2 (any_of HT_.out (by kernel_rfl)) ?_
   refine pu 5 (some 10) mz23_3 (any_of HT_.out (by kernel_rfl)) ?_
   refine pu 12 (some 17) mz23_4 (any_of HT_.out (by kernel_rfl)) ?_
   refine pu 15 (some 20) mz23_5 (any_of HT_.out (by kernel_rfl)) ?_
   refine tk 4 (some 9) mz23_6 hHeld (take_ofW HT_.out HW_.out (by kernel_rfl)) ?_
   refine tk 6 (some 11) mz23_7 hHeld (take_ofW HT_.out HW_.out (by kernel_rfl)) ?_
   refine pu 7 (some 12) mz23_8 (any_of HT_.out (by kernel_rfl)) ?_
   refine pu 8 (some 13) mz23_9 (any_of HT_.out (by kernel_rfl)) ?_
   refine pu 9 (some 14) mz23_10 (any_of HT_.out (by kernel_rfl)) ?_
   refine pu 10 (some 15) mz23_11 (any_of HT_.out (by kernel_rfl)) ?_
   refine tk 11 (some 16) mz23_12 hHeld (take_ofW HT_.out HW_.out (by kernel_rfl)) ?_
   refine join_ (σ := Value) 4 mz23_13 (fun s_ => [(6, .int .i64 t214), (18, s_), (7, .int .i64 (wrap64 (1 + t214)))]) (fun s_ w' => (w'.cell? ⟨gb212, 0, none⟩ = some (.slice A1_0 l1_0.length c1_0) ∧ w'.cell? ⟨gb212, 1, none⟩ = some (.slice (some ad217) l1_1.length c1_1) ∧ w'.cell? (ad217.add (((ji4)).toNat * 3)) = some (.int .i64 ((rd_T70 l1_1 (ji4)).f0)) ∧ w'.cell? ⟨(ad217.add (((ji4)).toNat * 3)).block, (ad217.add (((ji4)).toNat * 3)).off + 1, none⟩ = some (.int .i64 ((rd_T70 l1_1 (ji4)).f1)) ∧ w'.cell? ⟨(ad217.add (((ji4)).toNat * 3)).block, (ad217.add (((ji4)).toNat * 3)).off + 2, none⟩ = some (.slice A217_2 ((rd_T70 l1_1 (ji4)).f2).length c217_2)) ∧ (Kd.R (Kd.int .i64) 2 w' w.heap.size (fun _ => True) s_ y218) ∧ (w'.heap[gb212]? = some (.cells #[.slice A1_0 l1_0.length c1_0, .slice (some ad217) l1_1.length c1_1] 26 (0, 0))) ∧ (w'.heap[gb213]? = some (.cells #[.int .i64 0, .int .i64 0, .int .i64 0, .bool false] 29 (0, 0))) ∧ (IsS68 w0 w' g s0_0 t215 t216) ∧ (KeepBut w w' g none) ∧ (Below w0.heap.size w0 w')) ?_ ?_
   rotate_left
   ·intro hCont
    refine two_ (i := 1) (j := 13) (Ni := some 6) (Nj := some 18) mz23_14 mz23_15 rfl rfl rfl rfl (two_of HT_.out (by kernel_rfl)) (by decide) (by decide) (fun K hK => ?_) (fun K hK => ?_)
    ·skip
     refine goes_ Try.func36 (by kernel_rfl) rfl #[.pointer (some ⟨g, 0, none⟩), .int .i64 4] (by rfl) rfl rfl (by (try simp only [List.map_toArray, List.map_cons, List.map_nil]); first | done | rfl) ?_
     with_reducible refine (spec_l00Src_pick.calls g s0_0 s0_1 s0_2 4 t214 t215 t216 w0 _ ?side1 ?side2 A3.out).mono ?_
     (case side1 => repeat (first | (with_reducible first | exact HI0.out | apply IsS68.alloc | apply IsS68.drewN | apply IsS68.drew | apply IsS68.set_1 | apply IsS68.set_2 | refine IsS68.far ?_ NB0_212.out _ | refine IsS68.far ?_ NB0_213.out _) | exact HI0.out))
     (case side2 => repeat (first | (with_reducible first | exact HB.out | apply below_alloc | apply pw_below_drewN | apply below_drew1 | refine below_set ?_ (IsS68.ge HI0.out) | refine below_set ?_ GE212.out | refine below_set ?_ GE213.out) | exact HB.out))
     rintro e w12 ⟨rfl, hi, hb, hk⟩
     have HS2_ := keep_cell hk (hHeld.2.2.1) (by first | (rw [add_block]; exact hne217_0) | (show (Addr.add _ _).block ≠ _; rw [add_block]; exact hne217_0) | exact hne217_0)
     have HS3_ := keep_cell hk (hHeld.2.2.2.1) (by first | (rw [add_block]; exact hne217_1) | (show (Addr.add _ _).block ≠ _; rw [add_block]; exact hne217_1) | exact hne217_1)
     have HS4_ := keep_cell hk (hHeld.2.2.2.2) (by first | (rw [add_block]; exact hne217_2) | (show (Addr.add _ _).block ≠ _; rw [add_block]; exact hne217_2) | exact hne217_2)
     refine ⟨_, rfl, ?_⟩
     have n0_ := Aside0.mk (KeepBut.blk hk (g' := gb212) (o := .cells #[.slice A1_0 l1_0.length c1_0, .slice (some ad217) l1_1.length c1_1] 26 (0, 0)) (by exact BK212.out) NB212_0.out (by simp))
     have n1_ := Aside0.mk (KeepBut.blk hk (g' := gb213) (o := .cells #[.int .i64 0, .int .i64 0, .int .i64 0, .bool false] 29 (0, 0)) (by exact BK213.out) NB213_0.out (by simp))
     have n2_ := Aside0.mk (KeepBut.trans (by repeat (first | (with_reducible first | exact HK.out | apply KeepBut.set_ | apply keep_drewN | apply keep_drew | apply keep_alloc | refine keep_far ?_ GW212.out _ | refine keep_far ?_ GW213.out _) | exact HK.out)) hk (.inl rfl))
     have n3_ := Aside0.mk (hb)
     have n4_ := Aside0.mk (hi)
     clear BK212
     clear BK213
     clear HK
     clear HB
     clear HI0
     have BK212 := n0_
     have BK213 := n1_
     have HK := n2_
     have HB := n3_
     have HI0 := n4_
     clear n0_ n1_ n2_ n3_ n4_
     (try clear hb)
     (try clear hb2)
     (try clear hk)
     (try clear hi)
     refine hK.out _ _ ⟨(blk_cell BK212.out 0).trans rfl, (blk_cell BK212.out 1).trans rfl, HS2_, HS3_, HS4_⟩ (fun hHeld => ?_)
     clear hK K
     refine norm_ (a' := ?_) ?_ ?_
     (rotate_left; ·(show Act.put _ (some 6) _ = _; simp only [Act.put, pq_z23]; rfl))
     refine pu 2 (some 7) mz23_16 (any_of HT_.out (by kernel_rfl)) ?_
     refine one_ (i := 13) (N := some 18) mz23_13 rfl rfl (one_of HT_.out (by kernel_rfl)) (by decide) (fun K hK => ?_)
     refine Kd.R_lit_step (Kd.int .i64) _ 2 ?hg (N := 18) ?hd (xs := ([0, 1, 1, 1, 2] : List Int)) (inner := [.int .i64 0, .int .i64 1, .int .i64 1, .int .i64 1, .int .i64 2]) (ok := fun _ => True) (okp := fun _ => True) ?hr ?hp (fun _ hk => hk) trivial (Below.refl _ _) (Nat.le_refl _) (by simp) ?_; (case hd => rfl); (case hg => rfl); (case hr => first | (go_simp; done) | (go_simp; rfl)); (case hp => exact (Reps.one (show Kd.M (Kd.int .i64) _ _ _ 0 [.int .i64 0] from rfl) (Reps.one (show Kd.M (Kd.int .i64) _ _ _ 1 [.int .i64 1] from rfl) (Reps.one (show Kd.M (Kd.int .i64) _ _ _ 1 [.int .i64 1] from rfl) (Reps.one (show Kd.M (Kd.int .i64) _ _ _ 1 [.int .i64 1] from rfl) (Reps.one (show Kd.M (Kd.int .i64) _ _ _ 2 [.int .i64 2] from rfl) (Reps.none _ _)))))))
     intro v219 w13 ho14 hb hg_ hnew_
     have HS2_ := (hb.cell (World.block_lt_of_cell? _ _ (hHeld.2.2.1))).trans (hHeld.2.2.1)
     have HS3_ := (hb.cell (World.block_lt_of_cell? _ _ (hHeld.2.2.2.1))).trans (hHeld.2.2.2.1)
     have HS4_ := (hb.cell (World.block_lt_of_cell? _ _ (hHeld.2.2.2.2))).trans (hHeld.2.2.2.2)
     clear hg_ hnew_
     (first | rw [← Ny218.out] at ho14 | (simp only [Int.reduceToNat] at ho14; rw [← Ny218.out] at ho14))
     have n0_ := Aside0.mk (Kd.R_lower ho14 (keep_size (w := w) (g := g) (row := none) (by repeat (first | (with_reducible first | exact HK.out | apply KeepBut.set_ | apply keep_drewN | apply keep_drew | apply keep_alloc | refine keep_far ?_ GW212.out _ | refine keep_far ?_ GW213.out _) | exact HK.out))))
     have n1_ := Aside0.mk (IsS68.below (by repeat (first | (with_reducible first | exact HI0.out | apply IsS68.alloc | apply IsS68.drewN | apply IsS68.drew | apply IsS68.set_1 | apply IsS68.set_2 | refine IsS68.far ?_ NB0_212.out _ | refine IsS68.far ?_ NB0_213.out _) | exact HI0.out)) hb)
     have n2_ := Aside0.mk (blk_below (by exact BK212.out) hb)
     have n3_ := Aside0.mk (blk_below (by exact BK213.out) hb)
     have n4_ := Aside0.mk (KeepBut.trans (by repeat (first | (with_reducible first | exact HK.out | apply KeepBut.set_ | apply keep_drewN | apply keep_drew | apply keep_alloc | refine keep_far ?_ GW212.out _ | refine keep_far ?_ GW213.out _) | exact HK.out)) (KeepBut.of_below hb g none) (.inl rfl))
     have n5_ := Aside0.mk (below_step (by repeat (first | (with_reducible first | exact HB.out | apply below_alloc | apply pw_below_drewN | apply below_drew1 | refine below_set ?_ (IsS68.ge HI0.out) | refine below_set ?_ GE212.out | refine below_set ?_ GE213.out) | exact HB.out)) hb)
     clear HI0
     clear BK212
     clear BK213
     clear HK
     clear HB
     have HO220 := n0_
     have HI0 := n1_
     have BK212 := n2_
     have BK213 := n3_
     have HK := n4_
     have HB := n5_
     clear n0_ n1_ n2_ n3_ n4_ n5_
     clear hb ho14
     refine hK.out _ _ ⟨(blk_cell BK212.out 0).trans rfl, (blk_cell BK212.out 1).trans rfl, HS2_, HS3_, HS4_⟩ (fun hHeld => ?_)
     clear hK K
     refine norm_ (a' := ?_) ?_ ?_
     (rotate_left; ·(show Act.put _ (some 18) _ = _; simp only [Act.put, pq_z23]; rfl))
     exact norm_ (by simp only [putAll, Act.put, List.setIfInBounds_toArray, List.set_cons_zero, List.set_cons_succ]) (hCont (v219) _ ⟨hHeld, (by (with_reducible repeat (first | apply Kd.R_alloc | apply Kd.R_drewN | apply Kd.R_drew)); exact HO220.out), (by exact BK212.out), (by exact BK213.out), (by repeat (first | (with_reducible first | exact HI0.out | apply IsS68.alloc | apply IsS68.drewN | apply IsS68.drew | apply IsS68.set_1 | apply IsS68.set_2 | refine IsS68.far ?_ NB0_212.out _ | refine IsS68.far ?_ NB0_213.out _) | exact HI0.out)), (by repeat (first | (with_reducible first | exact HK.out | apply KeepBut.set_ | apply keep_drewN | apply keep_drew | apply keep_alloc | refine keep_far ?_ GW212.out _ | refine keep_far ?_ GW213.out _) | exact HK.out)), (by repeat (first | (with_reducible first | exact HB.out | apply below_alloc | apply pw_below_drewN | apply below_drew1 | refine below_set ?_ (IsS68.ge HI0.out) | refine below_set ?_ GE212.out | refine below_set ?_ GE213.out) | exact HB.out))⟩)
    ·skip
     refine Kd.R_lit_step (Kd.int .i64) _ 2 ?hg (N := 18) ?hd (xs := ([0, 1, 1, 1, 2] : List Int)) (inner := [.int .i64 0, .int .i64 1, .int .i64 1, .int .i64 1, .int .i64 2]) (ok := fun _ => True) (okp := fun _ => True) ?hr ?hp (fun _ hk => hk) trivial (Below.refl _ _) (Nat.le_refl _) (by simp) ?_; (case hd => rfl); (case hg => rfl); (case hr => first | (go_simp; done) | (go_simp; rfl)); (case hp => exact (Reps.one (show Kd.M (Kd.int .i64) _ _ _ 0 [.int .i64 0] from rfl) (Reps.one (show Kd.M (Kd.int .i64) _ _ _ 1 [.int .i64 1] from rfl) (Reps.one (show Kd.M (Kd.int .i64) _ _ _ 1 [.int .i64 1] from rfl) (Reps.one (show Kd.M (Kd.int .i64) _ _ _ 1 [.int .i64 1] from rfl) (Reps.one (show Kd.M (Kd.int .i64) _ _ _ 2 [.int .i64 2] from rfl) (Reps.none _ _)))))))
     intro v219 w12 ho13 hb hg_ hnew_
     have HS2_ := (hb.cell (World.block_lt_of_cell? _ _ (hHeld.2.2.1))).trans (hHeld.2.2.1)
     have HS3_ := (hb.cell (World.block_lt_of_cell? _ _ (hHeld.2.2.2.1))).trans (hHeld.2.2.2.1)
     have HS4_ := (hb.cell (World.block_lt_of_cell? _ _ (hHeld.2.2.2.2))).trans (hHeld.2.2.2.2)
     clear hg_ hnew_
     (first | rw [← Ny218.out] at ho13 | (simp only [Int.reduceToNat] at ho13; rw [← Ny218.out] at ho13))
     have n0_ := Aside0.mk (Kd.R_lower ho13 (keep_size (w := w) (g := g) (row := none) (by repeat (first | (with_reducible first | exact HK.out | apply KeepBut.set_ | apply keep_drewN | apply keep_drew | apply keep_alloc | refine keep_far ?_ GW212.out _ | refine keep_far ?_ GW213.out _) | exact HK.out))))
     have n1_ := Aside0.mk (IsS68.below (by repeat (first | (with_reducible first | exact HI0.out | apply IsS68.alloc | apply IsS68.drewN | apply IsS68.drew | apply IsS68.set_1 | apply IsS68.set_2 | refine IsS68.far ?_ NB0_212.out _ | refine IsS68.far ?_ NB0_213.out _) | exact HI0.out)) hb)
     have n2_ := Aside0.mk (blk_below (by exact BK212.out) hb)
     have n3_ := Aside0.mk (blk_below (by exact BK213.out) hb)
     have n4_ := Aside0.mk (Kd.C_below (by repeat (first | (with_reducible exact HR217_2.out) | (with_reducible refine Kd.C_alloc ?_ _) | (with_reducible refine Kd.C_drewN ?_ _) | (with_reducible refine Kd.C_drew ?_) | exact HR217_2.out)) hb)
     have n5_ := Aside0.mk (KeepBut.trans (by repeat (first | (with_reducible first | exact HK.out | apply KeepBut.set_ | apply keep_drewN | apply keep_drew | apply keep_alloc | refine keep_far ?_ GW212.out _ | refine keep_far ?_ GW213.out _) | exact HK.out)) (KeepBut.of_below hb g none) (.inl rfl))
     have n6_ := Aside0.mk (below_step (by repeat (first | (with_reducible first | exact HB.out | apply below_alloc | apply pw_below_drewN | apply below_drew1 | refine below_set ?_ (IsS68.ge HI0.out) | refine below_set ?_ GE212.out | refine below_set ?_ GE213.out) | exact HB.out)) hb)
     clear HI0
     clear BK212
     clear BK213
     clear HR217_2
     clear HK
     clear HB
     have HO220 := n0_
     have HI0 := n1_
     have BK212 := n2_
     have BK213 := n3_
     have HR217_2 := n4_
     have HK := n5_
     have HB := n6_
     clear n0_ n1_ n2_ n3_ n4_ n5_ n6_
     clear hb ho13
     refine hK.out _ _ ⟨(blk_cell BK212.out 0).trans rfl, (blk_cell BK212.out 1).trans rfl, HS2_, HS3_, HS4_⟩ (fun hHeld => ?_)
     clear hK K
     refine norm_ (a' := ?_) ?_ ?_
     (rotate_left; ·(show Act.put _ (some 18) _ = _; simp only [Act.put, pq_z23]; rfl))
     refine one_ (i := 1) (N := some 6) mz23_17 rfl rfl (one_of HT_.out (by kernel_rfl)) (by decide) (fun K hK => ?_)
     refine goes_ Try.func36 (by kernel_rfl) rfl #[.pointer (some ⟨g, 0, none⟩), .int .i64 4] (by rfl) rfl rfl (by (try simp only [List.map_toArray, List.map_cons, List.map_nil]); first | done | rfl) ?_
     with_reducible refine (spec_l00Src_pick.calls g s0_0 s0_1 s0_2 4 t214 t215 t216 w0 _ ?side1 ?side2 A3.out).mono ?_
     (case side1 => repeat (first | (with_reducible first | exact HI0.out | apply IsS68.alloc | apply IsS68.drewN | apply IsS68.drew | apply IsS68.set_1 | apply IsS68.set_2 | refine IsS68.far ?_ NB0_212.out _ | refine IsS68.far ?_ NB0_213.out _) | exact HI0.out))
     (case side2 => repeat (first | (with_reducible first | exact HB.out | apply below_alloc | apply pw_below_drewN | apply below_drew1 | refine below_set ?_ (IsS68.ge HI0.out) | refine below_set ?_ GE212.out | refine below_set ?_ GE213.out) | exact HB.out))
     rintro e w14 ⟨rfl, hi, hb, hk⟩
     have HS2_ := keep_cell hk (hHeld.2.2.1) (by first | (rw [add_block]; exact hne217_0) | (show (Addr.add _ _).block ≠ _; rw [add_block]; exact hne217_0) | exact hne217_0)
     have HS3_ := keep_cell hk (hHeld.2.2.2.1) (by first | (rw [add_block]; exact hne217_1) | (show (Addr.add _ _).block ≠ _; rw [add_block]; exact hne217_1) | exact hne217_1)
     have HS4_ := keep_cell hk (hHeld.2.2.2.2) (by first | (rw [add_block]; exact hne217_2) | (show (Addr.add _ _).block ≠ _; rw [add_block]; exact hne217_2) | exact hne217_2)
     refine ⟨_, rfl, ?_⟩
     have n0_ := Aside0.mk (KeepBut.blk hk (g' := gb212) (o := .cells #[.slice A1_0 l1_0.length c1_0, .slice (some ad217) l1_1.length c1_1] 26 (0, 0)) (by exact BK212.out) NB212_0.out (by simp))
     have n1_ := Aside0.mk (KeepBut.blk hk (g' := gb213) (o := .cells #[.int .i64 0, .int .i64 0, .int .i64 0, .bool false] 29 (0, 0)) (by exact BK213.out) NB213_0.out (by simp))
     have n2_ := Aside0.mk (Kd.R_mono (Kd.R_keep (IsS68.apart (show IsS68 w0 _ g s0_0 s0_1 s0_2 from by repeat (first | (with_reducible first | exact HI0.out | apply IsS68.alloc | apply IsS68.drewN | apply IsS68.drew | apply IsS68.set_1 | apply IsS68.set_2 | refine IsS68.far ?_ NB0_212.out _ | refine IsS68.far ?_ NB0_213.out _) | exact HI0.out)) (by (with_reducible repeat (first | apply Kd.R_alloc | apply Kd.R_drewN | apply Kd.R_drew)); exact HO220.out) (by decide)) hk (fun _ h => h.2)) (fun _ h => h.1))
     have n3_ := Aside0.mk (KeepBut.trans (by repeat (first | (with_reducible first | exact HK.out | apply KeepBut.set_ | apply keep_drewN | apply keep_drew | apply keep_alloc | refine keep_far ?_ GW212.out _ | refine keep_far ?_ GW213.out _) | exact HK.out)) hk (.inl rfl))
     have n4_ := Aside0.mk (hb)
     have n5_ := Aside0.mk (hi)
     clear BK212
     clear BK213
     clear HO220
     clear HK
     clear HB
     clear HI0
     have BK212 := n0_
     have BK213 := n1_
     have HO220 := n2_
     have HK := n3_
     have HB := n4_
     have HI0 := n5_
     clear n0_ n1_ n2_ n3_ n4_ n5_
     (try clear hb)
     (try clear hb2)
     (try clear hk)
     (try clear hi)
     refine hK.out _ _ ⟨(blk_cell BK212.out 0).trans rfl, (blk_cell BK212.out 1).trans rfl, HS2_, HS3_, HS4_⟩ (fun hHeld => ?_)
     clear hK K
     refine norm_ (a' := ?_) ?_ ?_
     (rotate_left; ·(show Act.put _ (some 6) _ = _; simp only [Act.put, pq_z23]; rfl))
     refine pu 2 (some 7) mz23_13 (any_of HT_.out (by kernel_rfl)) ?_
     exact norm_ (by simp only [putAll, Act.put, List.setIfInBounds_toArray, List.set_cons_zero, List.set_cons_succ]) (hCont (v219) _ ⟨hHeld, (by (with_reducible repeat (first | apply Kd.R_alloc | apply Kd.R_drewN | apply Kd.R_drew)); exact HO220.out), (by exact BK212.out), (by exact BK213.out), (by repeat (first | (with_reducible first | exact HI0.out | apply IsS68.alloc | apply IsS68.drewN | apply IsS68.drew | apply IsS68.set_1 | apply IsS68.set_2 | refine IsS68.far ?_ NB0_212.out _ | refine IsS68.far ?_ NB0_213.out _) | exact HI0.out)), (by repeat (first | (with_reducible first | exact HK.out | apply KeepBut.set_ | apply keep_drewN | apply keep_drew | apply keep_alloc | refine keep_far ?_ GW212.out _ | refine keep_far ?_ GW213.out _) | exact HK.out)), (by repeat (first | (with_reducible first | exact HB.out | apply below_alloc | apply pw_below_drewN | apply below_drew1 | refine below_set ?_ (IsS68.ge HI0.out) | refine below_set ?_ GE212.out | refine below_set ?_ GE213.out) | exact HB.out))⟩)
   rintro v219 w15 ⟨hS_, h0_, h1_, h2_, h3_, h4_, h5_⟩
   have n0_ : Aside0 (Kd.R (Kd.int .i64) 2 w15 w.heap.size (fun _ => True) v219 y218) := ⟨h0_⟩
   have n1_ : Aside0 (w15.heap[gb212]? = some (.cells #[.slice A1_0 l1_0.length c1_0, .slice (some ad217) l1_1.length c1_1] 26 (0, 0))) := ⟨h1_⟩
   have n2_ : Aside0 (w15.heap[gb213]? = some (.cells #[.int .i64 0, .int .i64 0, .int .i64 0, .bool false] 29 (0, 0))) := ⟨h2_⟩
   have n3_ : Aside0 (IsS68 w0 w15 g s0_0 t215 t216) := ⟨h3_⟩
   have n4_ : Aside0 (KeepBut w w15 g none) := ⟨h4_⟩
   have n5_ : Aside0 (Below w0.heap.size w0 w15) := ⟨h5_⟩
   clear BK212
   clear BK213
   clear HI0
   clear HK
   clear HB
   clear h0_ h1_ h2_ h3_ h4_ h5_
   have HO220 := n0_
   have BK212 := n1_
   have BK213 := n2_
   have HI0 := n3_
   have HK := n4_
   have HB := n5_
   clear n0_ n1_ n2_ n3_ n4_ n5_
   have hHeld : w15.cell? ⟨gb212, 0, none⟩ = some (.slice A1_0 l1_0.length c1_0) ∧ w15.cell? ⟨gb212, 1, none⟩ = some (.slice (some ad217) l1_1.length c1_1) ∧ w15.cell? (ad217.add (((ji4)).toNat * 3)) = some (.int .i64 ((rd_T70 l1_1 (ji4)).f0)) ∧ w15.cell? ⟨(ad217.add (((ji4)).toNat * 3)).block, (ad217.add (((ji4)).toNat * 3)).off + 1, none⟩ = some (.int .i64 ((rd_T70 l1_1 (ji4)).f1)) ∧ w15.cell? ⟨(ad217.add (((ji4)).toNat * 3)).block, (ad217.add (((ji4)).toNat * 3)).off + 2, none⟩ = some (.slice A217_2 ((rd_T70 l1_1 (ji4)).f2).length c217_2) := hS_
   obtain ⟨Ao16, co16, eo16⟩ := Kd.R_slice HO220.out
   (first | subst eo16 | (injection eo16 with f1_ f2_ f3_; have f4_ := f1_.symm; have f5_ := f3_.symm; clear f1_ f2_ f3_; subst f4_; subst f5_))
   refine norm_ (a' := ?_) ?_ ?_
   rotate_left
   ·simp only [putAll, Act.put, List.setIfInBounds_toArray, List.set_cons_zero, List.set_cons_succ]
    rfl
   refine one_ (i := 14) (N := some 19) mz23_18 rfl rfl (one_of HT_.out (by kernel_rfl)) (by decide) (fun K hK => ?_)
   refine goes_ Try.func37 (by kernel_rfl) rfl #[.pointer (some ⟨g, 0, none⟩), .slice Ao16 y218.length co16] (by rfl) rfl rfl (by (try simp only [List.map_toArray, List.map_cons, List.map_nil]); first | done | rfl) ?_
   with_reducible refine (spec_l00Src_among.calls g s0_0 t215 t216 _ _ y218 t221 t222 t223 w0 _ ?side1 ?side2 ?side3 ?side4 ?side5 A7.out).mono ?_
   (case side1 => repeat (first | (with_reducible first | exact HI0.out | apply IsS68.alloc | apply IsS68.drewN | apply IsS68.drew | apply IsS68.set_1 | apply IsS68.set_2 | refine IsS68.far ?_ NB0_212.out _ | refine IsS68.far ?_ NB0_213.out _) | exact HI0.out))
   (case side2 => repeat (first | (with_reducible first | exact HB.out | apply below_alloc | apply pw_below_drewN | apply below_drew1 | refine below_set ?_ (IsS68.ge HI0.out) | refine below_set ?_ GE212.out | refine below_set ?_ GE213.out) | exact HB.out))
   (case side3 => exact (Kd.R_reads' HO220.out).2.2)
   (case side4 => exact (Kd.R_reads' HO220.out).2.1)
   (case side5 => exact far_slice (IsS68.own_ne HI0.out HO220.out (by decide)))
   rintro e w17 ⟨rfl, hi, hb, hk⟩
   have HS2_ := keep_cell hk (hHeld.2.2.1) (by first | (rw [add_block]; exact hne217_0) | (show (Addr.add _ _).block ≠ _; rw [add_block]; exact hne217_0) | exact hne217_0)
   have HS3_ := keep_cell hk (hHeld.2.2.2.1) (by first | (rw [add_block]; exact hne217_1) | (show (Addr.add _ _).block ≠ _; rw [add_block]; exact hne217_1) | exact hne217_1)
   have HS4_ := keep_cell hk (hHeld.2.2.2.2) (by first | (rw [add_block]; exact hne217_2) | (show (Addr.add _ _).block ≠ _; rw [add_block]; exact hne217_2) | exact hne217_2)
   refine ⟨_, rfl, ?_⟩
   have n0_ := Aside0.mk (KeepBut.blk hk (g' := gb212) (o := .cells #[.slice A1_0 l1_0.length c1_0, .slice (some ad217) l1_1.length c1_1] 26 (0, 0)) (by exact BK212.out) NB212_0.out (by simp))
   have n1_ := Aside0.mk (KeepBut.blk hk (g' := gb213) (o := .cells #[.int .i64 0, .int .i64 0, .int .i64 0, .bool false] 29 (0, 0)) (by exact BK213.out) NB213_0.out (by simp))
   have n2_ := Aside0.mk (Kd.R_mono (Kd.R_keep (IsS68.apart (show IsS68 w0 _ g s0_0 t215 t216 from by repeat (first | (with_reducible first | exact HI0.out | apply IsS68.alloc | apply IsS68.drewN | apply IsS68.drew | apply IsS68.set_1 | apply IsS68.set_2 | refine IsS68.far ?_ NB0_212.out _ | refine IsS68.far ?_ NB0_213.out _) | exact HI0.out)) (by (with_reducible repeat (first | apply Kd.R_alloc | apply Kd.R_drewN | apply Kd.R_drew)); exact HO220.out) (by decide)) hk (fun _ h => h.2)) (fun _ h => h.1))
   have n3_ := Aside0.mk (KeepBut.trans (by repeat (first | (with_reducible first | exact HK.out | apply KeepBut.set_ | apply keep_drewN | apply keep_drew | apply keep_alloc | refine keep_far ?_ GW212.out _ | refine keep_far ?_ GW213.out _) | exact HK.out)) hk (.inl rfl))
   have n4_ := Aside0.mk (hb)
   have n5_ := Aside0.mk (hi)
   clear BK212
   clear BK213
   clear HO220
   clear HK
   clear HB
   clear HI0
   have BK212 := n0_
   have BK213 := n1_
   have HO220 := n2_
   have HK := n3_
   have HB := n4_
   have HI0 := n5_
   clear n0_ n1_ n2_ n3_ n4_ n5_
   (try clear hb)
   (try clear hb2)
   (try clear hk)
   (try clear hi)
   refine hK.out _ _ ⟨(blk_cell BK212.out 0).trans rfl, (blk_cell BK212.out 1).trans rfl, HS2_, HS3_, HS4_⟩ (fun hHeld => ?_)
   clear hK K
   refine norm_ (a' := ?_) ?_ ?_
   (rotate_left; ·(show Act.put _ (some 19) _ = _; simp only [Act.put, pq_z23]; rfl))
   refine one_ (i := 16) (N := some 21) mz23_19 rfl rfl (one_of HT_.out (by kernel_rfl)) (by decide) (fun K hK => ?_)
   refine goes_ Try.func38 (by kernel_rfl) rfl #[.pointer (some ⟨g, 0, none⟩), .int .i64 2] (by rfl) rfl rfl (by (try simp only [List.map_toArray, List.map_cons, List.map_nil]); first | done | rfl) ?_
   with_reducible refine (spec_l00Src_one.calls g s0_0 t222 t223 2 t224 t225 t226 w0 _ ?side1 ?side2 A8.out).mono ?_
   (case side1 => repeat (first | (with_reducible first | exact HI0.out | apply IsS68.alloc | apply IsS68.drewN | apply IsS68.drew | apply IsS68.set_1 | apply IsS68.set_2 | refine IsS68.far ?_ NB0_212.out _ | refine IsS68.far ?_ NB0_213.out _) | exact HI0.out))
   (case side2 => repeat (first | (with_reducible first | exact HB.out | apply below_alloc | apply pw_below_drewN | apply below_drew1 | refine below_set ?_ (IsS68.ge HI0.out) | refine below_set ?_ GE212.out | refine below_set ?_ GE213.out) | exact HB.out))
   rintro e w18 ⟨rfl, hi, hb, hk⟩
   have HS2_ := keep_cell hk (hHeld.2.2.1) (by first | (rw [add_block]; exact hne217_0) | (show (Addr.add _ _).block ≠ _; rw [add_block]; exact hne217_0) | exact hne217_0)
   have HS3_ := keep_cell hk (hHeld.2.2.2.1) (by first | (rw [add_block]; exact hne217_1) | (show (Addr.add _ _).block ≠ _; rw [add_block]; exact hne217_1) | exact hne217_1)
   have HS4_ := keep_cell hk (hHeld.2.2.2.2) (by first | (rw [add_block]; exact hne217_2) | (show (Addr.add _ _).block ≠ _; rw [add_block]; exact hne217_2) | exact hne217_2)
   refine ⟨_, rfl, ?_⟩
   have n0_ := Aside0.mk (KeepBut.blk hk (g' := gb212) (o := .cells #[.slice A1_0 l1_0.length c1_0, .slice (some ad217) l1_1.length c1_1] 26 (0, 0)) (by exact BK212.out) NB212_0.out (by simp))
   have n1_ := Aside0.mk (KeepBut.blk hk (g' := gb213) (o := .cells #[.int .i64 0, .int .i64 0, .int .i64 0, .bool false] 29 (0, 0)) (by exact BK213.out) NB213_0.out (by simp))
   have n2_ := Aside0.mk (Kd.R_mono (Kd.R_keep (IsS68.apart (show IsS68 w0 _ g s0_0 t222 t223 from by repeat (first | (with_reducible first | exact HI0.out | apply IsS68.alloc | apply IsS68.drewN | apply IsS68.drew | apply IsS68.set_1 | apply IsS68.set_2 | refine IsS68.far ?_ NB0_212.out _ | refine IsS68.far ?_ NB0_213.out _) | exact HI0.out)) (by (with_reducible repeat (first | apply Kd.R_alloc | apply Kd.R_drewN | apply Kd.R_drew)); exact HO220.out) (by decide)) hk (fun _ h => h.2)) (fun _ h => h.1))
   have n3_ := Aside0.mk (KeepBut.trans (by repeat (first | (with_reducible first | exact HK.out | apply KeepBut.set_ | apply keep_drewN | apply keep_drew | apply keep_alloc | refine keep_far ?_ GW212.out _ | refine keep_far ?_ GW213.out _) | exact HK.out)) hk (.inl rfl))
   have n4_ := Aside0.mk (hb)
   have n5_ := Aside0.mk (hi)
   clear BK212
   clear BK213
   clear HO220
   clear HK
   clear HB
   clear HI0
   have BK212 := n0_
   have BK213 := n1_
   have HO220 := n2_
   have HK := n3_
   have HB := n4_
   have HI0 := n5_
   clear n0_ n1_ n2_ n3_ n4_ n5_
   (try clear hb)
   (try clear hb2)
   (try clear hk)
   (try clear hi)
   refine hK.out _ _ ⟨(blk_cell BK212.out 0).trans rfl, (blk_cell BK212.out 1).trans rfl, HS2_, HS3_, HS4_⟩ (fun hHeld => ?_)
   clear hK K
   refine norm_ (a' := ?_) ?_ ?_
   (rotate_left; ·(show Act.put _ (some 21) _ = _; simp only [Act.put, pq_z23]; rfl))
   refine pu 17 (some 22) mz23_20 (any_of HT_.out (by kernel_rfl)) ?_
   refine one_ (i := 18) (N := none) mz23_21 rfl rfl (one_of HT_.out (by kernel_rfl)) (by decide) (fun K hK => ?_)
   have hs19 : w18.cell? ⟨gb213, 0, none⟩ = some (.int .i64 0) := (blk_cell BK213.out 0).trans rfl
   have hfs19 := blk_frozen BK213.out 0
   have hns19_0 := NB212_213.out
   have hms19_0 := NB213_212.out
   have hs20 : w18.cell? ⟨gb213, 1, none⟩ = some (.int .i64 0) := (blk_cell BK213.out 1).trans rfl
   have hfs20 := blk_frozen BK213.out 1
   have hns20_0 := NB212_213.out
   have hms20_0 := NB213_212.out
   have hs21 : w18.cell? ⟨gb213, 2, none⟩ = some (.int .i64 0) := (blk_cell BK213.out 2).trans rfl
   have hfs21 := blk_frozen BK213.out 2
   have hns21_0 := NB212_213.out
   have hms21_0 := NB213_212.out
   have hs22 : w18.cell? ⟨gb213, 3, none⟩ = some (.bool false) := (blk_cell BK213.out 3).trans rfl
   have hfs22 := blk_frozen BK213.out 3
   have hns22_0 := NB212_213.out
   have hms22_0 := NB213_212.out
   refine skip_ (w1 := ?_) (by rfl) rfl ?_ ?_
   rotate_left
   ·go_simp
    rfl
   refine hK.out _ _ ⟨((cell_far (p := ⟨gb213, _, none⟩) NB212_213.out _).trans (((cell_far (p := ⟨gb213, _, none⟩) NB212_213.out _).trans (((cell_far (p := ⟨gb213, _, none⟩) NB212_213.out _).trans (((cell_far (p := ⟨gb213, _, none⟩) NB212_213.out _).trans (hHeld.1)))))))), ((cell_far (p := ⟨gb213, _, none⟩) NB212_213.out _).trans (((cell_far (p := ⟨gb213, _, none⟩) NB212_213.out _).trans (((cell_far (p := ⟨gb213, _, none⟩) NB212_213.out _).trans (((cell_far (p := ⟨gb213, _, none⟩) NB212_213.out _).trans (hHeld.2.1)))))))), ((cell_far (p := ⟨gb213, _, none⟩) (by first | exact Nat.ne_of_lt (Nat.lt_of_lt_of_le hlt217_0 GW213.out) | (rw [add_block]; exact Nat.ne_of_lt (Nat.lt_of_lt_of_le hlt217_0 GW213.out)) | (show (Addr.add _ _).block ≠ _; rw [add_block]; exact Nat.ne_of_lt (Nat.lt_of_lt_of_le hlt217_0 GW213.out)) | (dsimp only; exact Nat.ne_of_lt (Nat.lt_of_lt_of_le hlt217_0 GW213.out))) _).trans (((cell_far (p := ⟨gb213, _, none⟩) (by first | exact Nat.ne_of_lt (Nat.lt_of_lt_of_le hlt217_0 GW213.out) | (rw [add_block]; exact Nat.ne_of_lt (Nat.lt_of_lt_of_le hlt217_0 GW213.out)) | (show (Addr.add _ _).block ≠ _; rw [add_block]; exact Nat.ne_of_lt (Nat.lt_of_lt_of_le hlt217_0 GW213.out)) | (dsimp only; exact Nat.ne_of_lt (Nat.lt_of_lt_of_le hlt217_0 GW213.out))) _).trans (((cell_far (p := ⟨gb213, _, none⟩) (by first | exact Nat.ne_of_lt (Nat.lt_of_lt_of_le hlt217_0 GW213.out) | (rw [add_block]; exact Nat.ne_of_lt (Nat.lt_of_lt_of_le hlt217_0 GW213.out)) | (show (Addr.add _ _).block ≠ _; rw [add_block]; exact Nat.ne_of_lt (Nat.lt_of_lt_of_le hlt217_0 GW213.out)) | (dsimp only; exact Nat.ne_of_lt (Nat.lt_of_lt_of_le hlt217_0 GW213.out))) _).trans (((cell_far (p := ⟨gb213, _, none⟩) (by first | exact Nat.ne_of_lt (Nat.lt_of_lt_of_le hlt217_0 GW213.out) | (rw [add_block]; exact Nat.ne_of_lt (Nat.lt_of_lt_of_le hlt217_0 GW213.out)) | (show (Addr.add _ _).block ≠ _; rw [add_block]; exact Nat.ne_of_lt (Nat.lt_of_lt_of_le hlt217_0 GW213.out)) | (dsimp only; exact Nat.ne_of_lt (Nat.lt_of_lt_of_le hlt217_0 GW213.out))) _).trans (hHeld.2.2.1)))))))), ((cell_far (p := ⟨gb213, _, none⟩) (by first | exact Nat.ne_of_lt (Nat.lt_of_lt_of_le hlt217_1 GW213.out) | (rw [add_block]; exact Nat.ne_of_lt (Nat.lt_of_lt_of_le hlt217_1 GW213.out)) | (show (Addr.add _ _).block ≠ _; rw [add_block]; exact Nat.ne_of_lt (Nat.lt_of_lt_of_le hlt217_1 GW213.out)) | (dsimp only; exact Nat.ne_of_lt (Nat.lt_of_lt_of_le hlt217_1 GW213.out))) _).trans (((cell_far (p := ⟨gb213, _, none⟩) (by first | exact Nat.ne_of_lt (Nat.lt_of_lt_of_le hlt217_1 GW213.out) | (rw [add_block]; exact Nat.ne_of_lt (Nat.lt_of_lt_of_le hlt217_1 GW213.out)) | (show (Addr.add _ _).block ≠ _; rw [add_block]; exact Nat.ne_of_lt (Nat.lt_of_lt_of_le hlt217_1 GW213.out)) | (dsimp only; exact Nat.ne_of_lt (Nat.lt_of_lt_of_le hlt217_1 GW213.out))) _).trans (((cell_far (p := ⟨gb213, _, none⟩) (by first | exact Nat.ne_of_lt (Nat.lt_of_lt_of_le hlt217_1 GW213.out) | (rw [add_block]; exact Nat.ne_of_lt (Nat.lt_of_lt_of_le hlt217_1 GW213.out)) | (show (Addr.add _ _).block ≠ _; rw [add_block]; exact Nat.ne_of_lt (Nat.lt_of_lt_of_le hlt217_1 GW213.out)) | (dsimp only; exact Nat.ne_of_lt (Nat.lt_of_lt_of_le hlt217_1 GW213.out))) _).trans (((cell_far (p := ⟨gb213, _, none⟩) (by first | exact Nat.ne_of_lt (Nat.lt_of_lt_of_le hlt217_1 GW213.out) | (rw [add_block]; exact Nat.ne_of_lt (Nat.lt_of_lt_of_le hlt217_1 GW213.out)) | (show (Addr.add _ _).block ≠ _; rw [add_block]; exact Nat.ne_of_lt (Nat.lt_of_lt_of_le hlt217_1 GW213.out)) | (dsimp only; exact Nat.ne_of_lt (Nat.lt_of_lt_of_le hlt217_1 GW213.out))) _).trans (hHeld.2.2.2.1)))))))), ((cell_far (p := ⟨gb213, _, none⟩) (by first | exact Nat.ne_of_lt (Nat.lt_of_lt_of_le hlt217_2 GW213.out) | (rw [add_block]; exact Nat.ne_of_lt (Nat.lt_of_lt_of_le hlt217_2 GW213.out)) | (show (Addr.add _ _).block ≠ _; rw [add_block]; exact Nat.ne_of_lt (Nat.lt_of_lt_of_le hlt217_2 GW213.out)) | (dsimp only; exact Nat.ne_of_lt (Nat.lt_of_lt_of_le hlt217_2 GW213.out))) _).trans (((cell_far (p := ⟨gb213, _, none⟩) (by first | exact Nat.ne_of_lt (Nat.lt_of_lt_of_le hlt217_2 GW213.out) | (rw [add_block]; exact Nat.ne_of_lt (Nat.lt_of_lt_of_le hlt217_2 GW213.out)) | (show (Addr.add _ _).block ≠ _; rw [add_block]; exact Nat.ne_of_lt (Nat.lt_of_lt_of_le hlt217_2 GW213.out)) | (dsimp only; exact Nat.ne_of_lt (Nat.lt_of_lt_of_le hlt217_2 GW213.out))) _).trans (((cell_far (p := ⟨gb213, _, none⟩) (by first | exact Nat.ne_of_lt (Nat.lt_of_lt_of_le hlt217_2 GW213.out) | (rw [add_block]; exact Nat.ne_of_lt (Nat.lt_of_lt_of_le hlt217_2 GW213.out)) | (show (Addr.add _ _).block ≠ _; rw [add_block]; exact Nat.ne_of_lt (Nat.lt_of_lt_of_le hlt217_2 GW213.out)) | (dsimp only; exact Nat.ne_of_lt (Nat.lt_of_lt_of_le hlt217_2 GW213.out))) _).trans (((cell_far (p := ⟨gb213, _, none⟩) (by first | exact Nat.ne_of_lt (Nat.lt_of_lt_of_le hlt217_2 GW213.out) | (rw [add_block]; exact Nat.ne_of_lt (Nat.lt_of_lt_of_le hlt217_2 GW213.out)) | (show (Addr.add _ _).block ≠ _; rw [add_block]; exact Nat.ne_of_lt (Nat.lt_of_lt_of_le hlt217_2 GW213.out)) | (dsimp only; exact Nat.ne_of_lt (Nat.lt_of_lt_of_le hlt217_2 GW213.out))) _).trans (hHeld.2.2.2.2))))))))⟩ (fun hHeld => ?_)
   clear hK K
   refine done_ (done_of HT_.out (by kernel_rfl)) ?_
   try go_wp2
   refine bodyPost_ret (results_cell_row rfl _ _ gb213 29 #[.int .i64 (wrap64 (1 + t214)), .int .i64 ((rd_T70 l1_1 (ji4)).f0), .int .i64 t221, .bool t224] (0, 0) _ rfl (by (with_reducible repeat first | apply blk_drewN | apply blk_drew | apply blk_alloc); refine blk_put (cs := #[.int .i64 (wrap64 (1 + t214)), .int .i64 ((rd_T70 l1_1 (ji4)).f0), .int .i64 t221, .bool false]) ?_ 3 _ rfl; (with_reducible repeat first | apply blk_drewN | apply blk_drew | apply blk_alloc); refine blk_put (cs := #[.int .i64 (wrap64 (1 + t214)), .int .i64 ((rd_T70 l1_1 (ji4)).f0), .int .i64 0, .bool false]) ?_ 2 _ rfl; (with_reducible repeat first | apply blk_drewN | apply blk_drew | apply blk_alloc); refine blk_put (cs := #[.int .i64 (wrap64 (1 + t214)), .int .i64 0, .int .i64 0, .bool false]) ?_ 1 _ rfl; (with_reducible repeat first | apply blk_drewN | apply blk_drew | apply blk_alloc); refine blk_put (cs := #[.int .i64 0, .int .i64 0, .int .i64 0, .bool false]) ?_ 0 _ rfl; (with_reducible repeat first | apply blk_drewN | apply blk_drew | apply blk_alloc); exact BK213.out) Try.underlying29 rfl (by kernel_rfl)) rfl ?_
   exact ⟨by first | rfl | (simp [errW_none, errW_some] <;> rfl) | (simp only [← hji4]; first | rfl | (simp [errW_none, errW_some] <;> rfl)) | (simp [*, errW_none, errW_some] <;> rfl), by repeat (first | (with_reducible first | exact HI0.out | apply IsS68.alloc | apply IsS68.drewN | apply IsS68.drew | apply IsS68.set_1 | apply IsS68.set_2 | refine IsS68.far ?_ NB0_212.out _ | refine IsS68.far ?_ NB0_213.out _) | exact HI0.out), by repeat (first | (with_reducible first | exact HB.out | apply below_alloc | apply pw_below_drewN | apply below_drew1 | refine below_set ?_ (IsS68.ge HI0.out) | refine below_set ?_ GE212.out | refine below_set ?_ GE213.out) | exact HB.out), by repeat (first | (with_reducible first | exact HK.out | apply KeepBut.set_ | apply keep_drewN | apply keep_drew | apply keep_alloc | refine keep_far ?_ GW212.out _ | refine keep_far ?_ GW213.out _) | exact HK.out)⟩
  ·rw [if_neg c6] at H
   exact absurd H (by simp)
 ·rw [if_neg c5] at H
  exact absurd H (by simp)

/-! ### spec_A8Rule: function 7 -/
def spec_A8Rule.f (l0 : List Int) (l1_0 : List (S34)) (l1_1 : List (S70)) : Option (Int × Int × Int × Bool) := (spec_l00From.f l0).bind fun bt229 => ((spec_l08Rule.f bt229.1 bt229.2.1 bt229.2.2 l1_0 l1_1).bind fun bt233 => (some (bt233.1, bt233.2.1, bt233.2.2.1, bt233.2.2.2.1)))
set_option maxHeartbeats 8000000 in
set_option maxRecDepth 100000 in
theorem spec_A8Rule.calls (A0 : Option Addr) (c0 : Nat) (l0 : List Int) (A1_0 : Option Addr) (c1_0 : Nat) (l1_0 : List (S34)) (A1_1 : Option Addr) (c1_1 : Nat) (l1_1 : List (S70)) (r1 : Int) (r2 : Int) (r3 : Int) (r4 : Bool) (w : World) (hr0 : Kd.C (Kd.int .u8) w A0 l0.length l0) (hc0 : l0.length ≤ c0) (hr1_0 : Kd.C k34 w A1_0 l1_0.length l1_0) (hc1_0 : l1_0.length ≤ c1_0) (hr1_1 : Kd.C k70 w A1_1 l1_1.length l1_1) (hc1_1 : l1_1.length ≤ c1_1) (h : spec_A8Rule.f l0 l1_0 l1_1 = some (r1, r2, r3, r4)) :
    Calls Try.prog 7 #[.slice A0 l0.length c0, .agg #[.slice A1_0 l1_0.length c1_0, .slice A1_1 l1_1.length c1_1]] w fun e w' => e = .returned (.agg #[.int .i64 r1, .int .i64 r2, .int .i64 r3, .bool r4]) ∧ Below w.heap.size w w' := by
  have hu26 := Try.underlying26
  have hu29 := Try.underlying29
  have HR0 := Aside0.mk hr0
  have HC0 := Aside0.mk hc0
  clear hr0 hc0
  have HR1_0 := Aside0.mk hr1_0
  have HC1_0 := Aside0.mk hc1_0
  clear hr1_0 hc1_0
  have HR1_1 := Aside0.mk hr1_1
  have HC1_1 := Aside0.mk hc1_1
  clear hr1_1 hc1_1
  have HB := Aside0.mk (Below.refl w.heap.size w)
  have H : ((spec_l00From.f l0).bind fun bt229 => ((spec_l08Rule.f bt229.1 bt229.2.1 bt229.2.2 l1_0 l1_1).bind fun bt233 => (some (bt233.1, bt233.2.1, bt233.2.2.1, bt233.2.2.2.1)))) = some (r1, r2, r3, r4) := h
  clear h
  replace H := Option.bind_eq_some_iff.mp H
  obtain ⟨⟨t229, t230, t231⟩, A30, H⟩ := H
  set_option simprocs false in try dsimp only at H
  have A3 := Aside0.mk A30
  clear A30
  replace H := Option.bind_eq_some_iff.mp H
  obtain ⟨⟨t233, t234, t235, t236, t237, t238⟩, A40, H⟩ := H
  set_option simprocs false in try dsimp only at H
  have A4 := Aside0.mk A40
  clear A40
  simp only [Option.some.injEq, Prod.mk.injEq] at H
  obtain ⟨rfl, rfl, rfl, rfl⟩ := H
  go_enter Try.func7, Try.ntmps7
  go_wp2_with (first | ((with_reducible refine gate_dst (N := 3) rfl ?_); refine box_event ?hg (N := 3) ?hd (cs := #[.slice A1_0 l1_0.length c1_0, .slice A1_1 l1_1.length c1_1]) (t := 26) ?hr ?_; (case hd => rfl); (case hg => rfl); (case hr => first | (go_simp; done) | (go_simp; rfl)); intro gb227 hg w5 hbox hb; have n0_ := Aside0.mk (below_step (by repeat first | exact HB.out | apply pw_below_drewN) hb); have n1_ := Aside0.mk (hbox); have n2_ := Aside0.mk ((by rw [hg]; exact (below_size (by repeat first | exact HB.out | apply pw_below_drewN)) : w.heap.size ≤ gb227)); have n3_ := Aside0.mk ((by rw [hg]; exact (below_size (by repeat first | exact HB.out | apply pw_below_drewN)) : w.heap.size ≤ gb227)); clear HB; have HB := n0_; have BK227 := n1_; have GW227 := n2_; have GE227 := n3_; clear n0_ n1_ n2_ n3_; clear hb hbox hg) | ((with_reducible refine gate_dst (N := 4) rfl ?_); refine box_event ?hg (N := 4) ?hd (cs := #[.int .i64 0, .int .i64 0, .int .i64 0, .bool false]) (t := 29) ?hr ?_; (case hd => rfl); (case hg => rfl); (case hr => first | (go_simp; done) | (go_simp; rfl)); intro gb228 hg w6 hbox hb; have n0_ := Aside0.mk (blk_below (by exact BK227.out) hb); have n1_ := Aside0.mk (below_step (by repeat first | exact HB.out | apply pw_below_drewN) hb); have n2_ := Aside0.mk (hbox); have n3_ := Aside0.mk ((by rw [hg]; exact (below_size (by repeat first | exact HB.out | apply pw_below_drewN)) : w.heap.size ≤ gb228)); have n4_ := Aside0.mk ((by rw [hg]; exact (below_size (by repeat first | exact HB.out | apply pw_below_drewN)) : w.heap.size ≤ gb228)); have n5_ := Aside0.mk ((by rw [hg]; exact Nat.ne_of_lt (blk_lt (g := gb227) (o := .cells #[.slice A1_0 l1_0.length c1_0, .slice A1_1 l1_1.length c1_1] 26 (0, 0)) (by exact BK227.out)) : gb227 ≠ gb228)); have n6_ := Aside0.mk ((by rw [hg]; exact Nat.ne_of_gt (blk_lt (g := gb227) (o := .cells #[.slice A1_0 l1_0.length c1_0, .slice A1_1 l1_1.length c1_1] 26 (0, 0)) (by exact BK227.out)) : gb228 ≠ gb227)); clear BK227; clear HB; have BK227 := n0_; have HB := n1_; have BK228 := n2_; have GW228 := n3_; have GE228 := n4_; have NB227_228 := n5_; have NB228_227 := n6_; clear n0_ n1_ n2_ n3_ n4_ n5_ n6_; clear hb hbox hg) | ((with_reducible refine gate_callee (f := 21) rfl ?_); refine goesL_ (some 7) rfl rfl Try.func21 (by kernel_rfl) rfl #[.slice A0 l0.length c0] rfl (by (try simp only [List.map_toArray, List.map_cons, List.map_nil]); first | done | rfl) ?_; (with_reducible refine (spec_l00From.calls _ _ l0 t229 t230 t231 w _ ?side1 ?side2 ?side3 A3.out).mono ?_); (case side1 => repeat (first | (with_reducible first | exact HB.out | apply below_alloc | apply pw_below_drewN | apply below_drew1 | refine below_set ?_ GE227.out | refine below_set ?_ GE228.out) | exact HB.out)); (case side2 => exact HR0.out); (case side3 => exact HC0.out); rintro e w7 ⟨g232, rfl, hi, hb, hb2⟩; refine ⟨_, rfl, ?_⟩; have n0_ := Aside0.mk (blk_below (by exact BK227.out) hb2); have n1_ := Aside0.mk (blk_below (by exact BK228.out) hb2); have n2_ := Aside0.mk (hb); have n3_ := Aside0.mk (hi); have n4_ := Aside0.mk (IsS68.ne_blk hi (blk_below (by exact BK227.out) hb2) (by decide)); have n5_ := Aside0.mk (Ne.symm (IsS68.ne_blk hi (blk_below (by exact BK227.out) hb2) (by decide))); have n6_ := Aside0.mk (IsS68.ne_blk hi (blk_below (by exact BK228.out) hb2) (by decide)); have n7_ := Aside0.mk (Ne.symm (IsS68.ne_blk hi (blk_below (by exact BK228.out) hb2) (by decide))); clear BK227; clear BK228; clear HB; have BK227 := n0_; have BK228 := n1_; have HB := n2_; have HI232 := n3_; have NB232_227 := n4_; have NB227_232 := n5_; have NB232_228 := n6_; have NB228_232 := n7_; clear n0_ n1_ n2_ n3_ n4_ n5_ n6_ n7_; (try clear hb); (try clear hb2); (try clear hk); (try clear hi); have hnb8 := NB227_228.out; have hnc8 := NB228_227.out; have hnb9 := NB227_232.out; have hnc9 := NB232_227.out; have hcz10_0 := (blk_cell BK227.out 0).trans rfl; have hcz10_1 := (blk_cell BK227.out 1).trans rfl; have hfz10_0 := blk_frozen BK227.out 0; have hfz10_1 := blk_frozen BK227.out 1) | ((with_reducible refine gate_callee (f := 23) rfl ?_); refine goesL_ (some 10) rfl rfl Try.func23 (by kernel_rfl) rfl #[.pointer (some ⟨g232, 0, none⟩), .agg #[.slice A1_0 l1_0.length c1_0, .slice A1_1 l1_1.length c1_1]] rfl (by (try simp only [List.map_toArray, List.map_cons, List.map_nil]); first | done | rfl) ?_; (with_reducible refine (spec_l08Rule.calls g232 t229 t230 t231 _ _ l1_0 _ _ l1_1 t233 t234 t235 t236 t237 t238 w _ ?side1 ?side2 ?side3 ?side4 ?side5 ?side6 A4.out).mono ?_); (case side1 => repeat (first | (with_reducible first | exact HI232.out | apply IsS68.alloc | apply IsS68.drewN | apply IsS68.drew | apply IsS68.set_1 | apply IsS68.set_2 | refine IsS68.far ?_ NB232_227.out _ | refine IsS68.far ?_ NB232_228.out _) | exact HI232.out)); (case side2 => repeat (first | (with_reducible first | exact HB.out | apply below_alloc | apply pw_below_drewN | apply below_drew1 | refine below_set ?_ (IsS68.ge HI232.out) | refine below_set ?_ GE227.out | refine below_set ?_ GE228.out) | exact HB.out)); (case side3 => exact Kd.C_foot_came k34_heap HR1_0.out (by repeat (first | (with_reducible first | exact HB.out | apply below_alloc | apply pw_below_drewN | apply below_drew1 | refine below_set ?_ (IsS68.ge HI232.out) | refine below_set ?_ GE227.out | refine below_set ?_ GE228.out) | exact HB.out)) (IsS68.ge HI232.out)); (case side4 => exact HC1_0.out); (case side5 => exact Kd.C_foot_came k70_heap HR1_1.out (by repeat (first | (with_reducible first | exact HB.out | apply below_alloc | apply pw_below_drewN | apply below_drew1 | refine below_set ?_ (IsS68.ge HI232.out) | refine below_set ?_ GE227.out | refine below_set ?_ GE228.out) | exact HB.out)) (IsS68.ge HI232.out)); (case side6 => exact HC1_1.out); rintro e w11 ⟨rfl, hi, hb, hk⟩; refine ⟨_, rfl, ?_⟩; have n0_ := Aside0.mk (KeepBut.blk hk (g' := gb227) (o := .cells #[.slice A1_0 l1_0.length c1_0, .slice A1_1 l1_1.length c1_1] 26 (0, 0)) (by exact BK227.out) NB227_232.out (by simp)); have n1_ := Aside0.mk (KeepBut.blk hk (g' := gb228) (o := .cells #[.int .i64 0, .int .i64 0, .int .i64 0, .bool false] 29 (0, 0)) (by exact BK228.out) NB228_232.out (by simp)); have n2_ := Aside0.mk (hb); have n3_ := Aside0.mk (hi); clear BK227; clear BK228; clear HB; clear HI232; have BK227 := n0_; have BK228 := n1_; have HB := n2_; have HI232 := n3_; clear n0_ n1_ n2_ n3_; (try clear hb); (try clear hb2); (try clear hk); (try clear hi); have hnb12 := NB228_232.out; have hnc12 := NB232_228.out; have hcz13_0 := (blk_cell BK228.out 0).trans rfl; have hcz13_1 := (blk_cell BK228.out 1).trans rfl; have hcz13_2 := (blk_cell BK228.out 2).trans rfl; have hcz13_3 := (blk_cell BK228.out 3).trans rfl; have hfz13_0 := blk_frozen BK228.out 0; have hfz13_1 := blk_frozen BK228.out 1; have hfz13_2 := blk_frozen BK228.out 2; have hfz13_3 := blk_frozen BK228.out 3))
  refine bodyPost_ret (results_cell_row rfl _ _ gb228 29 #[.int .i64 t233, .int .i64 t234, .int .i64 t235, .bool t236] (0, 0) _ rfl (by (with_reducible repeat first | apply blk_drewN | apply blk_drew | apply blk_alloc); refine blk_put (cs := #[.int .i64 t233, .int .i64 t234, .int .i64 t235, .bool false]) ?_ 3 _ rfl; (with_reducible repeat first | apply blk_drewN | apply blk_drew | apply blk_alloc); refine blk_put (cs := #[.int .i64 t233, .int .i64 t234, .int .i64 0, .bool false]) ?_ 2 _ rfl; (with_reducible repeat first | apply blk_drewN | apply blk_drew | apply blk_alloc); refine blk_put (cs := #[.int .i64 t233, .int .i64 0, .int .i64 0, .bool false]) ?_ 1 _ rfl; (with_reducible repeat first | apply blk_drewN | apply blk_drew | apply blk_alloc); refine blk_put (cs := #[.int .i64 0, .int .i64 0, .int .i64 0, .bool false]) ?_ 0 _ rfl; (with_reducible repeat first | apply blk_drewN | apply blk_drew | apply blk_alloc); exact BK228.out) Try.underlying29 rfl (by kernel_rfl)) rfl ?_
  exact ⟨by first | rfl | (simp [*, errW_none, errW_some] <;> rfl), by repeat (first | (with_reducible first | exact HB.out | apply below_alloc | apply pw_below_drewN | apply below_drew1 | refine below_set ?_ (IsS68.ge HI232.out) | refine below_set ?_ GE227.out | refine below_set ?_ GE228.out) | exact HB.out)⟩

/-! ### laws_a8Mix: function 8 -/
def laws_a8Mix.f (a0 : Int) (l1 : List Int) : Option (List Int) := (some (([(a0) % 256] : List Int) : List Int)).bind fun y239 => (if y239.length + l1.length < 140737488355328 then (some (y239 ++ l1)) else (none))
set_option maxHeartbeats 8000000 in
set_option maxRecDepth 100000 in
theorem laws_a8Mix.calls (a0 : Int) (A1 : Option Addr) (c1 : Nat) (l1 : List Int) (r : List Int) (w : World) (hr1 : Kd.C (Kd.int .u8) w A1 l1.length l1) (hc1 : l1.length ≤ c1) (h : laws_a8Mix.f a0 l1 = some r) :
    Calls Try.prog 8 #[.int .i64 a0, .slice A1 l1.length c1] w fun e w' => ∃ v0_ : Value, e = .returned (v0_) ∧ Kd.R (Kd.int .u8) 5 w' w.heap.size (fun _ => True) v0_ r ∧ Below w.heap.size w w' := by
  have HR1 := Aside0.mk hr1
  have HC1 := Aside0.mk hc1
  clear hr1 hc1
  have HB := Aside0.mk (Below.refl w.heap.size w)
  have H : ((some (([(a0) % 256] : List Int) : List Int)).bind fun y239 => (if y239.length + l1.length < 140737488355328 then (some (y239 ++ l1)) else (none))) = some r := h
  clear h
  obtain ⟨y239, hy239⟩ : ∃ y_ : List Int, y_ = (([(a0) % 256] : List Int)) := ⟨_, rfl⟩
  replace H : (if y239.length + l1.length < 140737488355328 then (some (y239 ++ l1)) else (none)) = some r := by first | (rw [hy239]; with_reducible exact H) | (have H2_ := (Option.bind_some _ _).symm.trans H; rw [hy239]; with_reducible exact H2_) | (have H2_ := (Option.bind_some _ _).symm.trans H; with_reducible exact H2_) | with_reducible exact H | (rw [hy239]; exact H) | exact H
  have Ny239 := Aside0.mk hy239
  clear hy239
  by_cases c3 : y239.length + l1.length < 140737488355328
  · rw [if_pos c3] at H
    have LMc3 := Aside0.mk c3
    clear c3
    obtain ⟨y242, hy242⟩ : ∃ y_ : List Int, y_ = (y239 ++ l1) := ⟨_, rfl⟩
    replace H : (some y242) = some r := by first | (rw [hy242]; with_reducible exact H) | (have H2_ := (Option.bind_some _ _).symm.trans H; rw [hy242]; with_reducible exact H2_) | (have H2_ := (Option.bind_some _ _).symm.trans H; with_reducible exact H2_) | with_reducible exact H | (rw [hy242]; exact H) | exact H
    have Ny242 := Aside0.mk hy242
    clear hy242
    obtain rfl := Option.some.inj H
    go_enter Try.func8, Try.ntmps8
    go_wp2_with (first | ((with_reducible refine gate_dst (N := 7) rfl ?_); refine Kd.R_lit (Kd.int .u8) _ 5 ?hg (N := 7) ?hd (xs := ([(a0) % 256] : List Int)) (inner := [.int .u8 ((a0) % 256)]) (ok := fun _ => True) (okp := fun _ => True) ?hr ?hp (fun _ hk => hk) trivial (Below.refl _ _) (Nat.le_refl _) (by simp) ?_; (case hd => rfl); (case hg => rfl); (case hr => first | (go_simp; done) | (go_simp; rfl)); (case hp => exact (Reps.one (show Kd.M (Kd.int .u8) _ _ _ ((a0) % 256) [.int .u8 ((a0) % 256)] from rfl) (Reps.none _ _))); intro v240 w4 ho5 hb hg_ hnew_; clear hg_ hnew_; (first | rw [← Ny239.out] at ho5 | (simp only [Int.reduceToNat] at ho5; rw [← Ny239.out] at ho5)); have n0_ := Aside0.mk (Kd.R_lower ho5 (below_size (by repeat first | exact HB.out | apply pw_below_drewN))); have n1_ := Aside0.mk (below_step (by repeat first | exact HB.out | apply pw_below_drewN) hb); clear HB; have HO241 := n0_; have HB := n1_; clear n0_ n1_; clear hb ho5) | ((with_reducible refine gate_builtin (b := .append) (xs := #[.tmp 7, .tmp 8]) rfl ?_); at_builtin; refine Kd.R_append_rows (Kd.int .u8) (w0 := w) w.heap.size rfl (.tmp 7) (.tmp 8) 22 5 (.int .u8 0) 1 rfl Try.underlying22 info5 rfl (by decide) (by omega) v240 y239 l1 _ _ _ (fun _ => True) (fun _ => False) rfl rfl ?aO ?aR (fun _ _ h => h) (fun _ h => h.elim) ?aF ?aB ?aS ?aL ?_; (case aR => repeat (first | exact (Kd.C_below HR1.out HB.out) | (with_reducible refine Kd.C_alloc ?_ _) | (with_reducible refine Kd.C_drewN ?_ _) | (with_reducible refine Kd.C_drew ?_))); (case aB => exact (by repeat first | exact HB.out | apply pw_below_drewN)); (case aF => exact (fun _ _ => trivial)); (case aO => exact (by (with_reducible repeat (first | apply Kd.R_alloc | apply Kd.R_drewN | apply Kd.R_drew)); exact HO241.out)); (case aS => exact (below_size (by repeat first | exact HB.out | apply pw_below_drewN))); (case aL => have := LMc3.out; omega); intro v243 w6 ho hb hg hat; rw [← Ny242.out] at ho; have n0_ := Aside0.mk (hb); have n1_ := Aside0.mk (ho); clear HB; clear HO241; have HB := n0_; have HO244 := n1_; clear n0_ n1_; clear ho hb hg hat))
    go_ret
    exact ⟨_, by first | rfl | (simp [*, errW_none, errW_some] <;> rfl), by (with_reducible repeat (first | apply Kd.R_alloc | apply Kd.R_drewN | apply Kd.R_drew)); exact HO244.out, by repeat first | exact HB.out | apply pw_below_drewN⟩
  · rw [if_neg c3] at H
    exact absurd H (by simp)

/-! ### laws_a8At: function 9 -/
def laws_a8At.f (l0 : List Int) (a1 : Int) (a2 : Int) : Option (Int) := if a2 ≤ 1 then (some 0) else (if (l0.length : Int) = 0 then (if a2 = 0 then (none) else (some (Int.tmod (wrap64 (a1 * 7)) a2))) else (if 0 ≤ (Int.tmod a1 (l0.length : Int)) then (if (Int.tmod a1 (l0.length : Int)) < (l0.length : Int) then (if 0 ≤ (Int.tmod (wrap64 (a1 + 1)) (l0.length : Int)) then (if (Int.tmod (wrap64 (a1 + 1)) (l0.length : Int)) < (l0.length : Int) then (if a2 = 0 then (none) else (some (Int.tmod (wrap64 ((wrap64 ((wrap64 ((wrap64 (rd l0 (Int.tmod a1 (l0.length : Int)))) * 31)) + (wrap64 (rd l0 (Int.tmod (wrap64 (a1 + 1)) (l0.length : Int)))))) + (wrap64 (Int.tdiv a1 (l0.length : Int))))) a2))) else (none)) else (none)) else (none)) else (none)))
set_option maxHeartbeats 8000000 in
set_option maxRecDepth 100000 in
theorem laws_a8At.calls (A0 : Option Addr) (c0 : Nat) (l0 : List Int) (a1 : Int) (a2 : Int) (r : Int) (w : World) (hr0 : Kd.C (Kd.int .u8) w A0 l0.length l0) (hc0 : l0.length ≤ c0) (h : laws_a8At.f l0 a1 a2 = some r) :
    Calls Try.prog 9 #[.slice A0 l0.length c0, .int .i64 a1, .int .i64 a2] w fun e w' => e = .returned (.int .i64 r) ∧ Drawn0 w w' := by
  have HR0 := Aside0.mk hr0
  have HC0 := Aside0.mk hc0
  clear hr0 hc0
  have H : (if a2 ≤ 1 then (some 0) else (if (l0.length : Int) = 0 then (if a2 = 0 then (none) else (some (Int.tmod (wrap64 (a1 * 7)) a2))) else (if 0 ≤ (Int.tmod a1 (l0.length : Int)) then (if (Int.tmod a1 (l0.length : Int)) < (l0.length : Int) then (if 0 ≤ (Int.tmod (wrap64 (a1 + 1)) (l0.length : Int)) then (if (Int.tmod (wrap64 (a1 + 1)) (l0.length : Int)) < (l0.length : Int) then (if a2 = 0 then (none) else (some (Int.tmod (wrap64 ((wrap64 ((wrap64 ((wrap64 (rd l0 (Int.tmod a1 (l0.length : Int)))) * 31)) + (wrap64 (rd l0 (Int.tmod (wrap64 (a1 + 1)) (l0.length : Int)))))) + (wrap64 (Int.tdiv a1 (l0.length : Int))))) a2))) else (none)) else (none)) else (none)) else (none)))) = some r := h
  clear h
  by_cases c4 : a2 ≤ 1
  · rw [if_pos c4] at H
    have c4b0 : decide (a2 ≤ 1) = true := decide_eq_true c4
    clear c4
    obtain rfl := Option.some.inj H
    go_enter Try.func9, Try.ntmps9
    go_wp2
    repeat (go_quiet (fail); try go_wp2)
    go_ret
    exact ⟨by first | rfl | (simp; done) | (simp [*]; done), by repeat (first | exact Drawn0.refl _ | apply Drawn0.step)⟩
  · rw [if_neg c4] at H
    have c4b0 : decide (a2 ≤ 1) = false := decide_eq_false c4
    clear c4
    by_cases c5 : (l0.length : Int) = 0
    · rw [if_pos c5] at H
      have c5b0 : ((l0.length : Int) == 0) = true := beq_iff_eq.mpr c5
      have c5b1 : ((l0.length : Int) != 0) = false := bne_eq_false_iff_eq.mpr c5
      clear c5
      by_cases c6 : a2 = 0
      · rw [if_pos c6] at H
        exact absurd H (by simp)
      · rw [if_neg c6] at H
        have c6b0 : (a2 == 0) = false := beq_eq_false_iff_ne.mpr c6
        have c6b1 : (a2 != 0) = true := bne_iff_ne.mpr c6
        obtain rfl := Option.some.inj H
        go_enter Try.func9, Try.ntmps9
        go_wp2
        repeat (go_quiet (fail); try go_wp2)
        go_ret
        exact ⟨by first | rfl | (simp; done) | (simp [*]; done), by repeat (first | exact Drawn0.refl _ | apply Drawn0.step)⟩
    · rw [if_neg c5] at H
      have c5b0 : ((l0.length : Int) == 0) = false := beq_eq_false_iff_ne.mpr c5
      have c5b1 : ((l0.length : Int) != 0) = true := bne_iff_ne.mpr c5
      have c5b2 : ¬ (l0 = []) := fun h_ => c5 (by rw [h_]; rfl)
      obtain ⟨ji7, hji7⟩ : ∃ j_ : Int, (Int.tmod a1 (l0.length : Int)) = j_ := ⟨_, rfl⟩
      replace H : (if 0 ≤ (ji7) then (if (ji7) < (l0.length : Int) then (if 0 ≤ (Int.tmod (wrap64 (a1 + 1)) (l0.length : Int)) then (if (Int.tmod (wrap64 (a1 + 1)) (l0.length : Int)) < (l0.length : Int) then (if a2 = 0 then (none) else (some (Int.tmod (wrap64 ((wrap64 ((wrap64 ((wrap64 (rd l0 (ji7))) * 31)) + (wrap64 (rd l0 (Int.tmod (wrap64 (a1 + 1)) (l0.length : Int)))))) + (wrap64 (Int.tdiv a1 (l0.length : Int))))) a2))) else (none)) else (none)) else (none)) else (none)) = some r := by first | (rw [hji7] at H; exact H) | (simp only [hji7] at H ⊢; exact H)
      by_cases c8 : 0 ≤ (ji7)
      · rw [if_pos c8] at H
        have c8b0 : decide (0 ≤ (ji7)) = true := decide_eq_true c8
        clear c8
        by_cases c9 : (ji7) < (l0.length : Int)
        · rw [if_pos c9] at H
          have c9b0 : decide ((ji7) < (l0.length : Int)) = true := decide_eq_true c9
          clear c9
          obtain ⟨ji10, hji10⟩ : ∃ j_ : Int, (Int.tmod (wrap64 (a1 + 1)) (l0.length : Int)) = j_ := ⟨_, rfl⟩
          replace H : (if 0 ≤ (ji10) then (if (ji10) < (l0.length : Int) then (if a2 = 0 then (none) else (some (Int.tmod (wrap64 ((wrap64 ((wrap64 ((wrap64 (rd l0 (ji7))) * 31)) + (wrap64 (rd l0 (ji10))))) + (wrap64 (Int.tdiv a1 (l0.length : Int))))) a2))) else (none)) else (none)) = some r := by first | (rw [hji10] at H; exact H) | (simp only [hji10] at H ⊢; exact H)
          by_cases c11 : 0 ≤ (ji10)
          · rw [if_pos c11] at H
            have c11b0 : decide (0 ≤ (ji10)) = true := decide_eq_true c11
            clear c11
            by_cases c12 : (ji10) < (l0.length : Int)
            · rw [if_pos c12] at H
              have c12b0 : decide ((ji10) < (l0.length : Int)) = true := decide_eq_true c12
              clear c12
              by_cases c13 : a2 = 0
              · rw [if_pos c13] at H
                exact absurd H (by simp)
              · rw [if_neg c13] at H
                have c13b0 : (a2 == 0) = false := beq_eq_false_iff_ne.mpr c13
                have c13b1 : (a2 != 0) = true := bne_iff_ne.mpr c13
                obtain rfl := Option.some.inj H
                have p245 : 0 ≤ ((ji7) : Int) := of_decide_eq_true (by assumption)
                have q245 : (ji7) < (l0.length : Int) := of_decide_eq_true (by assumption)
                obtain ⟨ad245, e245, hx245_0⟩ := Kd.at_int HR0.out (ji7) p245 q245
                cases e245
                replace p245 := eq_true p245
                replace q245 := eq_true q245
                have p246 : 0 ≤ ((ji10) : Int) := of_decide_eq_true (by assumption)
                have q246 : (ji10) < (l0.length : Int) := of_decide_eq_true (by assumption)
                obtain ⟨ad246, e246, hx246_0⟩ := Kd.at_int HR0.out (ji10) p246 q246
                obtain rfl : ad245 = ad246 := (by injection e246)
                replace p246 := eq_true p246
                replace q246 := eq_true q246
                go_enter Try.func9, Try.ntmps9
                go_wp2
                repeat (go_quiet (fail); try go_wp2)
                go_ret
                exact ⟨by first | rfl | (simp; done) | (simp only [← hji7, ← hji10] <;> (first | rfl | simp)) | (simp [*]; done), by repeat (first | exact Drawn0.refl _ | apply Drawn0.step)⟩
            · rw [if_neg c12] at H
              exact absurd H (by simp)
          · rw [if_neg c11] at H
            exact absurd H (by simp)
        · rw [if_neg c9] at H
          exact absurd H (by simp)
      · rw [if_neg c8] at H
        exact absurd H (by simp)

/-! ### laws_FnStays: function 3 -/
mutual
def laws_FnStays.j0 : Nat → Int → List Int → List Int → List Int → Bool → Int → Int → Int → Bool → Option (Bool)
  | 0, _, _, _, _, _, _, _, _, _ => none
  | k + 1, x6, x8, x10, x12, x98, x381000, x381001, x381002, x381003 => if x98 = true then (none) else (laws_FnStays.l0 k x6 x8 x10 x12 (-1) 0 x381000 x381001 x381002 x381003)
def laws_FnStays.l0 : Nat → Int → List Int → List Int → List Int → Int → Int → Int → Int → Int → Bool → Option (Bool)
  | 0, _, _, _, _, _, _, _, _, _, _ => none
  | k + 1, x6, x8, x10, x12, x14, x15, x381000, x381001, x381002, x381003 => if x15 < (x8.length : Int) then (if 0 ≤ x15 then (if (rd x8 x15) < 0 then (laws_FnStays.j2 k x6 x8 x10 x12 x14 x15 true x381000 x381001 x381002 x381003) else (laws_FnStays.j2 k x6 x8 x10 x12 x14 x15 ((rd x8 x15) == x6) x381000 x381001 x381002 x381003)) else (none)) else (laws_FnStays.l2 k x8 x12 0 x381000 x381001 x381002 x381003)
def laws_FnStays.j2 : Nat → Int → List Int → List Int → List Int → Int → Int → Bool → Int → Int → Int → Bool → Option (Bool)
  | 0, _, _, _, _, _, _, _, _, _, _, _ => none
  | k + 1, x6, x8, x10, x12, x14, x15, x117, x381000, x381001, x381002, x381003 => if x117 = true then (laws_FnStays.l0 k x6 x8 x10 x12 x14 (wrap64 (x15 + 1)) x381000 x381001 x381002 x381003) else (laws_FnStays.l1 k x6 x8 x10 x12 x14 x15 (-1) 0 x381000 x381001 x381002 x381003)
def laws_FnStays.l1 : Nat → Int → List Int → List Int → List Int → Int → Int → Int → Int → Int → Int → Int → Bool → Option (Bool)
  | 0, _, _, _, _, _, _, _, _, _, _, _, _ => none
  | k + 1, x6, x8, x10, x12, x14, x15, x16, x17, x381000, x381001, x381002, x381003 => if x17 < (x10.length : Int) then (if 0 ≤ x17 then (if 0 ≤ x15 then (if x15 < (x8.length : Int) then (if (rd x10 x17) = (rd x8 x15) then (laws_FnStays.l1 k x6 x8 x10 x12 x14 x15 x17 (wrap64 (x17 + 1)) x381000 x381001 x381002 x381003) else (laws_FnStays.l1 k x6 x8 x10 x12 x14 x15 x16 (wrap64 (x17 + 1)) x381000 x381001 x381002 x381003)) else (none)) else (none)) else (none)) else (if x16 ≤ x14 then (none) else (laws_FnStays.l0 k x6 x8 x10 x12 x16 (wrap64 (x15 + 1)) x381000 x381001 x381002 x381003))
def laws_FnStays.l2 : Nat → List Int → List Int → Int → Int → Int → Int → Bool → Option (Bool)
  | 0, _, _, _, _, _, _, _ => none
  | k + 1, x8, x12, x18, x381000, x381001, x381002, x381003 => if x18 < (x12.length : Int) then (if x381003 = true then (if 0 ≤ x18 then (if x18 < (x8.length : Int) then (if (rd x12 x18) = (rd x8 x18) then (if (rd x12 x18) ≥ 0 then ((laws_a8Has.f k x8 (rd x12 x18)).bind fun t408 => (if t408 = true then (laws_FnStays.l2 k x8 x12 (wrap64 (x18 + 1)) x381000 x381001 x381002 x381003) else (none))) else (laws_FnStays.l2 k x8 x12 (wrap64 (x18 + 1)) x381000 x381001 x381002 x381003)) else (none)) else (none)) else (none)) else (if 0 ≤ x18 then (if (rd x12 x18) ≥ 0 then ((laws_a8Has.f k x8 (rd x12 x18)).bind fun t411 => (if t411 = true then (laws_FnStays.l2 k x8 x12 (wrap64 (x18 + 1)) x381000 x381001 x381002 x381003) else (none))) else (laws_FnStays.l2 k x8 x12 (wrap64 (x18 + 1)) x381000 x381001 x381002 x381003)) else (none))) else (some true)
end
def laws_FnStays.f (k : Nat) (l0 : List Int) : Option (Bool) := if (l0.length : Int) > 1048576 then (some true) else ((spec_A8Tree.f k l0).bind fun bt366 => ((laws_a8Mix.f 2 l0).bind fun t373 => ((spec_A8Rule.f t373 bt366.1 bt366.2).bind fun bt376 => ((laws_a8At.f l0 0 7).bind fun t381 => ((laws_a8At.f l0 1 (bt366.1.length : Int)).bind fun t382 => (if 0 ≤ t382 then (if t382 < (bt366.1.length : Int) then ((spec_A8Number.f k l0).bind fun t384 => ((impl_Place.f k bt366.1 bt366.2 bt376.1 bt376.2.1 bt376.2.2.1 bt376.2.2.2 t384 (wrap64 (1 + t381)) ([] : List Int)).bind fun bt385 => ((impl_Place.f k bt366.1 bt366.2 bt376.1 bt376.2.1 bt376.2.2.1 bt376.2.2.2 t384 (wrap64 (1 + t381)) (([(rd_T34 bt366.1 t382).f0] : List Int))).bind fun bt392 => ((impl_Place.f k bt366.1 bt366.2 bt376.1 bt376.2.1 bt376.2.2.1 bt376.2.2.2 t384 (wrap64 ((wrap64 (1 + t381)) - 1)) ([] : List Int)).bind fun bt396 => (if bt385.2 = true then (if bt392.2 = true then (if bt396.2 = true then (if (bt385.1.length : Int) = (wrap64 (1 + t381)) then (if (bt392.1.length : Int) = (wrap64 (1 + t381)) then (laws_FnStays.j0 k ((rd_T34 bt366.1 t382).f0) bt385.1 bt392.1 bt396.1 ((bt396.1.length : Int) != (wrap64 ((wrap64 (1 + t381)) - 1))) bt376.1 bt376.2.1 bt376.2.2.1 bt376.2.2.2) else (none)) else (none)) else (none)) else (none)) else (none)))))) else (none)) else (none)))))))
def laws_FnStays.T6 : Bool × List (List Nat × List Nat) := (true, [([], []), ([0], [0]), ([], []), ([], []), ([3], [3]), ([4], [4]), ([2, 5], [2, 5]), ([1, 6], [1, 6]), ([7], [7]), ([8], [8]), ([9, 6, 0, 1, 2, 3, 4, 5, 6, 7, 8, 9], [9])])
def laws_FnStays.B6 : List Nat := [0, 1, 0, 0, 8, 24, 60, 127, 255, 511, 1023]
theorem laws_FnStays.tab6 : rtab .any (opsOf Try.f3 6) = laws_FnStays.T6 := by kernel_rfl
theorem laws_FnStays.bits6 : waitsOk laws_FnStays.T6.2 laws_FnStays.B6 = true := by kernel_rfl
def laws_FnStays.T22 : Bool × List (List Nat × List Nat) := (true, [([], []), ([], []), ([0, 1], [0, 1]), ([2], [2]), ([], []), ([], []), ([4, 5], [4, 5]), ([6], [6]), ([3, 7], [3, 7])])
def laws_FnStays.B22 : List Nat := [0, 0, 3, 7, 0, 0, 48, 112, 255]
theorem laws_FnStays.tab22 : rtab .any (opsOf Try.f3 22) = laws_FnStays.T22 := by kernel_rfl
theorem laws_FnStays.bits22 : waitsOk laws_FnStays.T22.2 laws_FnStays.B22 = true := by kernel_rfl
def laws_FnStays.T30 : Bool × List (List Nat × List Nat) := (true, [([], []), ([0], [0]), ([1], [1]), ([2], [2]), ([2], [2]), ([3, 4, 2], [2, 3, 4]), ([5, 2], [2, 5]), ([2], [2]), ([2], [2]), ([7, 8, 2], [2, 7, 8]), ([9, 2], [2, 9]), ([6, 10, 2], [2, 6, 10]), ([2, 11], [2, 11]), ([12, 2], [12]), ([13], [13]), ([13], [13]), ([14, 15, 13], [13, 14, 15]), ([16, 13], [13, 16]), ([17, 13], [13, 17]), ([18, 13, 13], [13, 18]), ([19], [19]), ([19], [19]), ([19], [19]), ([21, 22, 19], [19, 21, 22]), ([23, 19], [19, 23]), ([20, 24, 19, 19], [19, 20, 24]), ([25, 19], [19, 25]), ([19, 26, 13], [13, 19, 26]), ([13, 27], [13, 27])])
def laws_FnStays.B30 : List Nat := [0, 1, 3, 7, 7, 31, 63, 7, 7, 391, 903, 2047, 4095, 8191, 16383, 16383, 65535, 131071, 262143, 524287, 1048575, 1048575, 1048575, 7340031, 15728639, 33554431, 67108863, 134217727, 268435455]
theorem laws_FnStays.tab30 : rtab .any (opsOf Try.f3 30) = laws_FnStays.T30 := by kernel_rfl
theorem laws_FnStays.bits30 : waitsOk laws_FnStays.T30.2 laws_FnStays.B30 = true := by kernel_rfl
def az_z3 (n m : Nat) : Array Bool := (List.replicate n true ++ List.replicate m false).toArray
def mz3_0 : Array Bool := az_z3 0 11
def mz3_1 : Array Bool := az_z3 1 10
def mz3_2 : Array Bool := #[true, false, true, false, false, false, false, false, false, false, false]
def mz3_3 : Array Bool := #[true, false, true, true, false, false, false, false, false, false, false]
def mz3_4 : Array Bool := az_z3 4 7
def mz3_5 : Array Bool := az_z3 5 6
def mz3_6 : Array Bool := az_z3 6 5
def mz3_7 : Array Bool := az_z3 7 4
def mz3_8 : Array Bool := az_z3 8 3
def mz3_9 : Array Bool := az_z3 9 2
def mz3_10 : Array Bool := az_z3 10 1
def mz3_11 : Array Bool := az_z3 11 0
def mz3_12 : Array Bool := az_z3 0 9
def mz3_13 : Array Bool := az_z3 1 8
def mz3_14 : Array Bool := az_z3 2 7
def mz3_15 : Array Bool := az_z3 3 6
def mz3_16 : Array Bool := #[true, true, true, false, true, false, false, false, false]
def mz3_17 : Array Bool := az_z3 0 29
def mz3_18 : Array Bool := az_z3 1 28
def mz3_19 : Array Bool := az_z3 2 27
def mz3_20 : Array Bool := az_z3 3 26
def mz3_21 : Array Bool := az_z3 4 25
def mz3_22 : Array Bool := az_z3 5 24
def mz3_23 : Array Bool := az_z3 6 23
def mz3_24 : Array Bool := #[true, true, true, true, true, true, false, true, false, false, false, false, false, false, false, false, false, false, false, false, false, false, false, false, false, false, false, false, false]
def mz3_25 : Array Bool := #[true, true, true, true, true, true, false, true, true, false, false, false, false, false, false, false, false, false, false, false, false, false, false, false, false, false, false, false, false]
def mz3_26 : Array Bool := #[true, true, true, true, true, true, false, true, true, true, false, false, false, false, false, false, false, false, false, false, false, false, false, false, false, false, false, false, false]
def mz3_27 : Array Bool := az_z3 10 19
def mz3_28 : Array Bool := az_z3 11 18
def mz3_29 : Array Bool := az_z3 12 17
def mz3_30 : Array Bool := az_z3 13 16
def mz3_31 : Array Bool := az_z3 14 15
def mz3_32 : Array Bool := az_z3 15 14
def mz3_33 : Array Bool := az_z3 16 13
def mz3_34 : Array Bool := az_z3 17 12
def mz3_35 : Array Bool := az_z3 18 11
def mz3_36 : Array Bool := az_z3 19 10
def mz3_37 : Array Bool := az_z3 20 9
def mz3_38 : Array Bool := az_z3 21 8
def mz3_39 : Array Bool := az_z3 22 7
def mz3_40 : Array Bool := az_z3 23 6
def mz3_41 : Array Bool := az_z3 24 5
def mz3_42 : Array Bool := az_z3 25 4
def mz3_43 : Array Bool := az_z3 26 3
def mz3_44 : Array Bool := az_z3 27 2
def mz3_45 : Array Bool := az_z3 28 1
def mz3_46 : Array Bool := az_z3 29 0
def mz3_47 : Array Bool := az_z3 7 22
def mz3_48 : Array Bool := az_z3 8 21
def mz3_49 : Array Bool := az_z3 9 20
theorem pu_z3 {P : Program} {ops : Array Oper} {Q : Exit → Act → World → Prop} {md : Region.Mode} {S : World → Prop} {ds : List Nat} {oi : Oper} {fuel : Nat} {l : Array Bool} {a : Act} {w : World} (i : Nat) (N : Option Tmp) (v : Value) (l' : Array Bool) (hi : ops[i]? = some oi) (hN : oi.dst = N) (hc : anyB md ops l l' i = true)
    (hQ : ∀ c a w, Q (.panic c) (a.put oi.dst v) w → Q (.panic c) a w) (hy : Yields P ops oi v a) (a' : Act) (ha : a.put N v = a')
    (h : wpAnyLast P md ops Q S ds fuel l' a' w) : wpAnyLast P md ops Q S ds (fuel + 1) l a w := pure_ l' hi hN hc hQ hy ha h
theorem pq_z3 : (∀ (l : List Value) (i : Nat) (v : Value), l.toArray.setIfInBounds i v = (l.set i v).toArray) ∧ (∀ (x v : Value) (xs : List Value), (x :: xs).set 0 v = v :: xs) ∧ (∀ (x v : Value) (xs : List Value) (n : Nat), (x :: xs).set (n + 1) v = x :: xs.set n v) ∧ (∀ n : Int, IntKind.i64.wrap n = Go.RowKit.wrap64 n) ∧ (∀ n : Int, IntKind.i32.wrap n = Go.RowKit.wrap32 n) :=
  ⟨fun l i v => List.setIfInBounds_toArray l i v, fun _ _ _ => rfl, fun _ _ _ _ => rfl, i64_w, i32_w⟩
set_option maxHeartbeats 8000000 in
set_option maxRecDepth 100000 in
theorem laws_FnStays.calls (k : Nat) (A0 : Option Addr) (c0 : Nat) (l0 : List Int) (r : Bool) (w : World) (hr0 : Kd.C (Kd.int .u8) w A0 l0.length l0) (hc0 : l0.length ≤ c0) (h : laws_FnStays.f k l0 = some r) :
  Calls Try.prog 3 #[.slice A0 l0.length c0] w fun e w' => e = .returned (.bool r) ∧ Below w.heap.size w w' := by
 have hu26 := Try.underlying26
 have hu29 := Try.underlying29
 have HR0 := Aside0.mk hr0
 have HC0 := Aside0.mk hc0
 clear hr0 hc0
 have HB := Aside0.mk (Below.refl w.heap.size w)
 have H : (if (l0.length : Int) > 1048576 then (some true) else ((spec_A8Tree.f k l0).bind fun bt366 => ((laws_a8Mix.f 2 l0).bind fun t373 => ((spec_A8Rule.f t373 bt366.1 bt366.2).bind fun bt376 => ((laws_a8At.f l0 0 7).bind fun t381 => ((laws_a8At.f l0 1 (bt366.1.length : Int)).bind fun t382 => (if 0 ≤ t382 then (if t382 < (bt366.1.length : Int) then ((spec_A8Number.f k l0).bind fun t384 => ((impl_Place.f k bt366.1 bt366.2 bt376.1 bt376.2.1 bt376.2.2.1 bt376.2.2.2 t384 (wrap64 (1 + t381)) ([] : List Int)).bind fun bt385 => ((impl_Place.f k bt366.1 bt366.2 bt376.1 bt376.2.1 bt376.2.2.1 bt376.2.2.2 t384 (wrap64 (1 + t381)) (([(rd_T34 bt366.1 t382).f0] : List Int))).bind fun bt392 => ((impl_Place.f k bt366.1 bt366.2 bt376.1 bt376.2.1 bt376.2.2.1 bt376.2.2.2 t384 (wrap64 ((wrap64 (1 + t381)) - 1)) ([] : List Int)).bind fun bt396 => (if bt385.2 = true then (if bt392.2 = true then (if bt396.2 = true then (if (bt385.1.length : Int) = (wrap64 (1 + t381)) then (if (bt392.1.length : Int) = (wrap64 (1 + t381)) then (laws_FnStays.j0 k ((rd_T34 bt366.1 t382).f0) bt385.1 bt392.1 bt396.1 ((bt396.1.length : Int) != (wrap64 ((wrap64 (1 + t381)) - 1))) bt376.1 bt376.2.1 bt376.2.2.1 bt376.2.2.2) else (none)) else (none)) else (none)) else (none)) else (none)))))) else (none)) else (none)))))))) = some r := h
 clear h
 by_cases c2 : (l0.length : Int) > 1048576
 ·rw [if_pos c2] at H
  have c2b0 : decide (1048576 < (l0.length : Int)) = true := decide_eq_true c2
  have c2b1 : decide (1048576 < l0.length) = true := decide_eq_true (by omega)
  clear c2
  obtain rfl := Option.some.inj H
  go_enter Try.func3, Try.ntmps3
  go_wp2
  go_ret
  exact ⟨by first | rfl | (simp [*, errW_none, errW_some] <;> rfl), by repeat first | exact HB.out | apply below_alloc | apply pw_below_drewN | apply below_drew1⟩
 ·rw [if_neg c2] at H
  have c2b0 : decide (1048576 < (l0.length : Int)) = false := decide_eq_false c2
  have c2b1 : decide (1048576 < l0.length) = false := decide_eq_false (by omega)
  clear c2
  replace H := Option.bind_eq_some_iff.mp H
  obtain ⟨⟨t366, t369⟩, A30, H⟩ := H
  replace H : ((laws_a8Mix.f 2 l0).bind fun t373 => ((spec_A8Rule.f t373 t366 t369).bind fun bt376 => ((laws_a8At.f l0 0 7).bind fun t381 => ((laws_a8At.f l0 1 (t366.length : Int)).bind fun t382 => (if 0 ≤ t382 then (if t382 < (t366.length : Int) then ((spec_A8Number.f k l0).bind fun t384 => ((impl_Place.f k t366 t369 bt376.1 bt376.2.1 bt376.2.2.1 bt376.2.2.2 t384 (wrap64 (1 + t381)) ([] : List Int)).bind fun bt385 => ((impl_Place.f k t366 t369 bt376.1 bt376.2.1 bt376.2.2.1 bt376.2.2.2 t384 (wrap64 (1 + t381)) (([(rd_T34 t366 t382).f0] : List Int))).bind fun bt392 => ((impl_Place.f k t366 t369 bt376.1 bt376.2.1 bt376.2.2.1 bt376.2.2.2 t384 (wrap64 ((wrap64 (1 + t381)) - 1)) ([] : List Int)).bind fun bt396 => (if bt385.2 = true then (if bt392.2 = true then (if bt396.2 = true then (if (bt385.1.length : Int) = (wrap64 (1 + t381)) then (if (bt392.1.length : Int) = (wrap64 (1 + t381)) then (laws_FnStays.j0 k ((rd_T34 t366 t382).f0) bt385.1 bt392.1 bt396.1 ((bt396.1.length : Int) != (wrap64 ((wrap64 (1 + t381)) - 1))) bt376.1 bt376.2.1 bt376.2.2.1 bt376.2.2.2) else (none)) else (none)) else (none)) else (none)) else (none)))))) else (none)) else (none)))))) = some r := H
  have A3 := Aside0.mk A30
  clear A30
  replace H := Option.bind_eq_some_iff.mp H
  obtain ⟨t373, A40, H⟩ := H
  replace H : ((spec_A8Rule.f t373 t366 t369).bind fun bt376 => ((laws_a8At.f l0 0 7).bind fun t381 => ((laws_a8At.f l0 1 (t366.length : Int)).bind fun t382 => (if 0 ≤ t382 then (if t382 < (t366.length : Int) then ((spec_A8Number.f k l0).bind fun t384 => ((impl_Place.f k t366 t369 bt376.1 bt376.2.1 bt376.2.2.1 bt376.2.2.2 t384 (wrap64 (1 + t381)) ([] : List Int)).bind fun bt385 => ((impl_Place.f k t366 t369 bt376.1 bt376.2.1 bt376.2.2.1 bt376.2.2.2 t384 (wrap64 (1 + t381)) (([(rd_T34 t366 t382).f0] : List Int))).bind fun bt392 => ((impl_Place.f k t366 t369 bt376.1 bt376.2.1 bt376.2.2.1 bt376.2.2.2 t384 (wrap64 ((wrap64 (1 + t381)) - 1)) ([] : List Int)).bind fun bt396 => (if bt385.2 = true then (if bt392.2 = true then (if bt396.2 = true then (if (bt385.1.length : Int) = (wrap64 (1 + t381)) then (if (bt392.1.length : Int) = (wrap64 (1 + t381)) then (laws_FnStays.j0 k ((rd_T34 t366 t382).f0) bt385.1 bt392.1 bt396.1 ((bt396.1.length : Int) != (wrap64 ((wrap64 (1 + t381)) - 1))) bt376.1 bt376.2.1 bt376.2.2.1 bt376.2.2.2) else (none)) else (none)) else (none)) else (none)) else (none)))))) else (none)) else (none))))) = some r := H
  have A4 := Aside0.mk A40
  clear A40
  replace H := Option.bind_eq_some_iff.mp H
  obtain ⟨⟨t376, t377, t378, t379⟩, A50, H⟩ := H
  replace H : ((laws_a8At.f l0 0 7).bind fun t381 => ((laws_a8At.f l0 1 (t366.length : Int)).bind fun t382 => (if 0 ≤ t382 then (if t382 < (t366.length : Int) then ((spec_A8Number.f k l0).bind fun t384 => ((impl_Place.f k t366 t369 t376 t377 t378 t379 t384 (wrap64 (1 + t381)) ([] : List Int)).bind fun bt385 => ((impl_Place.f k t366 t369 t376 t377 t378 t379 t384 (wrap64 (1 + t381)) (([(rd_T34 t366 t382).f0] : List Int))).bind fun bt392 => ((impl_Place.f k t366 t369 t376 t377 t378 t379 t384 (wrap64 ((wrap64 (1 + t381)) - 1)) ([] : List Int)).bind fun bt396 => (if bt385.2 = true then (if bt392.2 = true then (if bt396.2 = true then (if (bt385.1.length : Int) = (wrap64 (1 + t381)) then (if (bt392.1.length : Int) = (wrap64 (1 + t381)) then (laws_FnStays.j0 k ((rd_T34 t366 t382).f0) bt385.1 bt392.1 bt396.1 ((bt396.1.length : Int) != (wrap64 ((wrap64 (1 + t381)) - 1))) t376 t377 t378 t379) else (none)) else (none)) else (none)) else (none)) else (none)))))) else (none)) else (none)))) = some r := H
  have A5 := Aside0.mk A50
  clear A50
  replace H := Option.bind_eq_some_iff.mp H
  obtain ⟨t381, A60, H⟩ := H
  replace H : ((laws_a8At.f l0 1 (t366.length : Int)).bind fun t382 => (if 0 ≤ t382 then (if t382 < (t366.length : Int) then ((spec_A8Number.f k l0).bind fun t384 => ((impl_Place.f k t366 t369 t376 t377 t378 t379 t384 (wrap64 (1 + t381)) ([] : List Int)).bind fun bt385 => ((impl_Place.f k t366 t369 t376 t377 t378 t379 t384 (wrap64 (1 + t381)) (([(rd_T34 t366 t382).f0] : List Int))).bind fun bt392 => ((impl_Place.f k t366 t369 t376 t377 t378 t379 t384 (wrap64 ((wrap64 (1 + t381)) - 1)) ([] : List Int)).bind fun bt396 => (if bt385.2 = true then (if bt392.2 = true then (if bt396.2 = true then (if (bt385.1.length : Int) = (wrap64 (1 + t381)) then (if (bt392.1.length : Int) = (wrap64 (1 + t381)) then (laws_FnStays.j0 k ((rd_T34 t366 t382).f0) bt385.1 bt392.1 bt396.1 ((bt396.1.length : Int) != (wrap64 ((wrap64 (1 + t381)) - 1))) t376 t377 t378 t379) else (none)) else (none)) else (none)) else (none)) else (none)))))) else (none)) else (none))) = some r := H
  have A6 := Aside0.mk A60
  clear A60
  replace H := Option.bind_eq_some_iff.mp H
  obtain ⟨t382, A70, H⟩ := H
  replace H : (if 0 ≤ t382 then (if t382 < (t366.length : Int) then ((spec_A8Number.f k l0).bind fun t384 => ((impl_Place.f k t366 t369 t376 t377 t378 t379 t384 (wrap64 (1 + t381)) ([] : List Int)).bind fun bt385 => ((impl_Place.f k t366 t369 t376 t377 t378 t379 t384 (wrap64 (1 + t381)) (([(rd_T34 t366 t382).f0] : List Int))).bind fun bt392 => ((impl_Place.f k t366 t369 t376 t377 t378 t379 t384 (wrap64 ((wrap64 (1 + t381)) - 1)) ([] : List Int)).bind fun bt396 => (if bt385.2 = true then (if bt392.2 = true then (if bt396.2 = true then (if (bt385.1.length : Int) = (wrap64 (1 + t381)) then (if (bt392.1.length : Int) = (wrap64 (1 + t381)) then (laws_FnStays.j0 k ((rd_T34 t366 t382).f0) bt385.1 bt392.1 bt396.1 ((bt396.1.length : Int) != (wrap64 ((wrap64 (1 + t381)) - 1))) t376 t377 t378 t379) else (none)) else (none)) else (none)) else (none)) else (none)))))) else (none)) else (none)) = some r := H
  have A7 := Aside0.mk A70
  clear A70
  by_cases c8 : 0 ≤ t382
  ·rw [if_pos c8] at H
   have c8b0 : decide (0 ≤ t382) = true := decide_eq_true c8
   clear c8
   by_cases c9 : t382 < (t366.length : Int)
   ·rw [if_pos c9] at H
    have c9b0 : decide (t382 < (t366.length : Int)) = true := decide_eq_true c9
    clear c9
    replace H := Option.bind_eq_some_iff.mp H
    obtain ⟨t384, A100, H⟩ := H
    replace H : ((impl_Place.f k t366 t369 t376 t377 t378 t379 t384 (wrap64 (1 + t381)) ([] : List Int)).bind fun bt385 => ((impl_Place.f k t366 t369 t376 t377 t378 t379 t384 (wrap64 (1 + t381)) (([(rd_T34 t366 t382).f0] : List Int))).bind fun bt392 => ((impl_Place.f k t366 t369 t376 t377 t378 t379 t384 (wrap64 ((wrap64 (1 + t381)) - 1)) ([] : List Int)).bind fun bt396 => (if bt385.2 = true then (if bt392.2 = true then (if bt396.2 = true then (if (bt385.1.length : Int) = (wrap64 (1 + t381)) then (if (bt392.1.length : Int) = (wrap64 (1 + t381)) then (laws_FnStays.j0 k ((rd_T34 t366 t382).f0) bt385.1 bt392.1 bt396.1 ((bt396.1.length : Int) != (wrap64 ((wrap64 (1 + t381)) - 1))) t376 t377 t378 t379) else (none)) else (none)) else (none)) else (none)) else (none))))) = some r := H
    have A10 := Aside0.mk A100
    clear A100
    replace H := Option.bind_eq_some_iff.mp H
    obtain ⟨⟨t385, t388⟩, A110, H⟩ := H
    replace H : ((impl_Place.f k t366 t369 t376 t377 t378 t379 t384 (wrap64 (1 + t381)) (([(rd_T34 t366 t382).f0] : List Int))).bind fun bt392 => ((impl_Place.f k t366 t369 t376 t377 t378 t379 t384 (wrap64 ((wrap64 (1 + t381)) - 1)) ([] : List Int)).bind fun bt396 => (if t388 = true then (if bt392.2 = true then (if bt396.2 = true then (if (t385.length : Int) = (wrap64 (1 + t381)) then (if (bt392.1.length : Int) = (wrap64 (1 + t381)) then (laws_FnStays.j0 k ((rd_T34 t366 t382).f0) t385 bt392.1 bt396.1 ((bt396.1.length : Int) != (wrap64 ((wrap64 (1 + t381)) - 1))) t376 t377 t378 t379) else (none)) else (none)) else (none)) else (none)) else (none)))) = some r := H
    have A11 := Aside0.mk A110
    clear A110
    obtain ⟨y389, hy389⟩ : ∃ y_ : List Int, y_ = (([(rd_T34 t366 t382).f0] : List Int)) := ⟨_, rfl⟩
    replace H : ((impl_Place.f k t366 t369 t376 t377 t378 t379 t384 (wrap64 (1 + t381)) y389).bind fun bt392 => ((impl_Place.f k t366 t369 t376 t377 t378 t379 t384 (wrap64 ((wrap64 (1 + t381)) - 1)) ([] : List Int)).bind fun bt396 => (if t388 = true then (if bt392.2 = true then (if bt396.2 = true then (if (t385.length : Int) = (wrap64 (1 + t381)) then (if (bt392.1.length : Int) = (wrap64 (1 + t381)) then (laws_FnStays.j0 k ((rd_T34 t366 t382).f0) t385 bt392.1 bt396.1 ((bt396.1.length : Int) != (wrap64 ((wrap64 (1 + t381)) - 1))) t376 t377 t378 t379) else (none)) else (none)) else (none)) else (none)) else (none)))) = some r := by first | (rw [hy389]; with_reducible exact H) | (have H2_ := (Option.bind_some _ _).symm.trans H; rw [hy389]; with_reducible exact H2_) | (have H2_ := (Option.bind_some _ _).symm.trans H; with_reducible exact H2_) | with_reducible exact H | (rw [hy389]; exact H) | exact H
    have Ny389 := Aside0.mk hy389
    clear hy389
    replace H := Option.bind_eq_some_iff.mp H
    obtain ⟨⟨t392, t395⟩, A120, H⟩ := H
    replace H : ((impl_Place.f k t366 t369 t376 t377 t378 t379 t384 (wrap64 ((wrap64 (1 + t381)) - 1)) ([] : List Int)).bind fun bt396 => (if t388 = true then (if t395 = true then (if bt396.2 = true then (if (t385.length : Int) = (wrap64 (1 + t381)) then (if (t392.length : Int) = (wrap64 (1 + t381)) then (laws_FnStays.j0 k ((rd_T34 t366 t382).f0) t385 t392 bt396.1 ((bt396.1.length : Int) != (wrap64 ((wrap64 (1 + t381)) - 1))) t376 t377 t378 t379) else (none)) else (none)) else (none)) else (none)) else (none))) = some r := H
    have A12 := Aside0.mk A120
    clear A120
    replace H := Option.bind_eq_some_iff.mp H
    obtain ⟨⟨t396, t399⟩, A130, H⟩ := H
    replace H : (if t388 = true then (if t395 = true then (if t399 = true then (if (t385.length : Int) = (wrap64 (1 + t381)) then (if (t392.length : Int) = (wrap64 (1 + t381)) then (laws_FnStays.j0 k ((rd_T34 t366 t382).f0) t385 t392 t396 ((t396.length : Int) != (wrap64 ((wrap64 (1 + t381)) - 1))) t376 t377 t378 t379) else (none)) else (none)) else (none)) else (none)) else (none)) = some r := H
    have A13 := Aside0.mk A130
    clear A130
    have HC14 := Aside0.mk H
    clear H
    go_enter Try.func3, Try.ntmps3
    try go_wp2_with (first | ((with_reducible refine gate_callee (f := 6) rfl ?_); refine goesL_ (some 23) rfl rfl Try.func6 (by kernel_rfl) rfl #[.slice A0 l0.length c0] rfl (by (try simp only [List.map_toArray, List.map_cons, List.map_nil]); first | done | rfl | (simp only [List.length_drop, List.length_take]; rfl)) ?_; (with_reducible refine (spec_A8Tree.calls k _ _ l0 t366 t369 _ ?side1 ?side2 A3.out).mono ?_); (case side1 => repeat (first | exact HR0.out | (with_reducible refine Kd.C_alloc ?_ _) | (with_reducible refine Kd.C_drewN ?_ _) | (with_reducible refine Kd.C_drew ?_))); (case side2 => exact HC0.out); rintro e w15 ⟨v367, v370, rfl, ho0, ho1, hb⟩; refine ⟨_, rfl, ?_⟩; have n0_ := Aside0.mk (Kd.R_lower ho0 (below_size (by repeat first | exact HB.out | apply below_alloc | apply pw_below_drewN | apply below_drew1))); have n1_ := Aside0.mk (Kd.S_lower ho1 (below_size (by repeat first | exact HB.out | apply below_alloc | apply pw_below_drewN | apply below_drew1))); have n2_ := Aside0.mk (below_step (by repeat first | exact HB.out | apply below_alloc | apply pw_below_drewN | apply below_drew1) hb); clear HB; have HO368 := n0_; have HO371 := n1_; have HB := n2_; clear n0_ n1_ n2_; (try clear hb); (try clear hb2); (try clear hk); (try clear hi); (try clear ho0); (try clear ho1)) | ((with_reducible refine gate_dst (N := 3) rfl ?_); refine box_event ?hg (N := 3) ?hd (cs := #[.slice none 0 0, .slice none 0 0]) (t := 26) ?hr ?_; (case hd => rfl); (case hg => rfl); (case hr => first | (go_simp; done) | (go_simp; rfl)); intro gb372 hg w16 hbox hb; have n0_ := Aside0.mk (Kd.R_below (by (with_reducible repeat (first | apply Kd.R_alloc | apply Kd.R_drewN | apply Kd.R_drew)); exact HO368.out) hb); have n1_ := Aside0.mk (Kd.S_below (by (with_reducible repeat (first | apply Kd.S_alloc | apply Kd.S_drewN | apply Kd.S_drew)); exact HO371.out) hb); have n2_ := Aside0.mk (below_step (by repeat first | exact HB.out | apply below_alloc | apply pw_below_drewN | apply below_drew1) hb); have n3_ := Aside0.mk (hbox); have n4_ := Aside0.mk ((by rw [hg]; exact (below_size (by repeat first | exact HB.out | apply below_alloc | apply pw_below_drewN | apply below_drew1)) : w.heap.size ≤ gb372)); have n5_ := Aside0.mk ((by rw [hg]; exact (below_size (by repeat first | exact HB.out | apply below_alloc | apply pw_below_drewN | apply below_drew1)) : w.heap.size ≤ gb372)); clear HO368; clear HO371; clear HB; have HO368 := n0_; have HO371 := n1_; have HB := n2_; have BK372 := n3_; have GW372 := n4_; have GE372 := n5_; clear n0_ n1_ n2_ n3_ n4_ n5_; clear hb hbox hg; obtain ⟨Ao17, co17, eo17⟩ := Kd.R_slice HO368.out; subst eo17; have hcz18_0 : w16.cell? ⟨gb372, 0, none⟩ = some (.slice none 0 0) := (blk_cell BK372.out 0).trans rfl; have hcz18_1 : w16.cell? ⟨gb372, 1, none⟩ = some (.slice none 0 0) := (blk_cell BK372.out 1).trans rfl; have hfz18_0 := blk_frozen BK372.out 0; have hfz18_1 := blk_frozen BK372.out 1; obtain ⟨Ao19, co19, eo19⟩ := Kd.S_slice HO371.out; subst eo19))
    have n0_ : Aside0 (Kd.R k34 34 ((w16.setCell ⟨gb372, 0, none⟩ (.slice Ao17 t366.length co17)).setCell ⟨gb372, 1, none⟩ (.slice Ao19 t369.length co19)) w.heap.size (fun _ => True) (.slice Ao17 t366.length co17) t366) := ⟨by (with_reducible repeat (first | apply Kd.R_alloc | apply Kd.R_drewN | apply Kd.R_drew)); exact Kd.R_mono (Kd.R_far (p := ⟨gb372, 1, none⟩) (Kd.R_far (p := ⟨gb372, 0, none⟩) (Kd.R_types HO368.out BK372.out (by decide)) (fun _ hk => hk.2) (.slice Ao17 t366.length co17)) (fun _ hk => hk.2) (.slice Ao19 t369.length co19)) (fun _ hk => trivial)⟩
    have n1_ : Aside0 (Kd.S k70 70 ((w16.setCell ⟨gb372, 0, none⟩ (.slice Ao17 t366.length co17)).setCell ⟨gb372, 1, none⟩ (.slice Ao19 t369.length co19)) w.heap.size (fun _ => True) (.slice Ao19 t369.length co19) t369) := ⟨by (with_reducible repeat (first | apply Kd.S_alloc | apply Kd.S_drewN | apply Kd.S_drew)); exact Kd.S_mono (Kd.S_far (p := ⟨gb372, 1, none⟩) (Kd.S_far (p := ⟨gb372, 0, none⟩) (Kd.S_types HO371.out BK372.out (by decide)) (fun _ hk => hk.2) (.slice Ao17 t366.length co17)) (fun _ hk => hk.2) (.slice Ao19 t369.length co19)) (fun _ hk => trivial)⟩
    have n2_ : Aside0 (((w16.setCell ⟨gb372, 0, none⟩ (.slice Ao17 t366.length co17)).setCell ⟨gb372, 1, none⟩ (.slice Ao19 t369.length co19)).heap[gb372]? = some (.cells #[.slice Ao17 t366.length co17, .slice Ao19 t369.length co19] 26 (0, 0))) := ⟨by (with_reducible repeat first | apply blk_drewN | apply blk_drew | apply blk_alloc); refine blk_put (cs := #[.slice Ao17 t366.length co17, .slice none 0 0]) ?_ 1 _ rfl; (with_reducible repeat first | apply blk_drewN | apply blk_drew | apply blk_alloc); refine blk_put (cs := #[.slice none 0 0, .slice none 0 0]) ?_ 0 _ rfl; (with_reducible repeat first | apply blk_drewN | apply blk_drew | apply blk_alloc); exact BK372.out⟩
    have n3_ : Aside0 (Below w.heap.size w ((w16.setCell ⟨gb372, 0, none⟩ (.slice Ao17 t366.length co17)).setCell ⟨gb372, 1, none⟩ (.slice Ao19 t369.length co19))) := ⟨by repeat (first | (with_reducible first | exact HB.out | apply below_alloc | apply pw_below_drewN | apply below_drew1 | refine below_set ?_ GE372.out) | exact HB.out)⟩
    (try clear HO368)
    (try clear HO371)
    (try clear BK372)
    (try clear HB)
    generalize ((w16.setCell ⟨gb372, 0, none⟩ (.slice Ao17 t366.length co17)).setCell ⟨gb372, 1, none⟩ (.slice Ao19 t369.length co19)) = w20 at n0_ n1_ n2_ n3_ ⊢
    have HO368 := n0_
    have HO371 := n1_
    have BK372 := n2_
    have HB := n3_
    clear n0_ n1_ n2_ n3_
    have n0_ := Aside0.mk (Kd.R_drew HO368.out)
    have n1_ := Aside0.mk (Kd.S_drew HO371.out)
    have n2_ := Aside0.mk (blk_drew BK372.out)
    have n3_ := Aside0.mk (below_drew1 HB.out)
    clear HO368
    clear HO371
    clear BK372
    clear HB
    have HO368 := n0_
    have HO371 := n1_
    have BK372 := n2_
    have HB := n3_
    clear n0_ n1_ n2_ n3_
    refine start_ (n := 6) (S := fun w' => w'.cell? ⟨gb372, 0, none⟩ = some (.slice Ao17 t366.length co17) ∧ w'.cell? ⟨gb372, 1, none⟩ = some (.slice Ao19 t369.length co19)) (ds := []) #[false, false, false, false, false, false] (by kernel_rfl) rfl rfl ⟨(blk_cell BK372.out 0).trans rfl, (blk_cell BK372.out 1).trans rfl⟩ (fun hHeld => ?_)
    generalize w20.drew = w21 at HO368 HO371 BK372 HB hHeld ⊢
    refine pu_z3 0 (some 24) ?_ #[true, false, false, false, false, false] rfl rfl (by kernel_rfl) (fun _ _ _ h => h) (Or.inl ⟨by rfl, ?_⟩) ?_ ?_ ?_
    (rotate_left; ·(intro w'; go_simp; with_reducible rfl)); (rotate_left; ·(simp only [Act.put, pq_z3]; rfl))
    refine take_ (i := 2) (N := some 26) (v := ?_) (a' := ?_) #[true, false, true, false, false, false] rfl rfl (by kernel_rfl) (fun _ _ _ h => h) (Or.inl ⟨by rfl, ?_⟩) hHeld ?_ ?_
    (rotate_left; ·(rintro w' ⟨s0, s1⟩; go_simp; with_reducible rfl)); (rotate_left; ·(simp only [Act.put, pq_z3]; rfl))
    refine join_ (σ := Value × Nat) 1 #[true, true, true, true, true, false] (fun s_ => [(25, s_.1), (27, .agg #[.int .i64 t376, .int .i64 t377, .int .i64 t378, .bool t379]), (4, .pointer (some ⟨s_.2, 0, none⟩))]) (fun s_ w' => (w'.cell? ⟨gb372, 0, none⟩ = some (.slice Ao17 t366.length co17) ∧ w'.cell? ⟨gb372, 1, none⟩ = some (.slice Ao19 t369.length co19)) ∧ (Kd.R k34 34 w' w.heap.size (fun _ => True) (.slice Ao17 t366.length co17) t366) ∧ (Kd.S k70 70 w' w.heap.size (fun _ => True) (.slice Ao19 t369.length co19) t369) ∧ (Kd.R (Kd.int .u8) 5 w' w.heap.size (fun _ => True) s_.1 t373) ∧ (w'.heap[gb372]? = some (.cells #[.slice Ao17 t366.length co17, .slice Ao19 t369.length co19] 26 (0, 0))) ∧ (w'.heap[s_.2]? = some (.cells #[.int .i64 0, .int .i64 0, .int .i64 0, .bool false] 29 (0, 0))) ∧ (w.heap.size ≤ s_.2) ∧ (w.heap.size ≤ s_.2) ∧ (gb372 ≠ s_.2) ∧ (s_.2 ≠ gb372) ∧ (Below w.heap.size w w')) ?_ ?_
    rotate_left
    ·intro hCont
     refine two_ (i := 1) (j := 4) (Ni := some 25) (Nj := some 4) #[true, true, true, false, false, false] #[true, false, true, false, true, false] rfl rfl rfl rfl (by kernel_rfl) (by decide) (by decide) (fun K hK => ?_) (fun K hK => ?_)
     ·skip
      refine goes_ Try.func8 (by kernel_rfl) rfl #[.int .i64 2, .slice A0 l0.length c0] (by rfl) rfl rfl (by (try simp only [List.map_toArray, List.map_cons, List.map_nil]); first | done | rfl | (simp only [List.length_drop, List.length_take]; rfl)) ?_
      with_reducible refine (laws_a8Mix.calls 2 _ _ l0 t373 _ ?side1 ?side2 A4.out).mono ?_
      (case side1 => repeat (first | exact (Kd.C_below HR0.out HB.out) | (with_reducible refine Kd.C_alloc ?_ _) | (with_reducible refine Kd.C_drewN ?_ _) | (with_reducible refine Kd.C_drew ?_)))
      (case side2 => exact HC0.out)
      rintro e w22 ⟨v374, rfl, ho0, hb⟩
      refine ⟨_, rfl, ?_⟩
      have n0_ := Aside0.mk (Kd.R_below (by (with_reducible repeat (first | apply Kd.R_alloc | apply Kd.R_drewN | apply Kd.R_drew)); exact HO368.out) hb)
      have n1_ := Aside0.mk (Kd.S_below (by (with_reducible repeat (first | apply Kd.S_alloc | apply Kd.S_drewN | apply Kd.S_drew)); exact HO371.out) hb)
      have n2_ := Aside0.mk (Kd.R_lower ho0 (below_size (by repeat (first | (with_reducible first | exact HB.out | apply below_alloc | apply pw_below_drewN | apply below_drew1 | refine below_set ?_ GE372.out) | exact HB.out))))
      have n3_ := Aside0.mk (blk_below (g := gb372) (o := .cells #[.slice Ao17 t366.length co17, .slice Ao19 t369.length co19] 26 (0, 0)) (by (with_reducible repeat first | apply blk_drewN | apply blk_drew | apply blk_alloc); exact BK372.out) hb)
      have n4_ := Aside0.mk (below_step (by repeat (first | (with_reducible first | exact HB.out | apply below_alloc | apply pw_below_drewN | apply below_drew1 | refine below_set ?_ GE372.out) | exact HB.out)) hb)
      clear HO368
      clear HO371
      clear BK372
      clear HB
      have HO368 := n0_
      have HO371 := n1_
      have HO375 := n2_
      have BK372 := n3_
      have HB := n4_
      clear n0_ n1_ n2_ n3_ n4_
      (try clear hb)
      (try clear hb2)
      (try clear hk)
      (try clear hi)
      (try clear ho0)
      obtain ⟨Ao23, co23, eo23⟩ := Kd.R_slice HO375.out
      (first | subst eo23 | (injection eo23 with f1_ f2_ f3_; have f4_ := f1_.symm; have f5_ := f3_.symm; clear f1_ f2_ f3_; subst f4_; subst f5_))
      refine hK.out _ _ ⟨(blk_cell BK372.out 0).trans rfl, (blk_cell BK372.out 1).trans rfl⟩ (fun hHeld => ?_)
      clear hK K
      refine norm_ (a' := ?_) ?_ ?_
      (rotate_left; ·(show Act.put _ (some 25) _ = _; simp only [Act.put, pq_z3]; rfl))
      refine two_ (i := 3) (j := 4) (Ni := some 27) (Nj := some 4) #[true, true, true, true, false, false] #[true, true, true, false, true, false] rfl rfl rfl rfl (by kernel_rfl) (by decide) (by decide) (fun K hK => ?_) (fun K hK => ?_)
      ·skip
       refine goes_ Try.func7 (by kernel_rfl) rfl #[.slice Ao23 t373.length co23, .agg #[.slice Ao17 t366.length co17, .slice Ao19 t369.length co19]] (by rfl) rfl rfl (by (try simp only [List.map_toArray, List.map_cons, List.map_nil]); first | done | rfl | (simp only [List.length_drop, List.length_take]; rfl)) ?_
       with_reducible refine (spec_A8Rule.calls _ _ t373 _ _ t366 _ _ t369 t376 t377 t378 t379 _ ?side1 ?side2 ?side3 ?side4 ?side5 ?side6 A5.out).mono ?_
       (case side1 => repeat (first | exact (Kd.R_reads' HO375.out).2.2 | (with_reducible refine Kd.C_alloc ?_ _) | (with_reducible refine Kd.C_drewN ?_ _) | (with_reducible refine Kd.C_drew ?_)))
       (case side2 => exact (Kd.R_reads' HO375.out).2.1)
       (case side3 => repeat (first | exact (Kd.R_reads' HO368.out).2.2 | (with_reducible refine Kd.C_alloc ?_ _) | (with_reducible refine Kd.C_drewN ?_ _) | (with_reducible refine Kd.C_drew ?_)))
       (case side4 => exact (Kd.R_reads' HO368.out).2.1)
       (case side5 => repeat (first | exact (Kd.S_reads' HO371.out).2.2 | (with_reducible refine Kd.C_alloc ?_ _) | (with_reducible refine Kd.C_drewN ?_ _) | (with_reducible refine Kd.C_drew ?_)))
       (case side6 => exact (Kd.S_reads' HO371.out).2.1)
       rintro e w24 ⟨rfl, hb⟩
       refine ⟨_, rfl, ?_⟩
       have n0_ := Aside0.mk (Kd.R_below (by (with_reducible repeat (first | apply Kd.R_alloc | apply Kd.R_drewN | apply Kd.R_drew)); exact HO368.out) hb)
       have n1_ := Aside0.mk (Kd.S_below (by (with_reducible repeat (first | apply Kd.S_alloc | apply Kd.S_drewN | apply Kd.S_drew)); exact HO371.out) hb)
       have n2_ := Aside0.mk (Kd.R_below (by (with_reducible repeat (first | apply Kd.R_alloc | apply Kd.R_drewN | apply Kd.R_drew)); exact HO375.out) hb)
       have n3_ := Aside0.mk (blk_below (g := gb372) (o := .cells #[.slice Ao17 t366.length co17, .slice Ao19 t369.length co19] 26 (0, 0)) (by (with_reducible repeat first | apply blk_drewN | apply blk_drew | apply blk_alloc); exact BK372.out) hb)
       have n4_ := Aside0.mk (below_step (by repeat (first | (with_reducible first | exact HB.out | apply below_alloc | apply pw_below_drewN | apply below_drew1 | refine below_set ?_ GE372.out) | exact HB.out)) hb)
       clear HO368
       clear HO371
       clear HO375
       clear BK372
       clear HB
       have HO368 := n0_
       have HO371 := n1_
       have HO375 := n2_
       have BK372 := n3_
       have HB := n4_
       clear n0_ n1_ n2_ n3_ n4_
       (try clear hb)
       (try clear hb2)
       (try clear hk)
       (try clear hi)
       refine hK.out _ _ ⟨(blk_cell BK372.out 0).trans rfl, (blk_cell BK372.out 1).trans rfl⟩ (fun hHeld => ?_)
       clear hK K
       refine norm_ (a' := ?_) ?_ ?_
       (rotate_left; ·(show Act.put _ (some 27) _ = _; simp only [Act.put, pq_z3]; rfl))
       refine one_ (i := 4) (N := some 4) #[true, true, true, true, true, false] rfl rfl (by kernel_rfl) (by decide) (fun K hK => ?_)
       refine box_step ?hg (N := 4) ?hd (cs := #[.int .i64 0, .int .i64 0, .int .i64 0, .bool false]) (t := 29) ?hr ?_; (case hd => rfl); (case hg => rfl); (case hr => first | (go_simp; done) | (go_simp; rfl))
       intro gb380 hg w25 hbox hb
       have n0_ := Aside0.mk (Kd.R_below (by (with_reducible repeat (first | apply Kd.R_alloc | apply Kd.R_drewN | apply Kd.R_drew)); exact HO368.out) hb)
       have n1_ := Aside0.mk (Kd.S_below (by (with_reducible repeat (first | apply Kd.S_alloc | apply Kd.S_drewN | apply Kd.S_drew)); exact HO371.out) hb)
       have n2_ := Aside0.mk (Kd.R_below (by (with_reducible repeat (first | apply Kd.R_alloc | apply Kd.R_drewN | apply Kd.R_drew)); exact HO375.out) hb)
       have n3_ := Aside0.mk (blk_below (g := gb372) (o := .cells #[.slice Ao17 t366.length co17, .slice Ao19 t369.length co19] 26 (0, 0)) (by (with_reducible repeat first | apply blk_drewN | apply blk_drew | apply blk_alloc); exact BK372.out) hb)
       have n4_ := Aside0.mk (below_step (by repeat (first | (with_reducible first | exact HB.out | apply below_alloc | apply pw_below_drewN | apply below_drew1 | refine below_set ?_ GE372.out) | exact HB.out)) hb)
       have n5_ := Aside0.mk (hbox)
       have n6_ := Aside0.mk ((by rw [hg]; exact (below_size (by repeat (first | (with_reducible first | exact HB.out | apply below_alloc | apply pw_below_drewN | apply below_drew1 | refine below_set ?_ GE372.out) | exact HB.out))) : w.heap.size ≤ gb380))
       have n7_ := Aside0.mk ((by rw [hg]; exact (below_size (by repeat (first | (with_reducible first | exact HB.out | apply below_alloc | apply pw_below_drewN | apply below_drew1 | refine below_set ?_ GE372.out) | exact HB.out))) : w.heap.size ≤ gb380))
       have n8_ := Aside0.mk ((by rw [hg]; exact Nat.ne_of_lt (blk_lt (g := gb372) (o := .cells #[.slice Ao17 t366.length co17, .slice Ao19 t369.length co19] 26 (0, 0)) (by (with_reducible repeat first | apply blk_drewN | apply blk_drew | apply blk_alloc); exact BK372.out)) : gb372 ≠ gb380))
       have n9_ := Aside0.mk ((by rw [hg]; exact Nat.ne_of_gt (blk_lt (g := gb372) (o := .cells #[.slice Ao17 t366.length co17, .slice Ao19 t369.length co19] 26 (0, 0)) (by (with_reducible repeat first | apply blk_drewN | apply blk_drew | apply blk_alloc); exact BK372.out)) : gb380 ≠ gb372))
       clear HO368
       clear HO371
       clear HO375
       clear BK372
       clear HB
       have HO368 := n0_
       have HO371 := n1_
       have HO375 := n2_
       have BK372 := n3_
       have HB := n4_
       have BK380 := n5_
       have GW380 := n6_
       have GE380 := n7_
       have NB372_380 := n8_
       have NB380_372 := n9_
       clear n0_ n1_ n2_ n3_ n4_ n5_ n6_ n7_ n8_ n9_
       clear hb hbox hg
       refine hK.out _ _ ⟨(blk_cell BK372.out 0).trans rfl, (blk_cell BK372.out 1).trans rfl⟩ (fun hHeld => ?_)
       clear hK K
       refine norm_ (a' := ?_) ?_ ?_
       (rotate_left; ·(show Act.put _ (some 4) _ = _; simp only [Act.put, pq_z3]; rfl))
       exact norm_ (by simp only [putAll, Act.put, List.setIfInBounds_toArray, List.set_cons_zero, List.set_cons_succ]) (hCont (.slice Ao23 t373.length co23, gb380) _ ⟨hHeld, (by (with_reducible repeat (first | apply Kd.R_alloc | apply Kd.R_drewN | apply Kd.R_drew)); exact HO368.out), (by (with_reducible repeat (first | apply Kd.S_alloc | apply Kd.S_drewN | apply Kd.S_drew)); exact HO371.out), (by (with_reducible repeat (first | apply Kd.R_alloc | apply Kd.R_drewN | apply Kd.R_drew)); exact HO375.out), (by (with_reducible repeat first | apply blk_drewN | apply blk_drew | apply blk_alloc); exact BK372.out), (by (with_reducible repeat first | apply blk_drewN | apply blk_drew | apply blk_alloc); exact BK380.out), GW380.out, GE380.out, NB372_380.out, NB380_372.out, (by repeat (first | (with_reducible first | exact HB.out | apply below_alloc | apply pw_below_drewN | apply below_drew1 | refine below_set ?_ GE372.out | refine below_set ?_ GE380.out) | exact HB.out))⟩)
      ·skip
       refine box_step ?hg (N := 4) ?hd (cs := #[.int .i64 0, .int .i64 0, .int .i64 0, .bool false]) (t := 29) ?hr ?_; (case hd => rfl); (case hg => rfl); (case hr => first | (go_simp; done) | (go_simp; rfl))
       intro gb380 hg w23 hbox hb
       have n0_ := Aside0.mk (Kd.R_below (by (with_reducible repeat (first | apply Kd.R_alloc | apply Kd.R_drewN | apply Kd.R_drew)); exact HO368.out) hb)
       have n1_ := Aside0.mk (Kd.S_below (by (with_reducible repeat (first | apply Kd.S_alloc | apply Kd.S_drewN | apply Kd.S_drew)); exact HO371.out) hb)
       have n2_ := Aside0.mk (Kd.R_below (by (with_reducible repeat (first | apply Kd.R_alloc | apply Kd.R_drewN | apply Kd.R_drew)); exact HO375.out) hb)
       have n3_ := Aside0.mk (blk_below (g := gb372) (o := .cells #[.slice Ao17 t366.length co17, .slice Ao19 t369.length co19] 26 (0, 0)) (by (with_reducible repeat first | apply blk_drewN | apply blk_drew | apply blk_alloc); exact BK372.out) hb)
       have n4_ := Aside0.mk (below_step (by repeat (first | (with_reducible first | exact HB.out | apply below_alloc | apply pw_below_drewN | apply below_drew1 | refine below_set ?_ GE372.out) | exact HB.out)) hb)
       have n5_ := Aside0.mk (hbox)
       have n6_ := Aside0.mk ((by rw [hg]; exact (below_size (by repeat (first | (with_reducible first | exact HB.out | apply below_alloc | apply pw_below_drewN | apply below_drew1 | refine below_set ?_ GE372.out) | exact HB.out))) : w.heap.size ≤ gb380))
       have n7_ := Aside0.mk ((by rw [hg]; exact (below_size (by repeat (first | (with_reducible first | exact HB.out | apply below_alloc | apply pw_below_drewN | apply below_drew1 | refine below_set ?_ GE372.out) | exact HB.out))) : w.heap.size ≤ gb380))
       have n8_ := Aside0.mk ((by rw [hg]; exact Nat.ne_of_lt (blk_lt (g := gb372) (o := .cells #[.slice Ao17 t366.length co17, .slice Ao19 t369.length co19] 26 (0, 0)) (by (with_reducible repeat first | apply blk_drewN | apply blk_drew | apply blk_alloc); exact BK372.out)) : gb372 ≠ gb380))
       have n9_ := Aside0.mk ((by rw [hg]; exact Nat.ne_of_gt (blk_lt (g := gb372) (o := .cells #[.slice Ao17 t366.length co17, .slice Ao19 t369.length co19] 26 (0, 0)) (by (with_reducible repeat first | apply blk_drewN | apply blk_drew | apply blk_alloc); exact BK372.out)) : gb380 ≠ gb372))
       clear HO368
       clear HO371
       clear HO375
       clear BK372
       clear HB
       have HO368 := n0_
       have HO371 := n1_
       have HO375 := n2_
       have BK372 := n3_
       have HB := n4_
       have BK380 := n5_
       have GW380 := n6_
       have GE380 := n7_
       have NB372_380 := n8_
       have NB380_372 := n9_
       clear n0_ n1_ n2_ n3_ n4_ n5_ n6_ n7_ n8_ n9_
       clear hb hbox hg
       obtain ⟨Ao24, co24, eo24⟩ := Kd.R_slice HO375.out
       (first | subst eo24 | (injection eo24 with f1_ f2_ f3_; have f4_ := f1_.symm; have f5_ := f3_.symm; clear f1_ f2_ f3_; subst f4_; subst f5_))
       refine hK.out _ _ ⟨(blk_cell BK372.out 0).trans rfl, (blk_cell BK372.out 1).trans rfl⟩ (fun hHeld => ?_)
       clear hK K
       refine norm_ (a' := ?_) ?_ ?_
       (rotate_left; ·(show Act.put _ (some 4) _ = _; simp only [Act.put, pq_z3]; rfl))
       refine one_ (i := 3) (N := some 27) #[true, true, true, true, true, false] rfl rfl (by kernel_rfl) (by decide) (fun K hK => ?_)
       refine goes_ Try.func7 (by kernel_rfl) rfl #[.slice Ao24 t373.length co24, .agg #[.slice Ao17 t366.length co17, .slice Ao19 t369.length co19]] (by rfl) rfl rfl (by (try simp only [List.map_toArray, List.map_cons, List.map_nil]); first | done | rfl | (simp only [List.length_drop, List.length_take]; rfl)) ?_
       with_reducible refine (spec_A8Rule.calls _ _ t373 _ _ t366 _ _ t369 t376 t377 t378 t379 _ ?side1 ?side2 ?side3 ?side4 ?side5 ?side6 A5.out).mono ?_
       (case side1 => repeat (first | exact (Kd.R_reads' HO375.out).2.2 | (with_reducible refine Kd.C_alloc ?_ _) | (with_reducible refine Kd.C_drewN ?_ _) | (with_reducible refine Kd.C_drew ?_)))
       (case side2 => exact (Kd.R_reads' HO375.out).2.1)
       (case side3 => repeat (first | exact (Kd.R_reads' HO368.out).2.2 | (with_reducible refine Kd.C_alloc ?_ _) | (with_reducible refine Kd.C_drewN ?_ _) | (with_reducible refine Kd.C_drew ?_)))
       (case side4 => exact (Kd.R_reads' HO368.out).2.1)
       (case side5 => repeat (first | exact (Kd.S_reads' HO371.out).2.2 | (with_reducible refine Kd.C_alloc ?_ _) | (with_reducible refine Kd.C_drewN ?_ _) | (with_reducible refine Kd.C_drew ?_)))
       (case side6 => exact (Kd.S_reads' HO371.out).2.1)
       rintro e w25 ⟨rfl, hb⟩
       refine ⟨_, rfl, ?_⟩
       have n0_ := Aside0.mk (Kd.R_below (by (with_reducible repeat (first | apply Kd.R_alloc | apply Kd.R_drewN | apply Kd.R_drew)); exact HO368.out) hb)
       have n1_ := Aside0.mk (Kd.S_below (by (with_reducible repeat (first | apply Kd.S_alloc | apply Kd.S_drewN | apply Kd.S_drew)); exact HO371.out) hb)
       have n2_ := Aside0.mk (Kd.R_below (by (with_reducible repeat (first | apply Kd.R_alloc | apply Kd.R_drewN | apply Kd.R_drew)); exact HO375.out) hb)
       have n3_ := Aside0.mk (blk_below (g := gb372) (o := .cells #[.slice Ao17 t366.length co17, .slice Ao19 t369.length co19] 26 (0, 0)) (by (with_reducible repeat first | apply blk_drewN | apply blk_drew | apply blk_alloc); exact BK372.out) hb)
       have n4_ := Aside0.mk (blk_below (g := gb380) (o := .cells #[.int .i64 0, .int .i64 0, .int .i64 0, .bool false] 29 (0, 0)) (by (with_reducible repeat first | apply blk_drewN | apply blk_drew | apply blk_alloc); exact BK380.out) hb)
       have n5_ := Aside0.mk (below_step (by repeat (first | (with_reducible first | exact HB.out | apply below_alloc | apply pw_below_drewN | apply below_drew1 | refine below_set ?_ GE372.out | refine below_set ?_ GE380.out) | exact HB.out)) hb)
       clear HO368
       clear HO371
       clear HO375
       clear BK372
       clear BK380
       clear HB
       have HO368 := n0_
       have HO371 := n1_
       have HO375 := n2_
       have BK372 := n3_
       have BK380 := n4_
       have HB := n5_
       clear n0_ n1_ n2_ n3_ n4_ n5_
       (try clear hb)
       (try clear hb2)
       (try clear hk)
       (try clear hi)
       refine hK.out _ _ ⟨(blk_cell BK372.out 0).trans rfl, (blk_cell BK372.out 1).trans rfl⟩ (fun hHeld => ?_)
       clear hK K
       refine norm_ (a' := ?_) ?_ ?_
       (rotate_left; ·(show Act.put _ (some 27) _ = _; simp only [Act.put, pq_z3]; rfl))
       exact norm_ (by simp only [putAll, Act.put, List.setIfInBounds_toArray, List.set_cons_zero, List.set_cons_succ]) (hCont (.slice Ao24 t373.length co24, gb380) _ ⟨hHeld, (by (with_reducible repeat (first | apply Kd.R_alloc | apply Kd.R_drewN | apply Kd.R_drew)); exact HO368.out), (by (with_reducible repeat (first | apply Kd.S_alloc | apply Kd.S_drewN | apply Kd.S_drew)); exact HO371.out), (by (with_reducible repeat (first | apply Kd.R_alloc | apply Kd.R_drewN | apply Kd.R_drew)); exact HO375.out), (by (with_reducible repeat first | apply blk_drewN | apply blk_drew | apply blk_alloc); exact BK372.out), (by (with_reducible repeat first | apply blk_drewN | apply blk_drew | apply blk_alloc); exact BK380.out), GW380.out, GE380.out, NB372_380.out, NB380_372.out, (by repeat (first | (with_reducible first | exact HB.out | apply below_alloc | apply pw_below_drewN | apply below_drew1 | refine below_set ?_ GE372.out | refine below_set ?_ GE380.out) | exact HB.out))⟩)
     ·skip
      refine box_step ?hg (N := 4) ?hd (cs := #[.int .i64 0, .int .i64 0, .int .i64 0, .bool false]) (t := 29) ?hr ?_; (case hd => rfl); (case hg => rfl); (case hr => first | (go_simp; done) | (go_simp; rfl))
      intro gb380 hg w22 hbox hb
      have n0_ := Aside0.mk (Kd.R_below (by (with_reducible repeat (first | apply Kd.R_alloc | apply Kd.R_drewN | apply Kd.R_drew)); exact HO368.out) hb)
      have n1_ := Aside0.mk (Kd.S_below (by (with_reducible repeat (first | apply Kd.S_alloc | apply Kd.S_drewN | apply Kd.S_drew)); exact HO371.out) hb)
      have n2_ := Aside0.mk (blk_below (g := gb372) (o := .cells #[.slice Ao17 t366.length co17, .slice Ao19 t369.length co19] 26 (0, 0)) (by (with_reducible repeat first | apply blk_drewN | apply blk_drew | apply blk_alloc); exact BK372.out) hb)
      have n3_ := Aside0.mk (below_step (by repeat (first | (with_reducible first | exact HB.out | apply below_alloc | apply pw_below_drewN | apply below_drew1 | refine below_set ?_ GE372.out) | exact HB.out)) hb)
      have n4_ := Aside0.mk (hbox)
      have n5_ := Aside0.mk ((by rw [hg]; exact (below_size (by repeat (first | (with_reducible first | exact HB.out | apply below_alloc | apply pw_below_drewN | apply below_drew1 | refine below_set ?_ GE372.out) | exact HB.out))) : w.heap.size ≤ gb380))
      have n6_ := Aside0.mk ((by rw [hg]; exact (below_size (by repeat (first | (with_reducible first | exact HB.out | apply below_alloc | apply pw_below_drewN | apply below_drew1 | refine below_set ?_ GE372.out) | exact HB.out))) : w.heap.size ≤ gb380))
      have n7_ := Aside0.mk ((by rw [hg]; exact Nat.ne_of_lt (blk_lt (g := gb372) (o := .cells #[.slice Ao17 t366.length co17, .slice Ao19 t369.length co19] 26 (0, 0)) (by (with_reducible repeat first | apply blk_drewN | apply blk_drew | apply blk_alloc); exact BK372.out)) : gb372 ≠ gb380))
      have n8_ := Aside0.mk ((by rw [hg]; exact Nat.ne_of_gt (blk_lt (g := gb372) (o := .cells #[.slice Ao17 t366.length co17, .slice Ao19 t369.length co19] 26 (0, 0)) (by (with_reducible repeat first | apply blk_drewN | apply blk_drew | apply blk_alloc); exact BK372.out)) : gb380 ≠ gb372))
      clear HO368
      clear HO371
      clear BK372
      clear HB
      have HO368 := n0_
      have HO371 := n1_
      have BK372 := n2_
      have HB := n3_
      have BK380 := n4_
      have GW380 := n5_
      have GE380 := n6_
      have NB372_380 := n7_
      have NB380_372 := n8_
      clear n0_ n1_ n2_ n3_ n4_ n5_ n6_ n7_ n8_
      clear hb hbox hg
      refine hK.out _ _ ⟨(blk_cell BK372.out 0).trans rfl, (blk_cell BK372.out 1).trans rfl⟩ (fun hHeld => ?_)
      clear hK K
      refine norm_ (a' := ?_) ?_ ?_
      (rotate_left; ·(show Act.put _ (some 4) _ = _; simp only [Act.put, pq_z3]; rfl))
      refine one_ (i := 1) (N := some 25) #[true, true, true, false, true, false] rfl rfl (by kernel_rfl) (by decide) (fun K hK => ?_)
      refine goes_ Try.func8 (by kernel_rfl) rfl #[.int .i64 2, .slice A0 l0.length c0] (by rfl) rfl rfl (by (try simp only [List.map_toArray, List.map_cons, List.map_nil]); first | done | rfl | (simp only [List.length_drop, List.length_take]; rfl)) ?_
      with_reducible refine (laws_a8Mix.calls 2 _ _ l0 t373 _ ?side1 ?side2 A4.out).mono ?_
      (case side1 => repeat (first | exact (Kd.C_below HR0.out HB.out) | (with_reducible refine Kd.C_alloc ?_ _) | (with_reducible refine Kd.C_drewN ?_ _) | (with_reducible refine Kd.C_drew ?_)))
      (case side2 => exact HC0.out)
      rintro e w23 ⟨v374, rfl, ho0, hb⟩
      refine ⟨_, rfl, ?_⟩
      have n0_ := Aside0.mk (Kd.R_below (by (with_reducible repeat (first | apply Kd.R_alloc | apply Kd.R_drewN | apply Kd.R_drew)); exact HO368.out) hb)
      have n1_ := Aside0.mk (Kd.S_below (by (with_reducible repeat (first | apply Kd.S_alloc | apply Kd.S_drewN | apply Kd.S_drew)); exact HO371.out) hb)
      have n2_ := Aside0.mk (Kd.R_lower ho0 (below_size (by repeat (first | (with_reducible first | exact HB.out | apply below_alloc | apply pw_below_drewN | apply below_drew1 | refine below_set ?_ GE372.out | refine below_set ?_ GE380.out) | exact HB.out))))
      have n3_ := Aside0.mk (blk_below (g := gb372) (o := .cells #[.slice Ao17 t366.length co17, .slice Ao19 t369.length co19] 26 (0, 0)) (by (with_reducible repeat first | apply blk_drewN | apply blk_drew | apply blk_alloc); exact BK372.out) hb)
      have n4_ := Aside0.mk (blk_below (g := gb380) (o := .cells #[.int .i64 0, .int .i64 0, .int .i64 0, .bool false] 29 (0, 0)) (by (with_reducible repeat first | apply blk_drewN | apply blk_drew | apply blk_alloc); exact BK380.out) hb)
      have n5_ := Aside0.mk (below_step (by repeat (first | (with_reducible first | exact HB.out | apply below_alloc | apply pw_below_drewN | apply below_drew1 | refine below_set ?_ GE372.out | refine below_set ?_ GE380.out) | exact HB.out)) hb)
      clear HO368
      clear HO371
      clear BK372
      clear BK380
      clear HB
      have HO368 := n0_
      have HO371 := n1_
      have HO375 := n2_
      have BK372 := n3_
      have BK380 := n4_
      have HB := n5_
      clear n0_ n1_ n2_ n3_ n4_ n5_
      (try clear hb)
      (try clear hb2)
      (try clear hk)
      (try clear hi)
      (try clear ho0)
      obtain ⟨Ao24, co24, eo24⟩ := Kd.R_slice HO375.out
      (first | subst eo24 | (injection eo24 with f1_ f2_ f3_; have f4_ := f1_.symm; have f5_ := f3_.symm; clear f1_ f2_ f3_; subst f4_; subst f5_))
      refine hK.out _ _ ⟨(blk_cell BK372.out 0).trans rfl, (blk_cell BK372.out 1).trans rfl⟩ (fun hHeld => ?_)
      clear hK K
      refine norm_ (a' := ?_) ?_ ?_
      (rotate_left; ·(show Act.put _ (some 25) _ = _; simp only [Act.put, pq_z3]; rfl))
      refine one_ (i := 3) (N := some 27) #[true, true, true, true, true, false] rfl rfl (by kernel_rfl) (by decide) (fun K hK => ?_)
      refine goes_ Try.func7 (by kernel_rfl) rfl #[.slice Ao24 t373.length co24, .agg #[.slice Ao17 t366.length co17, .slice Ao19 t369.length co19]] (by rfl) rfl rfl (by (try simp only [List.map_toArray, List.map_cons, List.map_nil]); first | done | rfl | (simp only [List.length_drop, List.length_take]; rfl)) ?_
      with_reducible refine (spec_A8Rule.calls _ _ t373 _ _ t366 _ _ t369 t376 t377 t378 t379 _ ?side1 ?side2 ?side3 ?side4 ?side5 ?side6 A5.out).mono ?_
      (case side1 => repeat (first | exact (Kd.R_reads' HO375.out).2.2 | (with_reducible refine Kd.C_alloc ?_ _) | (with_reducible refine Kd.C_drewN ?_ _) | (with_reducible refine Kd.C_drew ?_)))
      (case side2 => exact (Kd.R_reads' HO375.out).2.1)
      (case side3 => repeat (first | exact (Kd.R_reads' HO368.out).2.2 | (with_reducible refine Kd.C_alloc ?_ _) | (with_reducible refine Kd.C_drewN ?_ _) | (with_reducible refine Kd.C_drew ?_)))
      (case side4 => exact (Kd.R_reads' HO368.out).2.1)
      (case side5 => repeat (first | exact (Kd.S_reads' HO371.out).2.2 | (with_reducible refine Kd.C_alloc ?_ _) | (with_reducible refine Kd.C_drewN ?_ _) | (with_reducible refine Kd.C_drew ?_)))
      (case side6 => exact (Kd.S_reads' HO371.out).2.1)
      rintro e w25 ⟨rfl, hb⟩
      refine ⟨_, rfl, ?_⟩
      have n0_ := Aside0.mk (Kd.R_below (by (with_reducible repeat (first | apply Kd.R_alloc | apply Kd.R_drewN | apply Kd.R_drew)); exact HO368.out) hb)
      have n1_ := Aside0.mk (Kd.S_below (by (with_reducible repeat (first | apply Kd.S_alloc | apply Kd.S_drewN | apply Kd.S_drew)); exact HO371.out) hb)
      have n2_ := Aside0.mk (Kd.R_below (by (with_reducible repeat (first | apply Kd.R_alloc | apply Kd.R_drewN | apply Kd.R_drew)); exact HO375.out) hb)
      have n3_ := Aside0.mk (blk_below (g := gb372) (o := .cells #[.slice Ao17 t366.length co17, .slice Ao19 t369.length co19] 26 (0, 0)) (by (with_reducible repeat first | apply blk_drewN | apply blk_drew | apply blk_alloc); exact BK372.out) hb)
      have n4_ := Aside0.mk (blk_below (g := gb380) (o := .cells #[.int .i64 0, .int .i64 0, .int .i64 0, .bool false] 29 (0, 0)) (by (with_reducible repeat first | apply blk_drewN | apply blk_drew | apply blk_alloc); exact BK380.out) hb)
      have n5_ := Aside0.mk (below_step (by repeat (first | (with_reducible first | exact HB.out | apply below_alloc | apply pw_below_drewN | apply below_drew1 | refine below_set ?_ GE372.out | refine below_set ?_ GE380.out) | exact HB.out)) hb)
      clear HO368
      clear HO371
      clear HO375
      clear BK372
      clear BK380
      clear HB
      have HO368 := n0_
      have HO371 := n1_
      have HO375 := n2_
      have BK372 := n3_
      have BK380 := n4_
      have HB := n5_
      clear n0_ n1_ n2_ n3_ n4_ n5_
      (try clear hb)
      (try clear hb2)
      (try clear hk)
      (try clear hi)
      refine hK.out _ _ ⟨(blk_cell BK372.out 0).trans rfl, (blk_cell BK372.out 1).trans rfl⟩ (fun hHeld => ?_)
      clear hK K
      refine norm_ (a' := ?_) ?_ ?_
      (rotate_left; ·(show Act.put _ (some 27) _ = _; simp only [Act.put, pq_z3]; rfl))
      exact norm_ (by simp only [putAll, Act.put, List.setIfInBounds_toArray, List.set_cons_zero, List.set_cons_succ]) (hCont (.slice Ao24 t373.length co24, gb380) _ ⟨hHeld, (by (with_reducible repeat (first | apply Kd.R_alloc | apply Kd.R_drewN | apply Kd.R_drew)); exact HO368.out), (by (with_reducible repeat (first | apply Kd.S_alloc | apply Kd.S_drewN | apply Kd.S_drew)); exact HO371.out), (by (with_reducible repeat (first | apply Kd.R_alloc | apply Kd.R_drewN | apply Kd.R_drew)); exact HO375.out), (by (with_reducible repeat first | apply blk_drewN | apply blk_drew | apply blk_alloc); exact BK372.out), (by (with_reducible repeat first | apply blk_drewN | apply blk_drew | apply blk_alloc); exact BK380.out), GW380.out, GE380.out, NB372_380.out, NB380_372.out, (by repeat (first | (with_reducible first | exact HB.out | apply below_alloc | apply pw_below_drewN | apply below_drew1 | refine below_set ?_ GE372.out | refine below_set ?_ GE380.out) | exact HB.out))⟩)
    rintro ⟨v374, gb380⟩ w26 ⟨hS_, h0_, h1_, h2_, h3_, h4_, h5_, h6_, h7_, h8_, h9_⟩
    have n0_ : Aside0 (Kd.R k34 34 w26 w.heap.size (fun _ => True) (.slice Ao17 t366.length co17) t366) := ⟨h0_⟩
    have n1_ : Aside0 (Kd.S k70 70 w26 w.heap.size (fun _ => True) (.slice Ao19 t369.length co19) t369) := ⟨h1_⟩
    have n2_ : Aside0 (Kd.R (Kd.int .u8) 5 w26 w.heap.size (fun _ => True) v374 t373) := ⟨h2_⟩
    have n3_ : Aside0 (w26.heap[gb372]? = some (.cells #[.slice Ao17 t366.length co17, .slice Ao19 t369.length co19] 26 (0, 0))) := ⟨h3_⟩
    have n4_ : Aside0 (w26.heap[gb380]? = some (.cells #[.int .i64 0, .int .i64 0, .int .i64 0, .bool false] 29 (0, 0))) := ⟨h4_⟩
    have n5_ : Aside0 (w.heap.size ≤ gb380) := ⟨h5_⟩
    have n6_ : Aside0 (w.heap.size ≤ gb380) := ⟨h6_⟩
    have n7_ : Aside0 (gb372 ≠ gb380) := ⟨h7_⟩
    have n8_ : Aside0 (gb380 ≠ gb372) := ⟨h8_⟩
    have n9_ : Aside0 (Below w.heap.size w w26) := ⟨h9_⟩
    clear HO368
    clear HO371
    clear BK372
    clear HB
    clear h0_ h1_ h2_ h3_ h4_ h5_ h6_ h7_ h8_ h9_
    have HO368 := n0_
    have HO371 := n1_
    have HO375 := n2_
    have BK372 := n3_
    have BK380 := n4_
    have GW380 := n5_
    have GE380 := n6_
    have NB372_380 := n7_
    have NB380_372 := n8_
    have HB := n9_
    clear n0_ n1_ n2_ n3_ n4_ n5_ n6_ n7_ n8_ n9_
    have hHeld : w26.cell? ⟨gb372, 0, none⟩ = some (.slice Ao17 t366.length co17) ∧ w26.cell? ⟨gb372, 1, none⟩ = some (.slice Ao19 t369.length co19) := hS_
    refine norm_ (a' := ?_) ?_ ?_
    rotate_left
    ·simp only [putAll, Act.put, List.setIfInBounds_toArray, List.set_cons_zero, List.set_cons_succ]
     rfl
    refine one_ (i := 5) (N := none) #[true, true, true, true, true, true] rfl rfl (by kernel_rfl) (by decide) (fun K hK => ?_)
    have hs27 : w26.cell? ⟨gb380, 0, none⟩ = some (.int .i64 0) := (blk_cell BK380.out 0).trans rfl
    have hfs27 := blk_frozen BK380.out 0
    have hns27_0 := NB372_380.out
    have hms27_0 := NB380_372.out
    have hs28 : w26.cell? ⟨gb380, 1, none⟩ = some (.int .i64 0) := (blk_cell BK380.out 1).trans rfl
    have hfs28 := blk_frozen BK380.out 1
    have hns28_0 := NB372_380.out
    have hms28_0 := NB380_372.out
    have hs29 : w26.cell? ⟨gb380, 2, none⟩ = some (.int .i64 0) := (blk_cell BK380.out 2).trans rfl
    have hfs29 := blk_frozen BK380.out 2
    have hns29_0 := NB372_380.out
    have hms29_0 := NB380_372.out
    have hs30 : w26.cell? ⟨gb380, 3, none⟩ = some (.bool false) := (blk_cell BK380.out 3).trans rfl
    have hfs30 := blk_frozen BK380.out 3
    have hns30_0 := NB372_380.out
    have hms30_0 := NB380_372.out
    refine skip_ (w1 := ?_) (by rfl) rfl ?_ ?_
    rotate_left
    ·go_simp
     rfl
    refine hK.out _ _ ⟨((cell_far (p := ⟨gb380, _, none⟩) NB372_380.out _).trans (((cell_far (p := ⟨gb380, _, none⟩) NB372_380.out _).trans (((cell_far (p := ⟨gb380, _, none⟩) NB372_380.out _).trans (((cell_far (p := ⟨gb380, _, none⟩) NB372_380.out _).trans (hHeld.1)))))))), ((cell_far (p := ⟨gb380, _, none⟩) NB372_380.out _).trans (((cell_far (p := ⟨gb380, _, none⟩) NB372_380.out _).trans (((cell_far (p := ⟨gb380, _, none⟩) NB372_380.out _).trans (((cell_far (p := ⟨gb380, _, none⟩) NB372_380.out _).trans (hHeld.2))))))))⟩ (fun hHeld => ?_)
    clear hK K
    refine done_ (by kernel_rfl) ?_
    try go_wp2_with (first | ((with_reducible refine gate_callee (f := 9) rfl ?_); refine goesL_ (some 29) rfl rfl Try.func9 (by kernel_rfl) rfl #[.slice A0 l0.length c0, .int .i64 0, .int .i64 7] rfl (by (try simp only [List.map_toArray, List.map_cons, List.map_nil]); first | done | rfl | (simp only [List.length_drop, List.length_take]; rfl)) ?_; (with_reducible refine (laws_a8At.calls _ _ l0 0 7 t381 _ ?side1 ?side2 A6.out).mono ?_); (case side1 => exact Kd.C_below HR0.out (by repeat (first | (with_reducible first | exact HB.out | apply below_alloc | apply pw_below_drewN | apply below_drew1 | refine below_set ?_ GE372.out | refine below_set ?_ GE380.out) | exact HB.out))); (case side2 => exact HC0.out); rintro e w' ⟨rfl, ⟨nd, rfl⟩⟩; refine ⟨_, rfl, ?_⟩))
    have n0_ : Aside0 (Kd.R k34 34 ((((w26.setCell ⟨gb380, 0, none⟩ (.int .i64 t376)).setCell ⟨gb380, 1, none⟩ (.int .i64 t377)).setCell ⟨gb380, 2, none⟩ (.int .i64 t378)).setCell ⟨gb380, 3, none⟩ (.bool t379)) w.heap.size (fun _ => True) (.slice Ao17 t366.length co17) t366) := ⟨by (with_reducible repeat (first | apply Kd.R_alloc | apply Kd.R_drewN | apply Kd.R_drew)); exact Kd.R_mono (Kd.R_far (p := ⟨gb380, 3, none⟩) (Kd.R_far (p := ⟨gb380, 2, none⟩) (Kd.R_far (p := ⟨gb380, 1, none⟩) (Kd.R_far (p := ⟨gb380, 0, none⟩) (Kd.R_types HO368.out BK380.out (by decide)) (fun _ hk => hk.2) (.int .i64 t376)) (fun _ hk => hk.2) (.int .i64 t377)) (fun _ hk => hk.2) (.int .i64 t378)) (fun _ hk => hk.2) (.bool t379)) (fun _ hk => trivial)⟩
    have n1_ : Aside0 (Kd.S k70 70 ((((w26.setCell ⟨gb380, 0, none⟩ (.int .i64 t376)).setCell ⟨gb380, 1, none⟩ (.int .i64 t377)).setCell ⟨gb380, 2, none⟩ (.int .i64 t378)).setCell ⟨gb380, 3, none⟩ (.bool t379)) w.heap.size (fun _ => True) (.slice Ao19 t369.length co19) t369) := ⟨by (with_reducible repeat (first | apply Kd.S_alloc | apply Kd.S_drewN | apply Kd.S_drew)); exact Kd.S_mono (Kd.S_far (p := ⟨gb380, 3, none⟩) (Kd.S_far (p := ⟨gb380, 2, none⟩) (Kd.S_far (p := ⟨gb380, 1, none⟩) (Kd.S_far (p := ⟨gb380, 0, none⟩) (Kd.S_types HO371.out BK380.out (by decide)) (fun _ hk => hk.2) (.int .i64 t376)) (fun _ hk => hk.2) (.int .i64 t377)) (fun _ hk => hk.2) (.int .i64 t378)) (fun _ hk => hk.2) (.bool t379)) (fun _ hk => trivial)⟩
    have n2_ : Aside0 (Kd.R (Kd.int .u8) 5 ((((w26.setCell ⟨gb380, 0, none⟩ (.int .i64 t376)).setCell ⟨gb380, 1, none⟩ (.int .i64 t377)).setCell ⟨gb380, 2, none⟩ (.int .i64 t378)).setCell ⟨gb380, 3, none⟩ (.bool t379)) w.heap.size (fun _ => True) v374 t373) := ⟨by (with_reducible repeat (first | apply Kd.R_alloc | apply Kd.R_drewN | apply Kd.R_drew)); exact Kd.R_mono (Kd.R_far (p := ⟨gb380, 3, none⟩) (Kd.R_far (p := ⟨gb380, 2, none⟩) (Kd.R_far (p := ⟨gb380, 1, none⟩) (Kd.R_far (p := ⟨gb380, 0, none⟩) (Kd.R_types HO375.out BK380.out (by decide)) (fun _ hk => hk.2) (.int .i64 t376)) (fun _ hk => hk.2) (.int .i64 t377)) (fun _ hk => hk.2) (.int .i64 t378)) (fun _ hk => hk.2) (.bool t379)) (fun _ hk => trivial)⟩
    have n3_ : Aside0 (((((w26.setCell ⟨gb380, 0, none⟩ (.int .i64 t376)).setCell ⟨gb380, 1, none⟩ (.int .i64 t377)).setCell ⟨gb380, 2, none⟩ (.int .i64 t378)).setCell ⟨gb380, 3, none⟩ (.bool t379)).heap[gb372]? = some (.cells #[.slice Ao17 t366.length co17, .slice Ao19 t369.length co19] 26 (0, 0))) := ⟨by (with_reducible repeat first | apply blk_drewN | apply blk_drew | apply blk_alloc); refine blk_far ?_ NB372_380.out _; (with_reducible repeat first | apply blk_drewN | apply blk_drew | apply blk_alloc); refine blk_far ?_ NB372_380.out _; (with_reducible repeat first | apply blk_drewN | apply blk_drew | apply blk_alloc); refine blk_far ?_ NB372_380.out _; (with_reducible repeat first | apply blk_drewN | apply blk_drew | apply blk_alloc); refine blk_far ?_ NB372_380.out _; (with_reducible repeat first | apply blk_drewN | apply blk_drew | apply blk_alloc); exact BK372.out⟩
    have n4_ : Aside0 (((((w26.setCell ⟨gb380, 0, none⟩ (.int .i64 t376)).setCell ⟨gb380, 1, none⟩ (.int .i64 t377)).setCell ⟨gb380, 2, none⟩ (.int .i64 t378)).setCell ⟨gb380, 3, none⟩ (.bool t379)).heap[gb380]? = some (.cells #[.int .i64 t376, .int .i64 t377, .int .i64 t378, .bool t379] 29 (0, 0))) := ⟨by (with_reducible repeat first | apply blk_drewN | apply blk_drew | apply blk_alloc); refine blk_put (cs := #[.int .i64 t376, .int .i64 t377, .int .i64 t378, .bool false]) ?_ 3 _ rfl; (with_reducible repeat first | apply blk_drewN | apply blk_drew | apply blk_alloc); refine blk_put (cs := #[.int .i64 t376, .int .i64 t377, .int .i64 0, .bool false]) ?_ 2 _ rfl; (with_reducible repeat first | apply blk_drewN | apply blk_drew | apply blk_alloc); refine blk_put (cs := #[.int .i64 t376, .int .i64 0, .int .i64 0, .bool false]) ?_ 1 _ rfl; (with_reducible repeat first | apply blk_drewN | apply blk_drew | apply blk_alloc); refine blk_put (cs := #[.int .i64 0, .int .i64 0, .int .i64 0, .bool false]) ?_ 0 _ rfl; (with_reducible repeat first | apply blk_drewN | apply blk_drew | apply blk_alloc); exact BK380.out⟩
    have n5_ : Aside0 (Below w.heap.size w ((((w26.setCell ⟨gb380, 0, none⟩ (.int .i64 t376)).setCell ⟨gb380, 1, none⟩ (.int .i64 t377)).setCell ⟨gb380, 2, none⟩ (.int .i64 t378)).setCell ⟨gb380, 3, none⟩ (.bool t379))) := ⟨by repeat (first | (with_reducible first | exact HB.out | apply below_alloc | apply pw_below_drewN | apply below_drew1 | refine below_set ?_ GE372.out | refine below_set ?_ GE380.out) | exact HB.out)⟩
    (try clear HO368)
    (try clear HO371)
    (try clear HO375)
    (try clear BK372)
    (try clear BK380)
    (try clear HB)
    generalize ((((w26.setCell ⟨gb380, 0, none⟩ (.int .i64 t376)).setCell ⟨gb380, 1, none⟩ (.int .i64 t377)).setCell ⟨gb380, 2, none⟩ (.int .i64 t378)).setCell ⟨gb380, 3, none⟩ (.bool t379)) = w31 at n0_ n1_ n2_ n3_ n4_ n5_ ⊢
    have HO368 := n0_
    have HO371 := n1_
    have HO375 := n2_
    have BK372 := n3_
    have BK380 := n4_
    have HB := n5_
    clear n0_ n1_ n2_ n3_ n4_ n5_
    (try (rw [drewN_self w31]; generalize hq_ : World.drewN w31 _ = w31; have n0_ : Aside0 (Kd.R k34 34 w31 w.heap.size (fun _ => True) (.slice Ao17 t366.length co17) t366) := ⟨by rw [← hq_]; exact (by (with_reducible repeat (first | apply Kd.R_alloc | apply Kd.R_drewN | apply Kd.R_drew)); exact HO368.out)⟩; have n1_ : Aside0 (Kd.S k70 70 w31 w.heap.size (fun _ => True) (.slice Ao19 t369.length co19) t369) := ⟨by rw [← hq_]; exact (by (with_reducible repeat (first | apply Kd.S_alloc | apply Kd.S_drewN | apply Kd.S_drew)); exact HO371.out)⟩; have n2_ : Aside0 (Kd.R (Kd.int .u8) 5 w31 w.heap.size (fun _ => True) v374 t373) := ⟨by rw [← hq_]; exact (by (with_reducible repeat (first | apply Kd.R_alloc | apply Kd.R_drewN | apply Kd.R_drew)); exact HO375.out)⟩; have n3_ : Aside0 (w31.heap[gb372]? = some (.cells #[.slice Ao17 t366.length co17, .slice Ao19 t369.length co19] 26 (0, 0))) := ⟨by rw [← hq_]; exact (by (with_reducible repeat first | apply blk_drewN | apply blk_drew | apply blk_alloc); exact BK372.out)⟩; have n4_ : Aside0 (w31.heap[gb380]? = some (.cells #[.int .i64 t376, .int .i64 t377, .int .i64 t378, .bool t379] 29 (0, 0))) := ⟨by rw [← hq_]; exact (by (with_reducible repeat first | apply blk_drewN | apply blk_drew | apply blk_alloc); exact BK380.out)⟩; have n5_ : Aside0 (Below w.heap.size w w31) := ⟨by rw [← hq_]; exact (by repeat (first | (with_reducible first | exact HB.out | apply below_alloc | apply pw_below_drewN | apply below_drew1 | refine below_set ?_ GE372.out | refine below_set ?_ GE380.out) | exact HB.out))⟩; clear HO368 HO371 HO375 BK372 BK380 HB hq_; have HO368 := n0_; have HO371 := n1_; have HO375 := n2_; have BK372 := n3_; have BK380 := n4_; have HB := n5_; clear n0_ n1_ n2_ n3_ n4_ n5_))
    have n0_ := Aside0.mk (Kd.R_drew HO368.out)
    have n1_ := Aside0.mk (Kd.S_drew HO371.out)
    have n2_ := Aside0.mk (Kd.R_drew HO375.out)
    have n3_ := Aside0.mk (blk_drew BK372.out)
    have n4_ := Aside0.mk (blk_drew BK380.out)
    have n5_ := Aside0.mk (below_drew1 HB.out)
    clear HO368
    clear HO371
    clear HO375
    clear BK372
    clear BK380
    clear HB
    have HO368 := n0_
    have HO371 := n1_
    have HO375 := n2_
    have BK372 := n3_
    have BK380 := n4_
    have HB := n5_
    clear n0_ n1_ n2_ n3_ n4_ n5_
    have p383 : 0 ≤ (t382 : Int) := of_decide_eq_true (by assumption)
    have q383 : t382 < (t366.length : Int) := of_decide_eq_true (by assumption)
    obtain ⟨ad383, e383, hx383_0, hx383_1⟩ := at_T34 (Kd.R_reads' HO368.out).2.2 t382 p383 q383
    cases e383
    replace p383 := eq_true p383
    replace q383 := eq_true q383
    refine start_ (n := 11) (S := fun w' => w'.cell? ⟨gb372, 0, none⟩ = some (.slice (some ad383) t366.length co17) ∧ w'.cell? ⟨gb372, 1, none⟩ = some (.slice Ao19 t369.length co19) ∧ w'.cell? (ad383.add ((t382).toNat * 2)) = some (.int .i64 ((rd_T34 t366 t382).f0)) ∧ w'.cell? ⟨(ad383.add ((t382).toNat * 2)).block, (ad383.add ((t382).toNat * 2)).off + 1, none⟩ = some (.int .i64 ((rd_T34 t366 t382).f1))) (ds := []) mz3_0 (by kernel_rfl) rfl rfl ⟨(blk_cell BK372.out 0).trans rfl, (blk_cell BK372.out 1).trans rfl, hx383_0, hx383_1⟩ (fun hHeld => ?_); refine with_tabW laws_FnStays.tab6 laws_FnStays.bits6 (fun HT_ HW_ => ?_)
    generalize w31.drew = w32 at HO368 HO371 HO375 BK372 BK380 HB hx383_0 hx383_1 hHeld ⊢
    refine pu_z3 0 (some 31) ?_ mz3_1 rfl rfl (any_of HT_.out (by kernel_rfl)) (fun _ _ _ h => h) (Or.inl ⟨by rfl, ?_⟩) ?_ ?_ ?_
    (rotate_left; ·(intro w'; go_simp; with_reducible rfl)); (rotate_left; ·(simp only [Act.put, pq_z3]; rfl))
    refine pu_z3 2 (some 33) ?_ mz3_2 rfl rfl (any_of HT_.out (by kernel_rfl)) (fun _ _ _ h => h) (Or.inl ⟨by rfl, ?_⟩) ?_ ?_ ?_
    (rotate_left; ·(intro w'; go_simp; with_reducible rfl)); (rotate_left; ·(simp only [Act.put, pq_z3]; rfl))
    refine pu_z3 3 (some 34) ?_ mz3_3 rfl rfl (any_of HT_.out (by kernel_rfl)) (fun _ _ _ h => h) (Or.inl ⟨by rfl, ?_⟩) ?_ ?_ ?_
    (rotate_left; ·(intro w'; go_simp; with_reducible rfl)); (rotate_left; ·(simp only [Act.put, pq_z3]; rfl))
    refine take_ (i := 1) (N := some 32) (v := ?_) (a' := ?_) mz3_4 rfl rfl (take_ofW HT_.out HW_.out (by kernel_rfl)) (fun _ _ _ h => h) (Or.inl ⟨by rfl, ?_⟩) hHeld ?_ ?_
    (rotate_left; ·(rintro w' ⟨s0, s1, s2, s3⟩; go_simp; with_reducible rfl)); (rotate_left; ·(simp only [Act.put, pq_z3]; rfl))
    refine take_ (i := 4) (N := some 35) (v := ?_) (a' := ?_) mz3_5 rfl rfl (take_ofW HT_.out HW_.out (by kernel_rfl)) (fun _ _ _ h => h) (Or.inl ⟨by rfl, ?_⟩) hHeld ?_ ?_
    (rotate_left; ·(rintro w' ⟨s0, s1, s2, s3⟩; go_simp; with_reducible rfl)); (rotate_left; ·(simp only [Act.put, pq_z3]; rfl))
    refine pu_z3 5 (some 36) ?_ mz3_6 rfl rfl (any_of HT_.out (by kernel_rfl)) (fun _ _ _ h => h) (Or.inl ⟨by rfl, ?_⟩) ?_ ?_ ?_
    (rotate_left; ·(intro w'; go_simp; with_reducible rfl)); (rotate_left; ·(simp only [Act.put, pq_z3]; rfl))
    refine one_ (i := 6) (N := some 37) mz3_7 rfl rfl (one_of HT_.out (by kernel_rfl)) (by decide) (fun K hK => ?_)
    refine goes_ Try.func9 (by kernel_rfl) rfl #[.slice A0 l0.length c0, .int .i64 1, .int .i64 (t366.length : Int)] (by rfl) rfl rfl (by (try simp only [List.map_toArray, List.map_cons, List.map_nil]); first | done | rfl | (simp only [List.length_drop, List.length_take]; rfl)) ?_
    with_reducible refine (laws_a8At.calls _ _ l0 1 (t366.length : Int) t382 _ ?side1 ?side2 A7.out).mono ?_
    (case side1 => repeat (first | exact (Kd.C_below HR0.out HB.out) | (with_reducible refine Kd.C_alloc ?_ _) | (with_reducible refine Kd.C_drewN ?_ _) | (with_reducible refine Kd.C_drew ?_)))
    (case side2 => exact HC0.out)
    rintro e w' ⟨rfl, ⟨nd, rfl⟩⟩
    refine ⟨_, rfl, ?_⟩
    refine hK.out _ _ ⟨(blk_cell BK372.out 0).trans rfl, (blk_cell BK372.out 1).trans rfl, hHeld.2.2.1, hHeld.2.2.2⟩ (fun hHeld => ?_)
    clear hK K
    refine norm_ (a' := ?_) ?_ ?_
    (rotate_left; ·(show Act.put _ (some 37) _ = _; simp only [Act.put, pq_z3]; rfl))
    refine pu_z3 7 (some 38) ?_ mz3_8 rfl rfl (any_of HT_.out (by kernel_rfl)) (fun _ _ _ h => h) (Or.inl ⟨by rfl, ?_⟩) ?_ ?_ ?_
    (rotate_left; ·(intro w'; go_simp; with_reducible rfl)); (rotate_left; ·(simp only [Act.put, pq_z3]; rfl))
    refine pu_z3 8 (some 39) ?_ mz3_9 rfl rfl (any_of HT_.out (by kernel_rfl)) (fun _ _ _ h => h) (Or.inl ⟨by rfl, ?_⟩) ?_ ?_ ?_
    (rotate_left; ·(intro w'; go_simp; with_reducible rfl)); (rotate_left; ·(simp only [Act.put, pq_z3]; rfl))
    refine take_ (i := 9) (N := some 40) (v := ?_) (a' := ?_) mz3_10 rfl rfl (take_ofW HT_.out HW_.out (by kernel_rfl)) (fun _ _ _ h => h) (Or.inl ⟨by rfl, ?_⟩) hHeld ?_ ?_
    (rotate_left; ·(rintro w' ⟨s0, s1, s2, s3⟩; go_simp; with_reducible rfl)); (rotate_left; ·(simp only [Act.put, pq_z3]; rfl))
    refine pu_z3 10 (some 6) ?_ mz3_11 rfl rfl (any_of HT_.out (by kernel_rfl)) (fun _ _ _ h => h) (Or.inl ⟨by rfl, ?_⟩) ?_ ?_ ?_
    (rotate_left; ·(intro w'; go_simp; with_reducible rfl)); (rotate_left; ·(simp only [Act.put, pq_z3]; rfl))
    refine done_ (done_of HT_.out (by kernel_rfl)) ?_
    go_upto_region 11 with (first | ((with_reducible refine gate_callee (f := 10) rfl ?_); refine goesL_ (some 42) rfl rfl Try.func10 (by kernel_rfl) rfl #[.slice A0 l0.length c0] rfl (by (try simp only [List.map_toArray, List.map_cons, List.map_nil]); first | done | rfl | (simp only [List.length_drop, List.length_take]; rfl)) ?_; (with_reducible refine (spec_A8Number.calls k _ _ l0 t384 _ ?side1 ?side2 A10.out).mono ?_); (case side1 => repeat (first | exact (Kd.C_below HR0.out (by repeat (first | (with_reducible first | exact HB.out | apply below_alloc | apply pw_below_drewN | apply below_drew1 | refine below_set ?_ GE372.out | refine below_set ?_ GE380.out) | exact HB.out))) | (with_reducible refine Kd.C_alloc ?_ _) | (with_reducible refine Kd.C_drewN ?_ _) | (with_reducible refine Kd.C_drew ?_))); (case side2 => exact HC0.out); rintro e w33 ⟨rfl, hb⟩; refine ⟨_, rfl, ?_⟩; have n0_ := Aside0.mk (Kd.R_below (by (with_reducible repeat (first | apply Kd.R_alloc | apply Kd.R_drewN | apply Kd.R_drew)); exact HO368.out) hb); have n1_ := Aside0.mk (Kd.S_below (by (with_reducible repeat (first | apply Kd.S_alloc | apply Kd.S_drewN | apply Kd.S_drew)); exact HO371.out) hb); have n2_ := Aside0.mk (Kd.R_below (by (with_reducible repeat (first | apply Kd.R_alloc | apply Kd.R_drewN | apply Kd.R_drew)); exact HO375.out) hb); have n3_ := Aside0.mk (blk_below (g := gb372) (o := .cells #[.slice (some ad383) t366.length co17, .slice Ao19 t369.length co19] 26 (0, 0)) (by (with_reducible repeat first | apply blk_drewN | apply blk_drew | apply blk_alloc); exact BK372.out) hb); have n4_ := Aside0.mk (blk_below (g := gb380) (o := .cells #[.int .i64 t376, .int .i64 t377, .int .i64 t378, .bool t379] 29 (0, 0)) (by (with_reducible repeat first | apply blk_drewN | apply blk_drew | apply blk_alloc); exact BK380.out) hb); have n5_ := Aside0.mk (below_step (by repeat (first | (with_reducible first | exact HB.out | apply below_alloc | apply pw_below_drewN | apply below_drew1 | refine below_set ?_ GE372.out | refine below_set ?_ GE380.out) | exact HB.out)) hb); clear HO368; clear HO371; clear HO375; clear BK372; clear BK380; clear HB; have HO368 := n0_; have HO371 := n1_; have HO375 := n2_; have BK372 := n3_; have BK380 := n4_; have HB := n5_; clear n0_ n1_ n2_ n3_ n4_ n5_; (try clear hb); (try clear hb2); (try clear hk); (try clear hi); have hnb34 := NB372_380.out; have hnc34 := NB380_372.out; have hcz35_0 : w33.cell? ⟨gb372, 0, none⟩ = some (.slice (some ad383) t366.length co17) := (blk_cell BK372.out 0).trans rfl; have hcz35_1 : w33.cell? ⟨gb372, 1, none⟩ = some (.slice Ao19 t369.length co19) := (blk_cell BK372.out 1).trans rfl; have hfz35_0 := blk_frozen BK372.out 0; have hfz35_1 := blk_frozen BK372.out 1; have hcz36_0 : w33.cell? ⟨gb380, 0, none⟩ = some (.int .i64 t376) := (blk_cell BK380.out 0).trans rfl; have hcz36_1 : w33.cell? ⟨gb380, 1, none⟩ = some (.int .i64 t377) := (blk_cell BK380.out 1).trans rfl; have hcz36_2 : w33.cell? ⟨gb380, 2, none⟩ = some (.int .i64 t378) := (blk_cell BK380.out 2).trans rfl; have hcz36_3 : w33.cell? ⟨gb380, 3, none⟩ = some (.bool t379) := (blk_cell BK380.out 3).trans rfl; have hfz36_0 := blk_frozen BK380.out 0; have hfz36_1 := blk_frozen BK380.out 1; have hfz36_2 := blk_frozen BK380.out 2; have hfz36_3 := blk_frozen BK380.out 3) | ((with_reducible refine gate_callee (f := 11) rfl ?_); refine goesL_ (some 48) rfl rfl Try.func11 (by kernel_rfl) rfl #[.agg #[.slice (some ad383) t366.length co17, .slice Ao19 t369.length co19], .agg #[.int .i64 t376, .int .i64 t377, .int .i64 t378, .bool t379], .int .i64 t384, .int .i64 (wrap64 (1 + t381)), .slice none 0 0] rfl (by (try simp only [List.map_toArray, List.map_cons, List.map_nil]); first | done | rfl | (simp only [List.length_drop, List.length_take]; rfl)) ?_; (refine (impl_Place.calls k _ _ t366 _ _ t369 t376 t377 t378 t379 t384 (wrap64 (1 + t381)) _ _ ([] : List Int) t385 t388 _ ?side1 ?side2 ?side3 ?side4 ?side5 ?side6 A11.out).mono ?_); (case side1 => repeat (first | exact (Kd.R_reads' HO368.out).2.2 | (with_reducible refine Kd.C_alloc ?_ _) | (with_reducible refine Kd.C_drewN ?_ _) | (with_reducible refine Kd.C_drew ?_))); (case side2 => exact (Kd.R_reads' HO368.out).2.1); (case side3 => repeat (first | exact (Kd.S_reads' HO371.out).2.2 | (with_reducible refine Kd.C_alloc ?_ _) | (with_reducible refine Kd.C_drewN ?_ _) | (with_reducible refine Kd.C_drew ?_))); (case side4 => exact (Kd.S_reads' HO371.out).2.1); (case side5 => exact Kd.C_nil _ _); (case side6 => exact Nat.le_refl _); rintro e w37 ⟨v386, rfl, ho0, hb⟩; refine ⟨_, rfl, ?_⟩; have n0_ := Aside0.mk (Kd.R_below (by (with_reducible repeat (first | apply Kd.R_alloc | apply Kd.R_drewN | apply Kd.R_drew)); exact HO368.out) hb); have n1_ := Aside0.mk (Kd.S_elder' (by (with_reducible repeat (first | apply Kd.S_alloc | apply Kd.S_drewN | apply Kd.S_drew)); exact HO371.out) (Kd.R_base ho0) hb); have n2_ := Aside0.mk (Kd.R_below (by (with_reducible repeat (first | apply Kd.R_alloc | apply Kd.R_drewN | apply Kd.R_drew)); exact HO375.out) hb); have n3_ := Aside0.mk (Kd.R_lower ho0 (below_size (by repeat (first | (with_reducible first | exact HB.out | apply below_alloc | apply pw_below_drewN | apply below_drew1 | refine below_set ?_ GE372.out | refine below_set ?_ GE380.out) | exact HB.out)))); have n4_ := Aside0.mk (blk_below (g := gb372) (o := .cells #[.slice (some ad383) t366.length co17, .slice Ao19 t369.length co19] 26 (0, 0)) (by (with_reducible repeat first | apply blk_drewN | apply blk_drew | apply blk_alloc); exact BK372.out) hb); have n5_ := Aside0.mk (blk_below (g := gb380) (o := .cells #[.int .i64 t376, .int .i64 t377, .int .i64 t378, .bool t379] 29 (0, 0)) (by (with_reducible repeat first | apply blk_drewN | apply blk_drew | apply blk_alloc); exact BK380.out) hb); have n6_ := Aside0.mk (below_step (by repeat (first | (with_reducible first | exact HB.out | apply below_alloc | apply pw_below_drewN | apply below_drew1 | refine below_set ?_ GE372.out | refine below_set ?_ GE380.out) | exact HB.out)) hb); clear HO368; clear HO371; clear HO375; clear BK372; clear BK380; clear HB; have HO368 := n0_; have HO371 := n1_; have HO375 := n2_; have HO387 := n3_; have BK372 := n4_; have BK380 := n5_; have HB := n6_; clear n0_ n1_ n2_ n3_ n4_ n5_ n6_; (try clear hb); (try clear hb2); (try clear hk); (try clear hi); (try clear ho0); have hcz38_0 : w37.cell? ⟨gb372, 0, none⟩ = some (.slice (some ad383) t366.length co17) := (blk_cell BK372.out 0).trans rfl; have hcz38_1 : w37.cell? ⟨gb372, 1, none⟩ = some (.slice Ao19 t369.length co19) := (blk_cell BK372.out 1).trans rfl; have hfz38_0 := blk_frozen BK372.out 0; have hfz38_1 := blk_frozen BK372.out 1; have hcz39_0 : w37.cell? ⟨gb380, 0, none⟩ = some (.int .i64 t376) := (blk_cell BK380.out 0).trans rfl; have hcz39_1 : w37.cell? ⟨gb380, 1, none⟩ = some (.int .i64 t377) := (blk_cell BK380.out 1).trans rfl; have hcz39_2 : w37.cell? ⟨gb380, 2, none⟩ = some (.int .i64 t378) := (blk_cell BK380.out 2).trans rfl; have hcz39_3 : w37.cell? ⟨gb380, 3, none⟩ = some (.bool t379) := (blk_cell BK380.out 3).trans rfl; have hfz39_0 := blk_frozen BK380.out 0; have hfz39_1 := blk_frozen BK380.out 1; have hfz39_2 := blk_frozen BK380.out 2; have hfz39_3 := blk_frozen BK380.out 3) | ((with_reducible refine gate_dst (N := 57) rfl ?_); refine Kd.R_lit (Kd.int .i64) _ 2 ?hg (N := 57) ?hd (xs := ([(rd_T34 t366 t382).f0] : List Int)) (inner := [.int .i64 ((rd_T34 t366 t382).f0)]) (ok := fun _ => True) (okp := fun _ => True) ?hr ?hp (fun _ hk => hk) trivial (Below.refl _ _) (Nat.le_refl _) (by simp) ?_; (case hd => rfl); (case hg => rfl); (case hr => first | (go_simp; done) | (go_simp; rfl)); (case hp => exact (Reps.one (show Kd.M (Kd.int .i64) _ _ _ ((rd_T34 t366 t382).f0) [.int .i64 ((rd_T34 t366 t382).f0)] from rfl) (Reps.none _ _))); intro v390 w40 ho41 hb hg_ hnew_; clear hg_ hnew_; (first | rw [← Ny389.out] at ho41 | (simp only [Int.reduceToNat] at ho41; rw [← Ny389.out] at ho41)); have n0_ := Aside0.mk (Kd.R_below (by (with_reducible repeat (first | apply Kd.R_alloc | apply Kd.R_drewN | apply Kd.R_drew)); exact HO368.out) hb); have n1_ := Aside0.mk (Kd.S_elder' (by (with_reducible repeat (first | apply Kd.S_alloc | apply Kd.S_drewN | apply Kd.S_drew)); exact HO371.out) (Kd.R_base ho41) hb); have n2_ := Aside0.mk (Kd.R_below (by (with_reducible repeat (first | apply Kd.R_alloc | apply Kd.R_drewN | apply Kd.R_drew)); exact HO375.out) hb); have n3_ := Aside0.mk (Kd.R_elder' (by (with_reducible repeat (first | apply Kd.R_alloc | apply Kd.R_drewN | apply Kd.R_drew)); exact HO387.out) (Kd.R_base ho41) hb); have n4_ := Aside0.mk (Kd.R_lower (Kd.R_new' ho41 (Kd.R_lt (by (with_reducible repeat (first | apply Kd.R_alloc | apply Kd.R_drewN | apply Kd.R_drew)); exact HO387.out))) (below_size (by repeat (first | (with_reducible first | exact HB.out | apply below_alloc | apply pw_below_drewN | apply below_drew1 | refine below_set ?_ GE372.out | refine below_set ?_ GE380.out) | exact HB.out)))); have n5_ := Aside0.mk (blk_below (g := gb372) (o := .cells #[.slice (some ad383) t366.length co17, .slice Ao19 t369.length co19] 26 (0, 0)) (by (with_reducible repeat first | apply blk_drewN | apply blk_drew | apply blk_alloc); exact BK372.out) hb); have n6_ := Aside0.mk (blk_below (g := gb380) (o := .cells #[.int .i64 t376, .int .i64 t377, .int .i64 t378, .bool t379] 29 (0, 0)) (by (with_reducible repeat first | apply blk_drewN | apply blk_drew | apply blk_alloc); exact BK380.out) hb); have n7_ := Aside0.mk (below_step (by repeat (first | (with_reducible first | exact HB.out | apply below_alloc | apply pw_below_drewN | apply below_drew1 | refine below_set ?_ GE372.out | refine below_set ?_ GE380.out) | exact HB.out)) hb); clear HO368; clear HO371; clear HO375; clear HO387; clear BK372; clear BK380; clear HB; have HO368 := n0_; have HO371 := n1_; have HO375 := n2_; have HO387 := n3_; have HO391 := n4_; have BK372 := n5_; have BK380 := n6_; have HB := n7_; clear n0_ n1_ n2_ n3_ n4_ n5_ n6_ n7_; clear hb ho41; obtain ⟨Ao42, co42, eo42⟩ := Kd.R_slice HO391.out; subst eo42) | ((with_reducible refine gate_callee (f := 11) rfl ?_); refine goesL_ (some 58) rfl rfl Try.func11 (by kernel_rfl) rfl #[.agg #[.slice (some ad383) t366.length co17, .slice Ao19 t369.length co19], .agg #[.int .i64 t376, .int .i64 t377, .int .i64 t378, .bool t379], .int .i64 t384, .int .i64 (wrap64 (1 + t381)), .slice Ao42 y389.length co42] rfl (by (try simp only [List.map_toArray, List.map_cons, List.map_nil]); first | done | rfl | (simp only [List.length_drop, List.length_take]; rfl)) ?_; (with_reducible refine (impl_Place.calls k _ _ t366 _ _ t369 t376 t377 t378 t379 t384 (wrap64 (1 + t381)) _ _ y389 t392 t395 _ ?side1 ?side2 ?side3 ?side4 ?side5 ?side6 A12.out).mono ?_); (case side1 => repeat (first | exact (Kd.R_reads' HO368.out).2.2 | (with_reducible refine Kd.C_alloc ?_ _) | (with_reducible refine Kd.C_drewN ?_ _) | (with_reducible refine Kd.C_drew ?_))); (case side2 => exact (Kd.R_reads' HO368.out).2.1); (case side3 => repeat (first | exact (Kd.S_reads' HO371.out).2.2 | (with_reducible refine Kd.C_alloc ?_ _) | (with_reducible refine Kd.C_drewN ?_ _) | (with_reducible refine Kd.C_drew ?_))); (case side4 => exact (Kd.S_reads' HO371.out).2.1); (case side5 => repeat (first | exact (Kd.R_reads' HO391.out).2.2 | (with_reducible refine Kd.C_alloc ?_ _) | (with_reducible refine Kd.C_drewN ?_ _) | (with_reducible refine Kd.C_drew ?_))); (case side6 => exact (Kd.R_reads' HO391.out).2.1); rintro e w43 ⟨v393, rfl, ho0, hb⟩; refine ⟨_, rfl, ?_⟩; have n0_ := Aside0.mk (Kd.R_below (by (with_reducible repeat (first | apply Kd.R_alloc | apply Kd.R_drewN | apply Kd.R_drew)); exact HO368.out) hb); have n1_ := Aside0.mk (Kd.S_elder' (by (with_reducible repeat (first | apply Kd.S_alloc | apply Kd.S_drewN | apply Kd.S_drew)); exact HO371.out) (Kd.R_base ho0) hb); have n2_ := Aside0.mk (Kd.R_below (by (with_reducible repeat (first | apply Kd.R_alloc | apply Kd.R_drewN | apply Kd.R_drew)); exact HO375.out) hb); have n3_ := Aside0.mk (Kd.R_elder' (by (with_reducible repeat (first | apply Kd.R_alloc | apply Kd.R_drewN | apply Kd.R_drew)); exact HO387.out) (Kd.R_base ho0) hb); have n4_ := Aside0.mk (Kd.R_elder' (by (with_reducible repeat (first | apply Kd.R_alloc | apply Kd.R_drewN | apply Kd.R_drew)); exact HO391.out) (Kd.R_base ho0) hb); have n5_ := Aside0.mk (Kd.R_lower (Kd.R_new' (Kd.R_new' ho0 (Kd.R_lt (by (with_reducible repeat (first | apply Kd.R_alloc | apply Kd.R_drewN | apply Kd.R_drew)); exact HO387.out))) (Kd.R_lt (by (with_reducible repeat (first | apply Kd.R_alloc | apply Kd.R_drewN | apply Kd.R_drew)); exact HO391.out))) (below_size (by repeat (first | (with_reducible first | exact HB.out | apply below_alloc | apply pw_below_drewN | apply below_drew1 | refine below_set ?_ GE372.out | refine below_set ?_ GE380.out) | exact HB.out)))); have n6_ := Aside0.mk (blk_below (g := gb372) (o := .cells #[.slice (some ad383) t366.length co17, .slice Ao19 t369.length co19] 26 (0, 0)) (by (with_reducible repeat first | apply blk_drewN | apply blk_drew | apply blk_alloc); exact BK372.out) hb); have n7_ := Aside0.mk (blk_below (g := gb380) (o := .cells #[.int .i64 t376, .int .i64 t377, .int .i64 t378, .bool t379] 29 (0, 0)) (by (with_reducible repeat first | apply blk_drewN | apply blk_drew | apply blk_alloc); exact BK380.out) hb); have n8_ := Aside0.mk (below_step (by repeat (first | (with_reducible first | exact HB.out | apply below_alloc | apply pw_below_drewN | apply below_drew1 | refine below_set ?_ GE372.out | refine below_set ?_ GE380.out) | exact HB.out)) hb); clear HO368; clear HO371; clear HO375; clear HO387; clear HO391; clear BK372; clear BK380; clear HB; have HO368 := n0_; have HO371 := n1_; have HO375 := n2_; have HO387 := n3_; have HO391 := n4_; have HO394 := n5_; have BK372 := n6_; have BK380 := n7_; have HB := n8_; clear n0_ n1_ n2_ n3_ n4_ n5_ n6_ n7_ n8_; (try clear hb); (try clear hb2); (try clear hk); (try clear hi); (try clear ho0); have hcz44_0 : w43.cell? ⟨gb372, 0, none⟩ = some (.slice (some ad383) t366.length co17) := (blk_cell BK372.out 0).trans rfl; have hcz44_1 : w43.cell? ⟨gb372, 1, none⟩ = some (.slice Ao19 t369.length co19) := (blk_cell BK372.out 1).trans rfl; have hfz44_0 := blk_frozen BK372.out 0; have hfz44_1 := blk_frozen BK372.out 1; have hcz45_0 : w43.cell? ⟨gb380, 0, none⟩ = some (.int .i64 t376) := (blk_cell BK380.out 0).trans rfl; have hcz45_1 : w43.cell? ⟨gb380, 1, none⟩ = some (.int .i64 t377) := (blk_cell BK380.out 1).trans rfl; have hcz45_2 : w43.cell? ⟨gb380, 2, none⟩ = some (.int .i64 t378) := (blk_cell BK380.out 2).trans rfl; have hcz45_3 : w43.cell? ⟨gb380, 3, none⟩ = some (.bool t379) := (blk_cell BK380.out 3).trans rfl; have hfz45_0 := blk_frozen BK380.out 0; have hfz45_1 := blk_frozen BK380.out 1; have hfz45_2 := blk_frozen BK380.out 2; have hfz45_3 := blk_frozen BK380.out 3) | ((with_reducible refine gate_callee (f := 11) rfl ?_); refine goesL_ (some 67) rfl rfl Try.func11 (by kernel_rfl) rfl #[.agg #[.slice (some ad383) t366.length co17, .slice Ao19 t369.length co19], .agg #[.int .i64 t376, .int .i64 t377, .int .i64 t378, .bool t379], .int .i64 t384, .int .i64 (wrap64 ((wrap64 (1 + t381)) - 1)), .slice none 0 0] rfl (by (try simp only [List.map_toArray, List.map_cons, List.map_nil]); first | done | rfl | (simp only [List.length_drop, List.length_take]; rfl)) ?_; (refine (impl_Place.calls k _ _ t366 _ _ t369 t376 t377 t378 t379 t384 (wrap64 ((wrap64 (1 + t381)) - 1)) _ _ ([] : List Int) t396 t399 _ ?side1 ?side2 ?side3 ?side4 ?side5 ?side6 A13.out).mono ?_); (case side1 => repeat (first | exact (Kd.R_reads' HO368.out).2.2 | (with_reducible refine Kd.C_alloc ?_ _) | (with_reducible refine Kd.C_drewN ?_ _) | (with_reducible refine Kd.C_drew ?_))); (case side2 => exact (Kd.R_reads' HO368.out).2.1); (case side3 => repeat (first | exact (Kd.S_reads' HO371.out).2.2 | (with_reducible refine Kd.C_alloc ?_ _) | (with_reducible refine Kd.C_drewN ?_ _) | (with_reducible refine Kd.C_drew ?_))); (case side4 => exact (Kd.S_reads' HO371.out).2.1); (case side5 => exact Kd.C_nil _ _); (case side6 => exact Nat.le_refl _); rintro e w46 ⟨v397, rfl, ho0, hb⟩; refine ⟨_, rfl, ?_⟩; have n0_ := Aside0.mk (Kd.R_below (by (with_reducible repeat (first | apply Kd.R_alloc | apply Kd.R_drewN | apply Kd.R_drew)); exact HO368.out) hb); have n1_ := Aside0.mk (Kd.S_elder' (by (with_reducible repeat (first | apply Kd.S_alloc | apply Kd.S_drewN | apply Kd.S_drew)); exact HO371.out) (Kd.R_base ho0) hb); have n2_ := Aside0.mk (Kd.R_below (by (with_reducible repeat (first | apply Kd.R_alloc | apply Kd.R_drewN | apply Kd.R_drew)); exact HO375.out) hb); have n3_ := Aside0.mk (Kd.R_elder' (by (with_reducible repeat (first | apply Kd.R_alloc | apply Kd.R_drewN | apply Kd.R_drew)); exact HO387.out) (Kd.R_base ho0) hb); have n4_ := Aside0.mk (Kd.R_elder' (by (with_reducible repeat (first | apply Kd.R_alloc | apply Kd.R_drewN | apply Kd.R_drew)); exact HO391.out) (Kd.R_base ho0) hb); have n5_ := Aside0.mk (Kd.R_elder' (by (with_reducible repeat (first | apply Kd.R_alloc | apply Kd.R_drewN | apply Kd.R_drew)); exact HO394.out) (Kd.R_base ho0) hb); have n6_ := Aside0.mk (Kd.R_lower (Kd.R_new' (Kd.R_new' (Kd.R_new' ho0 (Kd.R_lt (by (with_reducible repeat (first | apply Kd.R_alloc | apply Kd.R_drewN | apply Kd.R_drew)); exact HO387.out))) (Kd.R_lt (by (with_reducible repeat (first | apply Kd.R_alloc | apply Kd.R_drewN | apply Kd.R_drew)); exact HO391.out))) (Kd.R_lt (by (with_reducible repeat (first | apply Kd.R_alloc | apply Kd.R_drewN | apply Kd.R_drew)); exact HO394.out))) (below_size (by repeat (first | (with_reducible first | exact HB.out | apply below_alloc | apply pw_below_drewN | apply below_drew1 | refine below_set ?_ GE372.out | refine below_set ?_ GE380.out) | exact HB.out)))); have n7_ := Aside0.mk (blk_below (g := gb372) (o := .cells #[.slice (some ad383) t366.length co17, .slice Ao19 t369.length co19] 26 (0, 0)) (by (with_reducible repeat first | apply blk_drewN | apply blk_drew | apply blk_alloc); exact BK372.out) hb); have n8_ := Aside0.mk (blk_below (g := gb380) (o := .cells #[.int .i64 t376, .int .i64 t377, .int .i64 t378, .bool t379] 29 (0, 0)) (by (with_reducible repeat first | apply blk_drewN | apply blk_drew | apply blk_alloc); exact BK380.out) hb); have n9_ := Aside0.mk (below_step (by repeat (first | (with_reducible first | exact HB.out | apply below_alloc | apply pw_below_drewN | apply below_drew1 | refine below_set ?_ GE372.out | refine below_set ?_ GE380.out) | exact HB.out)) hb); clear HO368; clear HO371; clear HO375; clear HO387; clear HO391; clear HO394; clear BK372; clear BK380; clear HB; have HO368 := n0_; have HO371 := n1_; have HO375 := n2_; have HO387 := n3_; have HO391 := n4_; have HO394 := n5_; have HO398 := n6_; have BK372 := n7_; have BK380 := n8_; have HB := n9_; clear n0_ n1_ n2_ n3_ n4_ n5_ n6_ n7_ n8_ n9_; (try clear hb); (try clear hb2); (try clear hk); (try clear hi); (try clear ho0)))
    (try simp only [Act.put, List.setIfInBounds_toArray, List.set_cons_zero, List.set_cons_succ])
    go_cut [98] (fun v98 wc => ∃ (kq : Nat) (x98_13 : Bool), v98 = .bool x98_13 ∧ Aside0 (laws_FnStays.j0 kq ((rd_T34 t366 t382).f0) t385 t392 t396 x98_13 t376 t377 t378 t379 = some r) ∧ Aside0 (kq ≤ k) ∧ Aside0 (Kd.R (Kd.int .i64) 2 wc w.heap.size (fun k_ => some k_ ≠ (v393 : Value).ownBlock ∧ some k_ ≠ (v397 : Value).ownBlock) v386 t385) ∧ Aside0 (Kd.R (Kd.int .i64) 2 wc w.heap.size (fun k_ => some k_ ≠ (v386 : Value).ownBlock ∧ some k_ ≠ (v397 : Value).ownBlock) v393 t392) ∧ Aside0 (Kd.R (Kd.int .i64) 2 wc w.heap.size (fun k_ => some k_ ≠ (v386 : Value).ownBlock ∧ some k_ ≠ (v393 : Value).ownBlock) v397 t396) ∧ Aside0 (Kd.R k34 34 wc w.heap.size (fun _ => True) (.slice (some ad383) t366.length co17) t366) ∧ Aside0 (Kd.S k70 70 wc w.heap.size (fun k_ => some k_ ≠ (v386 : Value).ownBlock ∧ some k_ ≠ (v393 : Value).ownBlock ∧ some k_ ≠ (v397 : Value).ownBlock) (.slice Ao19 t369.length co19) t369) ∧ Aside0 (wc.heap[gb372]? = some (.cells #[(.slice (some ad383) t366.length co17), (.slice Ao19 t369.length co19)] 26 (0, 0))) ∧ Aside0 (wc.heap[gb380]? = some (.cells #[.int .i64 t376, .int .i64 t377, .int .i64 t378, .bool t379] 29 (0, 0))) ∧ Aside0 (Below w.heap.size w wc))
    case first =>
     have H := HC14.out
     clear HC14
     by_cases c47 : t388 = true
     ·subst c47
      have H1 : (if t395 = true then (if t399 = true then (if (t385.length : Int) = (wrap64 (1 + t381)) then (if (t392.length : Int) = (wrap64 (1 + t381)) then (laws_FnStays.j0 k ((rd_T34 t366 t382).f0) t385 t392 t396 ((t396.length : Int) != (wrap64 ((wrap64 (1 + t381)) - 1))) t376 t377 t378 t379) else (none)) else (none)) else (none)) else (none)) = some r := by rw [if_pos rfl] at H; exact H
      clear H
      have H := H1
      clear H1
      by_cases c48 : t395 = true
      ·subst c48
       have H1 : (if t399 = true then (if (t385.length : Int) = (wrap64 (1 + t381)) then (if (t392.length : Int) = (wrap64 (1 + t381)) then (laws_FnStays.j0 k ((rd_T34 t366 t382).f0) t385 t392 t396 ((t396.length : Int) != (wrap64 ((wrap64 (1 + t381)) - 1))) t376 t377 t378 t379) else (none)) else (none)) else (none)) = some r := by rw [if_pos rfl] at H; exact H
       clear H
       have H := H1
       clear H1
       by_cases c49 : t399 = true
       ·subst c49
        have H1 : (if (t385.length : Int) = (wrap64 (1 + t381)) then (if (t392.length : Int) = (wrap64 (1 + t381)) then (laws_FnStays.j0 k ((rd_T34 t366 t382).f0) t385 t392 t396 ((t396.length : Int) != (wrap64 ((wrap64 (1 + t381)) - 1))) t376 t377 t378 t379) else (none)) else (none)) = some r := by rw [if_pos rfl] at H; exact H
        clear H
        have H := H1
        clear H1
        by_cases c50 : (t385.length : Int) = (wrap64 (1 + t381))
        ·rw [if_pos c50] at H
         have c50b0 : ((t385.length : Int) == (wrap64 (1 + t381))) = true := beq_iff_eq.mpr c50
         have c50b1 : ((t385.length : Int) != (wrap64 (1 + t381))) = false := bne_eq_false_iff_eq.mpr c50
         clear c50
         (first | rw [c50b0] | (simp only [i64_w, i32_w]; rw [c50b0]) | skip)
         by_cases c51 : (t392.length : Int) = (wrap64 (1 + t381))
         ·rw [if_pos c51] at H
          have c51b0 : ((t392.length : Int) == (wrap64 (1 + t381))) = true := beq_iff_eq.mpr c51
          have c51b1 : ((t392.length : Int) != (wrap64 (1 + t381))) = false := bne_eq_false_iff_eq.mpr c51
          clear c51
          have H' := Aside0.mk H
          clear H
          obtain ⟨Ao52, co52, eo52⟩ := Kd.R_slice HO387.out
          subst eo52
          obtain ⟨Ao53, co53, eo53⟩ := Kd.R_slice HO394.out
          subst eo53
          obtain ⟨Ao54, co54, eo54⟩ := Kd.R_slice HO398.out
          subst eo54
          go_wp2
          go_meet
          case rel => exact ⟨_, (((t396.length : Int) != (wrap64 ((wrap64 (1 + t381)) - 1)))), (by first | rfl | (simp; done) | (simp [*]; done)), H', ⟨by first | omega | exact Nat.le_refl _⟩, ⟨by (with_reducible repeat (first | apply Kd.R_alloc | apply Kd.R_drewN | apply Kd.R_drew)); exact Kd.R_mono HO387.out (fun _ hk => ⟨hk.1.2, hk.2⟩)⟩, ⟨by (with_reducible repeat (first | apply Kd.R_alloc | apply Kd.R_drewN | apply Kd.R_drew)); exact Kd.R_mono HO394.out (fun _ hk => ⟨hk.1.1.2, hk.2⟩)⟩, ⟨by (with_reducible repeat (first | apply Kd.R_alloc | apply Kd.R_drewN | apply Kd.R_drew)); exact Kd.R_mono HO398.out (fun _ hk => ⟨hk.1.1.2, hk.2⟩)⟩, ⟨by (with_reducible repeat (first | apply Kd.R_alloc | apply Kd.R_drewN | apply Kd.R_drew)); exact HO368.out⟩, ⟨by (with_reducible repeat (first | apply Kd.S_alloc | apply Kd.S_drewN | apply Kd.S_drew)); exact Kd.S_mono HO371.out (fun _ hk => ⟨hk.1.1.1.2, ⟨hk.1.2, hk.2⟩⟩)⟩, ⟨by (with_reducible repeat first | apply blk_drewN | apply blk_drew | apply blk_alloc); exact BK372.out⟩, ⟨by (with_reducible repeat first | apply blk_drewN | apply blk_drew | apply blk_alloc); exact BK380.out⟩, ⟨by repeat (first | (with_reducible first | exact HB.out | apply below_alloc | apply pw_below_drewN | apply below_drew1 | refine below_set ?_ GE372.out | refine below_set ?_ GE380.out) | exact HB.out)⟩⟩
         ·rw [if_neg c51] at H
          exact absurd H (by simp)
        ·rw [if_neg c50] at H
         exact absurd H (by simp)
       ·replace c49 := Bool.eq_false_iff.mpr c49
        subst c49
        have H1 : (none) = some r := by rw [if_neg (show ¬ (false = true) by decide)] at H; exact H
        exact absurd H1 (by simp)
      ·replace c48 := Bool.eq_false_iff.mpr c48
       subst c48
       have H1 : (none) = some r := by rw [if_neg (show ¬ (false = true) by decide)] at H; exact H
       exact absurd H1 (by simp)
     ·replace c47 := Bool.eq_false_iff.mpr c47
      subst c47
      have H1 : (none) = some r := by rw [if_neg (show ¬ (false = true) by decide)] at H; exact H
      exact absurd H1 (by simp)
    case rest =>
     clear HC14
     try clear c1
     try clear p2
     try clear c3
     try clear p3
     try clear q3
     try clear hx3
     try clear c4
     try clear c5
     try clear p6
     try clear c7
     try clear c8
     try clear c9
     try clear c10
     try clear c11
     try clear c34
     try clear p38
     try clear q38
     try clear hx38
     try clear c47
     try clear c48
     try clear c49
     try clear c50
     try clear c50b0
     try clear c50b1
     try clear c51
     try clear c51b0
     try clear c51b1
     try clear hcz35_0
     try clear hcz35_1
     try clear hcz36_0
     try clear hcz36_1
     try clear hcz36_2
     try clear hcz36_3
     try clear hcz38_0
     try clear hcz38_1
     try clear hcz39_0
     try clear hcz39_1
     try clear hcz39_2
     try clear hcz39_3
     try clear hcz44_0
     try clear hcz44_1
     try clear hcz45_0
     try clear hcz45_1
     try clear hcz45_2
     try clear hcz45_3
     try clear hfz35_0
     try clear hfz35_1
     try clear hfz36_0
     try clear hfz36_1
     try clear hfz36_2
     try clear hfz36_3
     try clear hfz38_0
     try clear hfz38_1
     try clear hfz39_0
     try clear hfz39_1
     try clear hfz39_2
     try clear hfz39_3
     try clear hfz44_0
     try clear hfz44_1
     try clear hfz45_0
     try clear hfz45_1
     try clear hfz45_2
     try clear hfz45_3
     try clear hx383_0
     try clear hx383_1
     try clear p383
     try clear q383
     obtain ⟨kq, x98_13, rfl, HA, HJ13, HO_8, HO_10, HO_12, HO_373000, HO_373001, BK372, BK380, HB⟩ := hcut
     cases kq with
     | zero => exact absurd HA.out (by simp [laws_FnStays.j0])
     | succ kj13 =>
      have H := HA.out
      clear HA
      simp only [laws_FnStays.j0] at H
      by_cases c58 : x98_13 = true
      ·subst c58
       have H1 : (none) = some r := by rw [if_pos rfl] at H; exact H
       exact absurd H1 (by simp)
      ·replace c58 := Bool.eq_false_iff.mpr c58
       subst c58
       have H1 : (laws_FnStays.l0 kj13 ((rd_T34 t366 t382).f0) t385 t392 t396 (-1) 0 t376 t377 t378 t379) = some r := by rw [if_neg (show ¬ (false = true) by decide)] at H; exact H
       clear H
       have H := H1
       clear H1
       have H' := Aside0.mk H
       clear H
       go_wp2
       go_loopg [14, 15] kj13 (fun kq v14 v15 w' => ∃ (x14_2 : Int) (x15_2 : Int), v14 = .int .i64 x14_2 ∧ v15 = .int .i64 x15_2 ∧ Aside0 (laws_FnStays.l0 kq ((rd_T34 t366 t382).f0) t385 t392 t396 x14_2 x15_2 t376 t377 t378 t379 = some r) ∧ Aside0 (kq ≤ kj13) ∧ Aside0 (Kd.R (Kd.int .i64) 2 w' w.heap.size (fun k_ => some k_ ≠ (v393 : Value).ownBlock ∧ some k_ ≠ (v397 : Value).ownBlock) v386 t385) ∧ Aside0 (Kd.R (Kd.int .i64) 2 w' w.heap.size (fun k_ => some k_ ≠ (v386 : Value).ownBlock ∧ some k_ ≠ (v397 : Value).ownBlock) v393 t392) ∧ Aside0 (Kd.R (Kd.int .i64) 2 w' w.heap.size (fun k_ => some k_ ≠ (v386 : Value).ownBlock ∧ some k_ ≠ (v393 : Value).ownBlock) v397 t396) ∧ Aside0 (Kd.R k34 34 w' w.heap.size (fun _ => True) (.slice (some ad383) t366.length co17) t366) ∧ Aside0 (Kd.S k70 70 w' w.heap.size (fun k_ => some k_ ≠ (v386 : Value).ownBlock ∧ some k_ ≠ (v393 : Value).ownBlock ∧ some k_ ≠ (v397 : Value).ownBlock) (.slice Ao19 t369.length co19) t369) ∧ Aside0 (w'.heap[gb372]? = some (.cells #[(.slice (some ad383) t366.length co17), (.slice Ao19 t369.length co19)] 26 (0, 0))) ∧ Aside0 (w'.heap[gb380]? = some (.cells #[.int .i64 t376, .int .i64 t377, .int .i64 t378, .bool t379] 29 (0, 0))) ∧ Aside0 (Below w.heap.size w w'))
       case atStart => exact ⟨((-1)), (0), (by first | rfl | (simp; done) | (simp [*]; done)), (by first | rfl | (simp; done) | (simp [*]; done)), H', ⟨Nat.le_refl _⟩, ⟨by (with_reducible repeat (first | apply Kd.R_alloc | apply Kd.R_drewN | apply Kd.R_drew)); exact HO_8.out⟩, ⟨by (with_reducible repeat (first | apply Kd.R_alloc | apply Kd.R_drewN | apply Kd.R_drew)); exact HO_10.out⟩, ⟨by (with_reducible repeat (first | apply Kd.R_alloc | apply Kd.R_drewN | apply Kd.R_drew)); exact HO_12.out⟩, ⟨by (with_reducible repeat (first | apply Kd.R_alloc | apply Kd.R_drewN | apply Kd.R_drew)); exact HO_373000.out⟩, ⟨by (with_reducible repeat (first | apply Kd.S_alloc | apply Kd.S_drewN | apply Kd.S_drew)); exact HO_373001.out⟩, ⟨by (with_reducible repeat first | apply blk_drewN | apply blk_drew | apply blk_alloc); exact BK372.out⟩, ⟨by (with_reducible repeat first | apply blk_drewN | apply blk_drew | apply blk_alloc); exact BK380.out⟩, ⟨by repeat (first | (with_reducible first | exact HB.out | apply below_alloc | apply pw_below_drewN | apply below_drew1 | refine below_set ?_ GE372.out | refine below_set ?_ GE380.out) | exact HB.out)⟩⟩
       case round =>
        clear H'
        try clear c1
        try clear p2
        try clear c3
        try clear p3
        try clear q3
        try clear hx3
        try clear c4
        try clear c5
        try clear p6
        try clear c7
        try clear c8
        try clear c9
        try clear c10
        try clear c11
        try clear c34
        try clear p38
        try clear q38
        try clear hx38
        try clear c47
        try clear c48
        try clear c49
        try clear c50
        try clear c50b0
        try clear c50b1
        try clear c51
        try clear c51b0
        try clear c51b1
        try clear c58
        try clear hcz35_0
        try clear hcz35_1
        try clear hcz36_0
        try clear hcz36_1
        try clear hcz36_2
        try clear hcz36_3
        try clear hcz38_0
        try clear hcz38_1
        try clear hcz39_0
        try clear hcz39_1
        try clear hcz39_2
        try clear hcz39_3
        try clear hcz44_0
        try clear hcz44_1
        try clear hcz45_0
        try clear hcz45_1
        try clear hcz45_2
        try clear hcz45_3
        try clear hfz35_0
        try clear hfz35_1
        try clear hfz36_0
        try clear hfz36_1
        try clear hfz36_2
        try clear hfz36_3
        try clear hfz38_0
        try clear hfz38_1
        try clear hfz39_0
        try clear hfz39_1
        try clear hfz39_2
        try clear hfz39_3
        try clear hfz44_0
        try clear hfz44_1
        try clear hfz45_0
        try clear hfz45_1
        try clear hfz45_2
        try clear hfz45_3
        try clear hx383_0
        try clear hx383_1
        try clear p2
        try clear p3
        try clear p38
        try clear p383
        try clear p6
        try clear q3
        try clear q38
        try clear q383
        obtain ⟨x14_2, x15_2, rfl, rfl, HA, HK2, HO_8, HO_10, HO_12, HO_373000, HO_373001, BK372, BK380, HB⟩ := hrel
        cases gk with
        | zero => exact absurd HA.out (by simp [laws_FnStays.l0])
        | succ k2 =>
         have H := HA.out
         clear HA
         simp only [laws_FnStays.l0] at H
         by_cases c59 : x15_2 < (t385.length : Int)
         ·rw [if_pos c59] at H
          have c59b0 : decide (x15_2 < (t385.length : Int)) = true := decide_eq_true c59
          clear c59
          have HC60 := Aside0.mk H
          clear H
          obtain ⟨Ao61, co61, eo61⟩ := Kd.R_slice HO_8.out
          subst eo61
          go_upto_region 17 with (fail)
          go_cut [117] (fun v117 wc => ∃ (kq : Nat) (x117_59 : Bool), v117 = .bool x117_59 ∧ Aside0 (laws_FnStays.j2 kq ((rd_T34 t366 t382).f0) t385 t392 t396 x14_2 x15_2 x117_59 t376 t377 t378 t379 = some r) ∧ Aside0 (kq ≤ k2) ∧ Aside0 (Kd.R (Kd.int .i64) 2 wc w.heap.size (fun k_ => some k_ ≠ (v393 : Value).ownBlock ∧ some k_ ≠ (v397 : Value).ownBlock) (.slice Ao61 t385.length co61) t385) ∧ Aside0 (Kd.R (Kd.int .i64) 2 wc w.heap.size (fun k_ => some k_ ≠ ((.slice Ao61 t385.length co61) : Value).ownBlock ∧ some k_ ≠ (v397 : Value).ownBlock) v393 t392) ∧ Aside0 (Kd.R (Kd.int .i64) 2 wc w.heap.size (fun k_ => some k_ ≠ ((.slice Ao61 t385.length co61) : Value).ownBlock ∧ some k_ ≠ (v393 : Value).ownBlock) v397 t396) ∧ Aside0 (Kd.R k34 34 wc w.heap.size (fun _ => True) (.slice (some ad383) t366.length co17) t366) ∧ Aside0 (Kd.S k70 70 wc w.heap.size (fun k_ => some k_ ≠ ((.slice Ao61 t385.length co61) : Value).ownBlock ∧ some k_ ≠ (v393 : Value).ownBlock ∧ some k_ ≠ (v397 : Value).ownBlock) (.slice Ao19 t369.length co19) t369) ∧ Aside0 (wc.heap[gb372]? = some (.cells #[(.slice (some ad383) t366.length co17), (.slice Ao19 t369.length co19)] 26 (0, 0))) ∧ Aside0 (wc.heap[gb380]? = some (.cells #[.int .i64 t376, .int .i64 t377, .int .i64 t378, .bool t379] 29 (0, 0))) ∧ Aside0 (Below w.heap.size w wc))
          case first =>
           have H := HC60.out
           clear HC60
           by_cases c62 : 0 ≤ x15_2
           ·rw [if_pos c62] at H
            have c62b0 : decide (0 ≤ x15_2) = true := decide_eq_true c62
            clear c62
            (first | rw [c62b0] | (simp only [i64_w, i32_w]; rw [c62b0]) | skip)
            by_cases c63 : (rd t385 x15_2) < 0
            ·rw [if_pos c63] at H
             have c63b0 : decide ((rd t385 x15_2) < 0) = true := decide_eq_true c63
             clear c63
             have H' := Aside0.mk H
             clear H
             have p400 : 0 ≤ (x15_2 : Int) := of_decide_eq_true (by assumption)
             have q400 : x15_2 < (t385.length : Int) := of_decide_eq_true (by assumption)
             obtain ⟨ad400, e400, hx400_0⟩ := Kd.at_int (Kd.R_reads' HO_8.out).2.2 x15_2 p400 q400
             cases e400
             replace p400 := eq_true p400
             replace q400 := eq_true q400
             go_wp2
             go_meet
             case rel => exact ⟨_, (true), (by first | rfl | (simp; done) | (simp [*]; done)), H', ⟨by have := HJ13.out; have := HK2.out; first | omega | exact Nat.le_refl _⟩, ⟨by (with_reducible repeat (first | apply Kd.R_alloc | apply Kd.R_drewN | apply Kd.R_drew)); exact HO_8.out⟩, ⟨by (with_reducible repeat (first | apply Kd.R_alloc | apply Kd.R_drewN | apply Kd.R_drew)); exact HO_10.out⟩, ⟨by (with_reducible repeat (first | apply Kd.R_alloc | apply Kd.R_drewN | apply Kd.R_drew)); exact HO_12.out⟩, ⟨by (with_reducible repeat (first | apply Kd.R_alloc | apply Kd.R_drewN | apply Kd.R_drew)); exact HO_373000.out⟩, ⟨by (with_reducible repeat (first | apply Kd.S_alloc | apply Kd.S_drewN | apply Kd.S_drew)); exact HO_373001.out⟩, ⟨by (with_reducible repeat first | apply blk_drewN | apply blk_drew | apply blk_alloc); exact BK372.out⟩, ⟨by (with_reducible repeat first | apply blk_drewN | apply blk_drew | apply blk_alloc); exact BK380.out⟩, ⟨by repeat (first | (with_reducible first | exact HB.out | apply below_alloc | apply pw_below_drewN | apply below_drew1 | refine below_set ?_ GE372.out | refine below_set ?_ GE380.out) | exact HB.out)⟩⟩
            ·rw [if_neg c63] at H
             have c63b0 : decide ((rd t385 x15_2) < 0) = false := decide_eq_false c63
             clear c63
             have H' := Aside0.mk H
             clear H
             have p400 : 0 ≤ (x15_2 : Int) := of_decide_eq_true (by assumption)
             have q400 : x15_2 < (t385.length : Int) := of_decide_eq_true (by assumption)
             obtain ⟨ad400, e400, hx400_0⟩ := Kd.at_int (Kd.R_reads' HO_8.out).2.2 x15_2 p400 q400
             cases e400
             replace p400 := eq_true p400
             replace q400 := eq_true q400
             have p401 : 0 ≤ (x15_2 : Int) := of_decide_eq_true (by assumption)
             have q401 : x15_2 < (t385.length : Int) := of_decide_eq_true (by assumption)
             obtain ⟨ad401, e401, hx401_0⟩ := Kd.at_int (Kd.R_reads' HO_8.out).2.2 x15_2 p401 q401
             obtain rfl : ad400 = ad401 := (by injection e401)
             replace p401 := eq_true p401
             replace q401 := eq_true q401
             go_wp2
             go_meet
             case rel => exact ⟨_, (((rd t385 x15_2) == ((rd_T34 t366 t382).f0))), (by first | rfl | (simp; done) | (simp [*]; done)), H', ⟨by have := HJ13.out; have := HK2.out; first | omega | exact Nat.le_refl _⟩, ⟨by (with_reducible repeat (first | apply Kd.R_alloc | apply Kd.R_drewN | apply Kd.R_drew)); exact HO_8.out⟩, ⟨by (with_reducible repeat (first | apply Kd.R_alloc | apply Kd.R_drewN | apply Kd.R_drew)); exact HO_10.out⟩, ⟨by (with_reducible repeat (first | apply Kd.R_alloc | apply Kd.R_drewN | apply Kd.R_drew)); exact HO_12.out⟩, ⟨by (with_reducible repeat (first | apply Kd.R_alloc | apply Kd.R_drewN | apply Kd.R_drew)); exact HO_373000.out⟩, ⟨by (with_reducible repeat (first | apply Kd.S_alloc | apply Kd.S_drewN | apply Kd.S_drew)); exact HO_373001.out⟩, ⟨by (with_reducible repeat first | apply blk_drewN | apply blk_drew | apply blk_alloc); exact BK372.out⟩, ⟨by (with_reducible repeat first | apply blk_drewN | apply blk_drew | apply blk_alloc); exact BK380.out⟩, ⟨by repeat (first | (with_reducible first | exact HB.out | apply below_alloc | apply pw_below_drewN | apply below_drew1 | refine below_set ?_ GE372.out | refine below_set ?_ GE380.out) | exact HB.out)⟩⟩
           ·rw [if_neg c62] at H
            exact absurd H (by simp)
          case rest =>
           clear HC60
           try clear c1
           try clear p2
           try clear c3
           try clear p3
           try clear q3
           try clear hx3
           try clear c4
           try clear p4
           try clear q4
           try clear hx4
           try clear c5
           try clear c6
           try clear p6
           try clear c7
           try clear c8
           try clear c9
           try clear c10
           try clear c11
           try clear c34
           try clear p38
           try clear q38
           try clear hx38
           try clear p40
           try clear q40
           try clear hx40
           try clear c47
           try clear c48
           try clear c49
           try clear c50
           try clear c50b0
           try clear c50b1
           try clear c51
           try clear c51b0
           try clear c51b1
           try clear c58
           try clear c59
           try clear c59b0
           try clear c62
           try clear c62b0
           try clear c63
           try clear c63b0
           try clear hcz35_0
           try clear hcz35_1
           try clear hcz36_0
           try clear hcz36_1
           try clear hcz36_2
           try clear hcz36_3
           try clear hcz38_0
           try clear hcz38_1
           try clear hcz39_0
           try clear hcz39_1
           try clear hcz39_2
           try clear hcz39_3
           try clear hcz44_0
           try clear hcz44_1
           try clear hcz45_0
           try clear hcz45_1
           try clear hcz45_2
           try clear hcz45_3
           try clear hfz35_0
           try clear hfz35_1
           try clear hfz36_0
           try clear hfz36_1
           try clear hfz36_2
           try clear hfz36_3
           try clear hfz38_0
           try clear hfz38_1
           try clear hfz39_0
           try clear hfz39_1
           try clear hfz39_2
           try clear hfz39_3
           try clear hfz44_0
           try clear hfz44_1
           try clear hfz45_0
           try clear hfz45_1
           try clear hfz45_2
           try clear hfz45_3
           try clear hx383_0
           try clear hx383_1
           try clear hx400_0
           try clear hx401_0
           try clear p2
           try clear p3
           try clear p38
           try clear p383
           try clear p400
           try clear p401
           try clear p6
           try clear q3
           try clear q38
           try clear q383
           try clear q400
           try clear q401
           obtain ⟨kq, x117_59, rfl, HA, HJ59, HO_8, HO_10, HO_12, HO_373000, HO_373001, BK372, BK380, HB⟩ := hcut
           cases kq with
           | zero => exact absurd HA.out (by simp [laws_FnStays.j2])
           | succ kj59 =>
            have H := HA.out
            clear HA
            simp only [laws_FnStays.j2] at H
            by_cases c64 : x117_59 = true
            ·subst c64
             have H1 : (laws_FnStays.l0 kj59 ((rd_T34 t366 t382).f0) t385 t392 t396 x14_2 (wrap64 (x15_2 + 1)) t376 t377 t378 t379) = some r := by rw [if_pos rfl] at H; exact H
             clear H
             have H := H1
             clear H1
             have H' := Aside0.mk H
             clear H
             go_wp2
             go_roundg kj59
             case measure => have := HJ13.out; have := HK2.out; have := HJ59.out; omega
             case rel => exact ⟨(x14_2), (wrap64 (x15_2 + 1)), (by first | rfl | (simp; done) | (simp [*]; done)), (by first | rfl | (simp; done) | (simp [*]; done)), H', ⟨by have := HJ13.out; have := HK2.out; have := HJ59.out; omega⟩, ⟨by (with_reducible repeat (first | apply Kd.R_alloc | apply Kd.R_drewN | apply Kd.R_drew)); exact HO_8.out⟩, ⟨by (with_reducible repeat (first | apply Kd.R_alloc | apply Kd.R_drewN | apply Kd.R_drew)); exact HO_10.out⟩, ⟨by (with_reducible repeat (first | apply Kd.R_alloc | apply Kd.R_drewN | apply Kd.R_drew)); exact HO_12.out⟩, ⟨by (with_reducible repeat (first | apply Kd.R_alloc | apply Kd.R_drewN | apply Kd.R_drew)); exact HO_373000.out⟩, ⟨by (with_reducible repeat (first | apply Kd.S_alloc | apply Kd.S_drewN | apply Kd.S_drew)); exact HO_373001.out⟩, ⟨by (with_reducible repeat first | apply blk_drewN | apply blk_drew | apply blk_alloc); exact BK372.out⟩, ⟨by (with_reducible repeat first | apply blk_drewN | apply blk_drew | apply blk_alloc); exact BK380.out⟩, ⟨by repeat (first | (with_reducible first | exact HB.out | apply below_alloc | apply pw_below_drewN | apply below_drew1 | refine below_set ?_ GE372.out | refine below_set ?_ GE380.out) | exact HB.out)⟩⟩
            ·replace c64 := Bool.eq_false_iff.mpr c64
             subst c64
             have H1 : (laws_FnStays.l1 kj59 ((rd_T34 t366 t382).f0) t385 t392 t396 x14_2 x15_2 (-1) 0 t376 t377 t378 t379) = some r := by rw [if_neg (show ¬ (false = true) by decide)] at H; exact H
             clear H
             have H := H1
             clear H1
             have H' := Aside0.mk H
             clear H
             go_wp2
             go_loopg [16, 17] kj59 (fun kq v16 v17 w' => ∃ (x16_4 : Int) (x17_4 : Int), v16 = .int .i64 x16_4 ∧ v17 = .int .i64 x17_4 ∧ Aside0 (laws_FnStays.l1 kq ((rd_T34 t366 t382).f0) t385 t392 t396 x14_2 x15_2 x16_4 x17_4 t376 t377 t378 t379 = some r) ∧ Aside0 (kq ≤ kj59) ∧ Aside0 (Kd.R (Kd.int .i64) 2 w' w.heap.size (fun k_ => some k_ ≠ (v393 : Value).ownBlock ∧ some k_ ≠ (v397 : Value).ownBlock) (.slice Ao61 t385.length co61) t385) ∧ Aside0 (Kd.R (Kd.int .i64) 2 w' w.heap.size (fun k_ => some k_ ≠ ((.slice Ao61 t385.length co61) : Value).ownBlock ∧ some k_ ≠ (v397 : Value).ownBlock) v393 t392) ∧ Aside0 (Kd.R (Kd.int .i64) 2 w' w.heap.size (fun k_ => some k_ ≠ ((.slice Ao61 t385.length co61) : Value).ownBlock ∧ some k_ ≠ (v393 : Value).ownBlock) v397 t396) ∧ Aside0 (Kd.R k34 34 w' w.heap.size (fun _ => True) (.slice (some ad383) t366.length co17) t366) ∧ Aside0 (Kd.S k70 70 w' w.heap.size (fun k_ => some k_ ≠ ((.slice Ao61 t385.length co61) : Value).ownBlock ∧ some k_ ≠ (v393 : Value).ownBlock ∧ some k_ ≠ (v397 : Value).ownBlock) (.slice Ao19 t369.length co19) t369) ∧ Aside0 (w'.heap[gb372]? = some (.cells #[(.slice (some ad383) t366.length co17), (.slice Ao19 t369.length co19)] 26 (0, 0))) ∧ Aside0 (w'.heap[gb380]? = some (.cells #[.int .i64 t376, .int .i64 t377, .int .i64 t378, .bool t379] 29 (0, 0))) ∧ Aside0 (Below w.heap.size w w'))
             case atStart => exact ⟨((-1)), (0), (by first | rfl | (simp; done) | (simp [*]; done)), (by first | rfl | (simp; done) | (simp [*]; done)), H', ⟨Nat.le_refl _⟩, ⟨by (with_reducible repeat (first | apply Kd.R_alloc | apply Kd.R_drewN | apply Kd.R_drew)); exact HO_8.out⟩, ⟨by (with_reducible repeat (first | apply Kd.R_alloc | apply Kd.R_drewN | apply Kd.R_drew)); exact HO_10.out⟩, ⟨by (with_reducible repeat (first | apply Kd.R_alloc | apply Kd.R_drewN | apply Kd.R_drew)); exact HO_12.out⟩, ⟨by (with_reducible repeat (first | apply Kd.R_alloc | apply Kd.R_drewN | apply Kd.R_drew)); exact HO_373000.out⟩, ⟨by (with_reducible repeat (first | apply Kd.S_alloc | apply Kd.S_drewN | apply Kd.S_drew)); exact HO_373001.out⟩, ⟨by (with_reducible repeat first | apply blk_drewN | apply blk_drew | apply blk_alloc); exact BK372.out⟩, ⟨by (with_reducible repeat first | apply blk_drewN | apply blk_drew | apply blk_alloc); exact BK380.out⟩, ⟨by repeat (first | (with_reducible first | exact HB.out | apply below_alloc | apply pw_below_drewN | apply below_drew1 | refine below_set ?_ GE372.out | refine below_set ?_ GE380.out) | exact HB.out)⟩⟩
             case round =>
              clear H'
              try clear c1
              try clear p2
              try clear c3
              try clear p3
              try clear q3
              try clear hx3
              try clear c4
              try clear p4
              try clear q4
              try clear hx4
              try clear c5
              try clear c6
              try clear p6
              try clear c7
              try clear c8
              try clear c9
              try clear c10
              try clear c11
              try clear c34
              try clear p38
              try clear q38
              try clear hx38
              try clear p40
              try clear q40
              try clear hx40
              try clear c47
              try clear c48
              try clear c49
              try clear c50
              try clear c50b0
              try clear c50b1
              try clear c51
              try clear c51b0
              try clear c51b1
              try clear c58
              try clear c59
              try clear c59b0
              try clear c62
              try clear c62b0
              try clear c63
              try clear c63b0
              try clear c64
              try clear p64
              try clear hcz35_0
              try clear hcz35_1
              try clear hcz36_0
              try clear hcz36_1
              try clear hcz36_2
              try clear hcz36_3
              try clear hcz38_0
              try clear hcz38_1
              try clear hcz39_0
              try clear hcz39_1
              try clear hcz39_2
              try clear hcz39_3
              try clear hcz44_0
              try clear hcz44_1
              try clear hcz45_0
              try clear hcz45_1
              try clear hcz45_2
              try clear hcz45_3
              try clear hfz35_0
              try clear hfz35_1
              try clear hfz36_0
              try clear hfz36_1
              try clear hfz36_2
              try clear hfz36_3
              try clear hfz38_0
              try clear hfz38_1
              try clear hfz39_0
              try clear hfz39_1
              try clear hfz39_2
              try clear hfz39_3
              try clear hfz44_0
              try clear hfz44_1
              try clear hfz45_0
              try clear hfz45_1
              try clear hfz45_2
              try clear hfz45_3
              try clear hx383_0
              try clear hx383_1
              try clear hx400_0
              try clear hx401_0
              try clear p2
              try clear p3
              try clear p38
              try clear p383
              try clear p4
              try clear p40
              try clear p400
              try clear p401
              try clear p6
              try clear q3
              try clear q38
              try clear q383
              try clear q4
              try clear q40
              try clear q400
              try clear q401
              obtain ⟨x16_4, x17_4, rfl, rfl, HA, HK4, HO_8, HO_10, HO_12, HO_373000, HO_373001, BK372, BK380, HB⟩ := hrel
              cases gk with
              | zero => exact absurd HA.out (by simp [laws_FnStays.l1])
              | succ k4 =>
               have H := HA.out
               clear HA
               simp only [laws_FnStays.l1] at H
               by_cases c65 : x17_4 < (t392.length : Int)
               ·rw [if_pos c65] at H
                have c65b0 : decide (x17_4 < (t392.length : Int)) = true := decide_eq_true c65
                clear c65
                by_cases c66 : 0 ≤ x17_4
                ·rw [if_pos c66] at H
                 have c66b0 : decide (0 ≤ x17_4) = true := decide_eq_true c66
                 clear c66
                 by_cases c67 : 0 ≤ x15_2
                 ·rw [if_pos c67] at H
                  have c67b0 : decide (0 ≤ x15_2) = true := decide_eq_true c67
                  clear c67
                  by_cases c68 : x15_2 < (t385.length : Int)
                  ·rw [if_pos c68] at H
                   have c68b0 : decide (x15_2 < (t385.length : Int)) = true := decide_eq_true c68
                   clear c68
                   by_cases c69 : (rd t392 x17_4) = (rd t385 x15_2)
                   ·rw [if_pos c69] at H
                    have c69b0 : ((rd t392 x17_4) == (rd t385 x15_2)) = true := beq_iff_eq.mpr c69
                    have c69b1 : ((rd t392 x17_4) != (rd t385 x15_2)) = false := bne_eq_false_iff_eq.mpr c69
                    clear c69
                    have H' := Aside0.mk H
                    clear H
                    obtain ⟨Ao70, co70, eo70⟩ := Kd.R_slice HO_10.out
                    subst eo70
                    try go_wp2
                    have n0_ := Aside0.mk (Kd.R_drew HO_8.out)
                    have n1_ := Aside0.mk (Kd.R_drew HO_10.out)
                    have n2_ := Aside0.mk (Kd.R_drew HO_12.out)
                    have n3_ := Aside0.mk (Kd.R_drew HO_373000.out)
                    have n4_ := Aside0.mk (Kd.S_drew HO_373001.out)
                    have n5_ := Aside0.mk (blk_drew BK372.out)
                    have n6_ := Aside0.mk (blk_drew BK380.out)
                    have n7_ := Aside0.mk (below_drew1 HB.out)
                    clear HO_8
                    clear HO_10
                    clear HO_12
                    clear HO_373000
                    clear HO_373001
                    clear BK372
                    clear BK380
                    clear HB
                    have HO_8 := n0_
                    have HO_10 := n1_
                    have HO_12 := n2_
                    have HO_373000 := n3_
                    have HO_373001 := n4_
                    have BK372 := n5_
                    have BK380 := n6_
                    have HB := n7_
                    clear n0_ n1_ n2_ n3_ n4_ n5_ n6_ n7_
                    have p402 : 0 ≤ (x17_4 : Int) := of_decide_eq_true (by assumption)
                    have q402 : x17_4 < (t392.length : Int) := of_decide_eq_true (by assumption)
                    obtain ⟨ad402, e402, hx402_0⟩ := Kd.at_int (Kd.R_reads' HO_10.out).2.2 x17_4 p402 q402
                    cases e402
                    replace p402 := eq_true p402
                    replace q402 := eq_true q402
                    have p403 : 0 ≤ (x15_2 : Int) := of_decide_eq_true (by assumption)
                    have q403 : x15_2 < (t385.length : Int) := of_decide_eq_true (by assumption)
                    obtain ⟨ad403, e403, hx403_0⟩ := Kd.at_int (Kd.R_reads' HO_8.out).2.2 x15_2 p403 q403
                    cases e403
                    replace p403 := eq_true p403
                    replace q403 := eq_true q403
                    refine start_ (n := 9) (S := fun w' => w'.cell? (ad402.add (x17_4).toNat) = some (.int .i64 (rd t392 x17_4)) ∧ w'.cell? (ad403.add (x15_2).toNat) = some (.int .i64 (rd t385 x15_2))) (ds := []) mz3_12 (by kernel_rfl) rfl rfl ⟨hx402_0, hx403_0⟩ (fun hHeld => ?_); refine with_tabW laws_FnStays.tab22 laws_FnStays.bits22 (fun HT_ HW_ => ?_)
                    generalize wr.drew = w71 at HO_8 HO_10 HO_12 HO_373000 HO_373001 BK372 BK380 HB hx402_0 hx403_0 hHeld ⊢
                    refine pu_z3 0 (some 124) ?_ mz3_13 rfl rfl (any_of HT_.out (by kernel_rfl)) (fun _ _ _ h => h) (Or.inl ⟨by rfl, ?_⟩) ?_ ?_ ?_
                    (rotate_left; ·(intro w'; go_simp; with_reducible rfl)); (rotate_left; ·(simp only [Act.put, pq_z3]; rfl))
                    refine pu_z3 1 (some 125) ?_ mz3_14 rfl rfl (any_of HT_.out (by kernel_rfl)) (fun _ _ _ h => h) (Or.inl ⟨by rfl, ?_⟩) ?_ ?_ ?_
                    (rotate_left; ·(intro w'; go_simp; with_reducible rfl)); (rotate_left; ·(simp only [Act.put, pq_z3]; rfl))
                    refine pu_z3 2 (some 126) ?_ mz3_15 rfl rfl (any_of HT_.out (by kernel_rfl)) (fun _ _ _ h => h) (Or.inl ⟨by rfl, ?_⟩) ?_ ?_ ?_
                    (rotate_left; ·(intro w'; go_simp; with_reducible rfl)); (rotate_left; ·(simp only [Act.put, pq_z3]; rfl))
                    refine pu_z3 4 (some 128) ?_ mz3_16 rfl rfl (any_of HT_.out (by kernel_rfl)) (fun _ _ _ h => h) (Or.inl ⟨by rfl, ?_⟩) ?_ ?_ ?_
                    (rotate_left; ·(intro w'; go_simp; with_reducible rfl)); (rotate_left; ·(simp only [Act.put, pq_z3]; rfl))
                    refine pu_z3 5 (some 129) ?_ #[true, true, true, false, true, true, false, false, false] rfl rfl (any_of HT_.out (by kernel_rfl)) (fun _ _ _ h => h) (Or.inl ⟨by rfl, ?_⟩) ?_ ?_ ?_
                    (rotate_left; ·(intro w'; go_simp; with_reducible rfl)); (rotate_left; ·(simp only [Act.put, pq_z3]; rfl))
                    refine pu_z3 6 (some 130) ?_ #[true, true, true, false, true, true, true, false, false] rfl rfl (any_of HT_.out (by kernel_rfl)) (fun _ _ _ h => h) (Or.inl ⟨by rfl, ?_⟩) ?_ ?_ ?_
                    (rotate_left; ·(intro w'; go_simp; with_reducible rfl)); (rotate_left; ·(simp only [Act.put, pq_z3]; rfl))
                    refine take_ (i := 3) (N := some 127) (v := ?_) (a' := ?_) #[true, true, true, true, true, true, true, false, false] rfl rfl (take_ofW HT_.out HW_.out (by kernel_rfl)) (fun _ _ _ h => h) (Or.inl ⟨by rfl, ?_⟩) hHeld ?_ ?_
                    (rotate_left; ·(rintro w' ⟨s0, s1⟩; go_simp; with_reducible rfl)); (rotate_left; ·(simp only [Act.put, pq_z3]; rfl))
                    refine take_ (i := 7) (N := some 131) (v := ?_) (a' := ?_) #[true, true, true, true, true, true, true, true, false] rfl rfl (take_ofW HT_.out HW_.out (by kernel_rfl)) (fun _ _ _ h => h) (Or.inl ⟨by rfl, ?_⟩) hHeld ?_ ?_
                    (rotate_left; ·(rintro w' ⟨s0, s1⟩; go_simp; with_reducible rfl)); (rotate_left; ·(simp only [Act.put, pq_z3]; rfl))
                    refine pu_z3 8 (some 132) ?_ #[true, true, true, true, true, true, true, true, true] rfl rfl (any_of HT_.out (by kernel_rfl)) (fun _ _ _ h => h) (Or.inl ⟨by rfl, ?_⟩) ?_ ?_ ?_
                    (rotate_left; ·(intro w'; go_simp; with_reducible rfl)); (rotate_left; ·(simp only [Act.put, pq_z3]; rfl))
                    refine done_ (done_of HT_.out (by kernel_rfl)) ?_
                    try go_wp2
                    go_roundg k4
                    case measure => have := HJ13.out; have := HK2.out; have := HJ59.out; have := HK4.out; omega
                    case rel => exact ⟨(x17_4), (wrap64 (x17_4 + 1)), (by first | rfl | (simp; done) | (simp [*]; done)), (by first | rfl | (simp; done) | (simp [*]; done)), H', ⟨by have := HJ13.out; have := HK2.out; have := HJ59.out; have := HK4.out; omega⟩, ⟨by (with_reducible repeat (first | apply Kd.R_alloc | apply Kd.R_drewN | apply Kd.R_drew)); exact HO_8.out⟩, ⟨by (with_reducible repeat (first | apply Kd.R_alloc | apply Kd.R_drewN | apply Kd.R_drew)); exact HO_10.out⟩, ⟨by (with_reducible repeat (first | apply Kd.R_alloc | apply Kd.R_drewN | apply Kd.R_drew)); exact HO_12.out⟩, ⟨by (with_reducible repeat (first | apply Kd.R_alloc | apply Kd.R_drewN | apply Kd.R_drew)); exact HO_373000.out⟩, ⟨by (with_reducible repeat (first | apply Kd.S_alloc | apply Kd.S_drewN | apply Kd.S_drew)); exact HO_373001.out⟩, ⟨by (with_reducible repeat first | apply blk_drewN | apply blk_drew | apply blk_alloc); exact BK372.out⟩, ⟨by (with_reducible repeat first | apply blk_drewN | apply blk_drew | apply blk_alloc); exact BK380.out⟩, ⟨by repeat (first | (with_reducible first | exact HB.out | apply below_alloc | apply pw_below_drewN | apply below_drew1 | refine below_set ?_ GE372.out | refine below_set ?_ GE380.out) | exact HB.out)⟩⟩
                   ·rw [if_neg c69] at H
                    have c69b0 : ((rd t392 x17_4) == (rd t385 x15_2)) = false := beq_eq_false_iff_ne.mpr c69
                    have c69b1 : ((rd t392 x17_4) != (rd t385 x15_2)) = true := bne_iff_ne.mpr c69
                    have H' := Aside0.mk H
                    clear H
                    obtain ⟨Ao72, co72, eo72⟩ := Kd.R_slice HO_10.out
                    subst eo72
                    try go_wp2
                    have n0_ := Aside0.mk (Kd.R_drew HO_8.out)
                    have n1_ := Aside0.mk (Kd.R_drew HO_10.out)
                    have n2_ := Aside0.mk (Kd.R_drew HO_12.out)
                    have n3_ := Aside0.mk (Kd.R_drew HO_373000.out)
                    have n4_ := Aside0.mk (Kd.S_drew HO_373001.out)
                    have n5_ := Aside0.mk (blk_drew BK372.out)
                    have n6_ := Aside0.mk (blk_drew BK380.out)
                    have n7_ := Aside0.mk (below_drew1 HB.out)
                    clear HO_8
                    clear HO_10
                    clear HO_12
                    clear HO_373000
                    clear HO_373001
                    clear BK372
                    clear BK380
                    clear HB
                    have HO_8 := n0_
                    have HO_10 := n1_
                    have HO_12 := n2_
                    have HO_373000 := n3_
                    have HO_373001 := n4_
                    have BK372 := n5_
                    have BK380 := n6_
                    have HB := n7_
                    clear n0_ n1_ n2_ n3_ n4_ n5_ n6_ n7_
                    have p402 : 0 ≤ (x17_4 : Int) := of_decide_eq_true (by assumption)
                    have q402 : x17_4 < (t392.length : Int) := of_decide_eq_true (by assumption)
                    obtain ⟨ad402, e402, hx402_0⟩ := Kd.at_int (Kd.R_reads' HO_10.out).2.2 x17_4 p402 q402
                    cases e402
                    replace p402 := eq_true p402
                    replace q402 := eq_true q402
                    have p403 : 0 ≤ (x15_2 : Int) := of_decide_eq_true (by assumption)
                    have q403 : x15_2 < (t385.length : Int) := of_decide_eq_true (by assumption)
                    obtain ⟨ad403, e403, hx403_0⟩ := Kd.at_int (Kd.R_reads' HO_8.out).2.2 x15_2 p403 q403
                    cases e403
                    replace p403 := eq_true p403
                    replace q403 := eq_true q403
                    refine start_ (n := 9) (S := fun w' => w'.cell? (ad402.add (x17_4).toNat) = some (.int .i64 (rd t392 x17_4)) ∧ w'.cell? (ad403.add (x15_2).toNat) = some (.int .i64 (rd t385 x15_2))) (ds := []) mz3_12 (by kernel_rfl) rfl rfl ⟨hx402_0, hx403_0⟩ (fun hHeld => ?_); refine with_tabW laws_FnStays.tab22 laws_FnStays.bits22 (fun HT_ HW_ => ?_)
                    generalize wr.drew = w73 at HO_8 HO_10 HO_12 HO_373000 HO_373001 BK372 BK380 HB hx402_0 hx403_0 hHeld ⊢
                    refine pu_z3 0 (some 124) ?_ mz3_13 rfl rfl (any_of HT_.out (by kernel_rfl)) (fun _ _ _ h => h) (Or.inl ⟨by rfl, ?_⟩) ?_ ?_ ?_
                    (rotate_left; ·(intro w'; go_simp; with_reducible rfl)); (rotate_left; ·(simp only [Act.put, pq_z3]; rfl))
                    refine pu_z3 1 (some 125) ?_ mz3_14 rfl rfl (any_of HT_.out (by kernel_rfl)) (fun _ _ _ h => h) (Or.inl ⟨by rfl, ?_⟩) ?_ ?_ ?_
                    (rotate_left; ·(intro w'; go_simp; with_reducible rfl)); (rotate_left; ·(simp only [Act.put, pq_z3]; rfl))
                    refine pu_z3 2 (some 126) ?_ mz3_15 rfl rfl (any_of HT_.out (by kernel_rfl)) (fun _ _ _ h => h) (Or.inl ⟨by rfl, ?_⟩) ?_ ?_ ?_
                    (rotate_left; ·(intro w'; go_simp; with_reducible rfl)); (rotate_left; ·(simp only [Act.put, pq_z3]; rfl))
                    refine pu_z3 4 (some 128) ?_ mz3_16 rfl rfl (any_of HT_.out (by kernel_rfl)) (fun _ _ _ h => h) (Or.inl ⟨by rfl, ?_⟩) ?_ ?_ ?_
                    (rotate_left; ·(intro w'; go_simp; with_reducible rfl)); (rotate_left; ·(simp only [Act.put, pq_z3]; rfl))
                    refine pu_z3 5 (some 129) ?_ #[true, true, true, false, true, true, false, false, false] rfl rfl (any_of HT_.out (by kernel_rfl)) (fun _ _ _ h => h) (Or.inl ⟨by rfl, ?_⟩) ?_ ?_ ?_
                    (rotate_left; ·(intro w'; go_simp; with_reducible rfl)); (rotate_left; ·(simp only [Act.put, pq_z3]; rfl))
                    refine pu_z3 6 (some 130) ?_ #[true, true, true, false, true, true, true, false, false] rfl rfl (any_of HT_.out (by kernel_rfl)) (fun _ _ _ h => h) (Or.inl ⟨by rfl, ?_⟩) ?_ ?_ ?_
                    (rotate_left; ·(intro w'; go_simp; with_reducible rfl)); (rotate_left; ·(simp only [Act.put, pq_z3]; rfl))
                    refine take_ (i := 3) (N := some 127) (v := ?_) (a' := ?_) #[true, true, true, true, true, true, true, false, false] rfl rfl (take_ofW HT_.out HW_.out (by kernel_rfl)) (fun _ _ _ h => h) (Or.inl ⟨by rfl, ?_⟩) hHeld ?_ ?_
                    (rotate_left; ·(rintro w' ⟨s0, s1⟩; go_simp; with_reducible rfl)); (rotate_left; ·(simp only [Act.put, pq_z3]; rfl))
                    refine take_ (i := 7) (N := some 131) (v := ?_) (a' := ?_) #[true, true, true, true, true, true, true, true, false] rfl rfl (take_ofW HT_.out HW_.out (by kernel_rfl)) (fun _ _ _ h => h) (Or.inl ⟨by rfl, ?_⟩) hHeld ?_ ?_
                    (rotate_left; ·(rintro w' ⟨s0, s1⟩; go_simp; with_reducible rfl)); (rotate_left; ·(simp only [Act.put, pq_z3]; rfl))
                    refine pu_z3 8 (some 132) ?_ #[true, true, true, true, true, true, true, true, true] rfl rfl (any_of HT_.out (by kernel_rfl)) (fun _ _ _ h => h) (Or.inl ⟨by rfl, ?_⟩) ?_ ?_ ?_
                    (rotate_left; ·(intro w'; go_simp; with_reducible rfl)); (rotate_left; ·(simp only [Act.put, pq_z3]; rfl))
                    refine done_ (done_of HT_.out (by kernel_rfl)) ?_
                    try go_wp2
                    go_roundg k4
                    case measure => have := HJ13.out; have := HK2.out; have := HJ59.out; have := HK4.out; omega
                    case rel => exact ⟨(x16_4), (wrap64 (x17_4 + 1)), (by first | rfl | (simp; done) | (simp [*]; done)), (by first | rfl | (simp; done) | (simp [*]; done)), H', ⟨by have := HJ13.out; have := HK2.out; have := HJ59.out; have := HK4.out; omega⟩, ⟨by (with_reducible repeat (first | apply Kd.R_alloc | apply Kd.R_drewN | apply Kd.R_drew)); exact HO_8.out⟩, ⟨by (with_reducible repeat (first | apply Kd.R_alloc | apply Kd.R_drewN | apply Kd.R_drew)); exact HO_10.out⟩, ⟨by (with_reducible repeat (first | apply Kd.R_alloc | apply Kd.R_drewN | apply Kd.R_drew)); exact HO_12.out⟩, ⟨by (with_reducible repeat (first | apply Kd.R_alloc | apply Kd.R_drewN | apply Kd.R_drew)); exact HO_373000.out⟩, ⟨by (with_reducible repeat (first | apply Kd.S_alloc | apply Kd.S_drewN | apply Kd.S_drew)); exact HO_373001.out⟩, ⟨by (with_reducible repeat first | apply blk_drewN | apply blk_drew | apply blk_alloc); exact BK372.out⟩, ⟨by (with_reducible repeat first | apply blk_drewN | apply blk_drew | apply blk_alloc); exact BK380.out⟩, ⟨by repeat (first | (with_reducible first | exact HB.out | apply below_alloc | apply pw_below_drewN | apply below_drew1 | refine below_set ?_ GE372.out | refine below_set ?_ GE380.out) | exact HB.out)⟩⟩
                  ·rw [if_neg c68] at H
                   exact absurd H (by simp)
                 ·rw [if_neg c67] at H
                  exact absurd H (by simp)
                ·rw [if_neg c66] at H
                 exact absurd H (by simp)
               ·rw [if_neg c65] at H
                have c65b0 : decide (x17_4 < (t392.length : Int)) = false := decide_eq_false c65
                clear c65
                by_cases c74 : x16_4 ≤ x14_2
                ·rw [if_pos c74] at H
                 exact absurd H (by simp)
                ·rw [if_neg c74] at H
                 have c74b0 : decide (x16_4 ≤ x14_2) = false := decide_eq_false c74
                 clear c74
                 have H' := Aside0.mk H
                 clear H
                 obtain ⟨Ao76, co76, eo76⟩ := Kd.R_slice HO_10.out
                 subst eo76
                 go_wp2
                 go_roundg k4
                 case measure => have := HJ13.out; have := HK2.out; have := HJ59.out; have := HK4.out; omega
                 case rel => exact ⟨(x16_4), (wrap64 (x15_2 + 1)), (by first | rfl | (simp; done) | (simp [*]; done)), (by first | rfl | (simp; done) | (simp [*]; done)), H', ⟨by have := HJ13.out; have := HK2.out; have := HJ59.out; have := HK4.out; omega⟩, ⟨by (with_reducible repeat (first | apply Kd.R_alloc | apply Kd.R_drewN | apply Kd.R_drew)); exact HO_8.out⟩, ⟨by (with_reducible repeat (first | apply Kd.R_alloc | apply Kd.R_drewN | apply Kd.R_drew)); exact HO_10.out⟩, ⟨by (with_reducible repeat (first | apply Kd.R_alloc | apply Kd.R_drewN | apply Kd.R_drew)); exact HO_12.out⟩, ⟨by (with_reducible repeat (first | apply Kd.R_alloc | apply Kd.R_drewN | apply Kd.R_drew)); exact HO_373000.out⟩, ⟨by (with_reducible repeat (first | apply Kd.S_alloc | apply Kd.S_drewN | apply Kd.S_drew)); exact HO_373001.out⟩, ⟨by (with_reducible repeat first | apply blk_drewN | apply blk_drew | apply blk_alloc); exact BK372.out⟩, ⟨by (with_reducible repeat first | apply blk_drewN | apply blk_drew | apply blk_alloc); exact BK380.out⟩, ⟨by repeat (first | (with_reducible first | exact HB.out | apply below_alloc | apply pw_below_drewN | apply below_drew1 | refine below_set ?_ GE372.out | refine below_set ?_ GE380.out) | exact HB.out)⟩⟩
         ·rw [if_neg c59] at H
          have c59b0 : decide (x15_2 < (t385.length : Int)) = false := decide_eq_false c59
          clear c59
          have H' := Aside0.mk H
          clear H
          obtain ⟨Ao77, co77, eo77⟩ := Kd.R_slice HO_8.out
          subst eo77
          go_wp2
          go_loopg [18] k2 (fun kq v18 w' => ∃ (x18_3 : Int), v18 = .int .i64 x18_3 ∧ Aside0 (laws_FnStays.l2 kq t385 t396 x18_3 t376 t377 t378 t379 = some r) ∧ Aside0 (kq ≤ k2) ∧ Aside0 (Kd.R (Kd.int .i64) 2 w' w.heap.size (fun k_ => some k_ ≠ (v397 : Value).ownBlock) (.slice Ao77 t385.length co77) t385) ∧ Aside0 (Kd.R (Kd.int .i64) 2 w' w.heap.size (fun k_ => some k_ ≠ ((.slice Ao77 t385.length co77) : Value).ownBlock) v397 t396) ∧ Aside0 (Kd.R k34 34 w' w.heap.size (fun _ => True) (.slice (some ad383) t366.length co17) t366) ∧ Aside0 (Kd.S k70 70 w' w.heap.size (fun k_ => some k_ ≠ ((.slice Ao77 t385.length co77) : Value).ownBlock ∧ some k_ ≠ (v397 : Value).ownBlock) (.slice Ao19 t369.length co19) t369) ∧ Aside0 (w'.heap[gb372]? = some (.cells #[(.slice (some ad383) t366.length co17), (.slice Ao19 t369.length co19)] 26 (0, 0))) ∧ Aside0 (w'.heap[gb380]? = some (.cells #[.int .i64 t376, .int .i64 t377, .int .i64 t378, .bool t379] 29 (0, 0))) ∧ Aside0 (Below w.heap.size w w'))
          case atStart => exact ⟨(0), (by first | rfl | (simp; done) | (simp [*]; done)), H', ⟨Nat.le_refl _⟩, ⟨by (with_reducible repeat (first | apply Kd.R_alloc | apply Kd.R_drewN | apply Kd.R_drew)); exact Kd.R_mono HO_8.out (fun _ hk => hk.2)⟩, ⟨by (with_reducible repeat (first | apply Kd.R_alloc | apply Kd.R_drewN | apply Kd.R_drew)); exact Kd.R_mono HO_12.out (fun _ hk => hk.1)⟩, ⟨by (with_reducible repeat (first | apply Kd.R_alloc | apply Kd.R_drewN | apply Kd.R_drew)); exact HO_373000.out⟩, ⟨by (with_reducible repeat (first | apply Kd.S_alloc | apply Kd.S_drewN | apply Kd.S_drew)); exact Kd.S_mono HO_373001.out (fun _ hk => ⟨hk.1, hk.2.2⟩)⟩, ⟨by (with_reducible repeat first | apply blk_drewN | apply blk_drew | apply blk_alloc); exact BK372.out⟩, ⟨by (with_reducible repeat first | apply blk_drewN | apply blk_drew | apply blk_alloc); exact BK380.out⟩, ⟨by repeat (first | (with_reducible first | exact HB.out | apply below_alloc | apply pw_below_drewN | apply below_drew1 | refine below_set ?_ GE372.out | refine below_set ?_ GE380.out) | exact HB.out)⟩⟩
          case round =>
           clear H'
           try clear c1
           try clear p2
           try clear c3
           try clear p3
           try clear q3
           try clear hx3
           try clear c4
           try clear p4
           try clear q4
           try clear hx4
           try clear c5
           try clear c6
           try clear p6
           try clear c7
           try clear c8
           try clear c9
           try clear c10
           try clear c11
           try clear c34
           try clear p38
           try clear q38
           try clear hx38
           try clear p40
           try clear q40
           try clear hx40
           try clear c47
           try clear c48
           try clear c49
           try clear c50
           try clear c50b0
           try clear c50b1
           try clear c51
           try clear c51b0
           try clear c51b1
           try clear c58
           try clear c59
           try clear c59b0
           try clear c62
           try clear c62b0
           try clear c63
           try clear c63b0
           try clear c64
           try clear p64
           try clear c65
           try clear c65b0
           try clear c66
           try clear c66b0
           try clear c67
           try clear c67b0
           try clear c68
           try clear c68b0
           try clear c69
           try clear c69b0
           try clear c69b1
           try clear c74
           try clear c74b0
           try clear hcz35_0
           try clear hcz35_1
           try clear hcz36_0
           try clear hcz36_1
           try clear hcz36_2
           try clear hcz36_3
           try clear hcz38_0
           try clear hcz38_1
           try clear hcz39_0
           try clear hcz39_1
           try clear hcz39_2
           try clear hcz39_3
           try clear hcz44_0
           try clear hcz44_1
           try clear hcz45_0
           try clear hcz45_1
           try clear hcz45_2
           try clear hcz45_3
           try clear hfz35_0
           try clear hfz35_1
           try clear hfz36_0
           try clear hfz36_1
           try clear hfz36_2
           try clear hfz36_3
           try clear hfz38_0
           try clear hfz38_1
           try clear hfz39_0
           try clear hfz39_1
           try clear hfz39_2
           try clear hfz39_3
           try clear hfz44_0
           try clear hfz44_1
           try clear hfz45_0
           try clear hfz45_1
           try clear hfz45_2
           try clear hfz45_3
           try clear hx383_0
           try clear hx383_1
           try clear hx400_0
           try clear hx401_0
           try clear hx402_0
           try clear hx403_0
           try clear p2
           try clear p3
           try clear p38
           try clear p383
           try clear p4
           try clear p40
           try clear p400
           try clear p401
           try clear p402
           try clear p403
           try clear p6
           try clear p64
           try clear q3
           try clear q38
           try clear q383
           try clear q4
           try clear q40
           try clear q400
           try clear q401
           try clear q402
           try clear q403
           obtain ⟨x18_3, rfl, HA, HK3, HO_8, HO_12, HO_373000, HO_373001, BK372, BK380, HB⟩ := hrel
           cases gk with
           | zero => exact absurd HA.out (by simp [laws_FnStays.l2])
           | succ k3 =>
            have H := HA.out
            clear HA
            simp only [laws_FnStays.l2] at H
            by_cases c78 : x18_3 < (t396.length : Int)
            ·rw [if_pos c78] at H
             have c78b0 : decide (x18_3 < (t396.length : Int)) = true := decide_eq_true c78
             clear c78
             by_cases c79 : t379 = true
             ·subst c79
              have H1 : (if 0 ≤ x18_3 then (if x18_3 < (t385.length : Int) then (if (rd t396 x18_3) = (rd t385 x18_3) then (if (rd t396 x18_3) ≥ 0 then ((laws_a8Has.f k3 t385 (rd t396 x18_3)).bind fun t408 => (if t408 = true then (laws_FnStays.l2 k3 t385 t396 (wrap64 (x18_3 + 1)) t376 t377 t378 true) else (none))) else (laws_FnStays.l2 k3 t385 t396 (wrap64 (x18_3 + 1)) t376 t377 t378 true)) else (none)) else (none)) else (none)) = some r := by rw [if_pos rfl] at H; exact H
              clear H
              have H := H1
              clear H1
              by_cases c80 : 0 ≤ x18_3
              ·rw [if_pos c80] at H
               have c80b0 : decide (0 ≤ x18_3) = true := decide_eq_true c80
               clear c80
               by_cases c81 : x18_3 < (t385.length : Int)
               ·rw [if_pos c81] at H
                have c81b0 : decide (x18_3 < (t385.length : Int)) = true := decide_eq_true c81
                clear c81
                by_cases c82 : (rd t396 x18_3) = (rd t385 x18_3)
                ·rw [if_pos c82] at H
                 have c82b0 : ((rd t396 x18_3) == (rd t385 x18_3)) = true := beq_iff_eq.mpr c82
                 have c82b1 : ((rd t396 x18_3) != (rd t385 x18_3)) = false := bne_eq_false_iff_eq.mpr c82
                 clear c82
                 by_cases c83 : (rd t396 x18_3) ≥ 0
                 ·rw [if_pos c83] at H
                  have c83b0 : decide (0 ≤ (rd t396 x18_3)) = true := decide_eq_true c83
                  clear c83
                  replace H := Option.bind_eq_some_iff.mp H
                  obtain ⟨t408, A840, H⟩ := H
                  replace H : (if t408 = true then (laws_FnStays.l2 k3 t385 t396 (wrap64 (x18_3 + 1)) t376 t377 t378 true) else (none)) = some r := H
                  have A84 := Aside0.mk A840
                  clear A840
                  by_cases c85 : t408 = true
                  ·subst c85
                   have H1 : (laws_FnStays.l2 k3 t385 t396 (wrap64 (x18_3 + 1)) t376 t377 t378 true) = some r := by rw [if_pos rfl] at H; exact H
                   clear H
                   have H := H1
                   clear H1
                   have H' := Aside0.mk H
                   clear H
                   obtain ⟨Ao86, co86, eo86⟩ := Kd.R_slice HO_12.out
                   subst eo86
                   try go_wp2
                   have n0_ := Aside0.mk (Kd.R_drew HO_8.out)
                   have n1_ := Aside0.mk (Kd.R_drew HO_12.out)
                   have n2_ := Aside0.mk (Kd.R_drew HO_373000.out)
                   have n3_ := Aside0.mk (Kd.S_drew HO_373001.out)
                   have n4_ := Aside0.mk (blk_drew BK372.out)
                   have n5_ := Aside0.mk (blk_drew BK380.out)
                   have n6_ := Aside0.mk (below_drew1 HB.out)
                   clear HO_8
                   clear HO_12
                   clear HO_373000
                   clear HO_373001
                   clear BK372
                   clear BK380
                   clear HB
                   have HO_8 := n0_
                   have HO_12 := n1_
                   have HO_373000 := n2_
                   have HO_373001 := n3_
                   have BK372 := n4_
                   have BK380 := n5_
                   have HB := n6_
                   clear n0_ n1_ n2_ n3_ n4_ n5_ n6_
                   have p404 : 0 ≤ (x18_3 : Int) := of_decide_eq_true (by assumption)
                   have q404 : x18_3 < (t396.length : Int) := of_decide_eq_true (by assumption)
                   obtain ⟨ad404, e404, hx404_0⟩ := Kd.at_int (Kd.R_reads' HO_12.out).2.2 x18_3 p404 q404
                   cases e404
                   replace p404 := eq_true p404
                   replace q404 := eq_true q404
                   have p405 : 0 ≤ (x18_3 : Int) := of_decide_eq_true (by assumption)
                   have q405 : x18_3 < (t385.length : Int) := of_decide_eq_true (by assumption)
                   obtain ⟨ad405, e405, hx405_0⟩ := Kd.at_int (Kd.R_reads' HO_8.out).2.2 x18_3 p405 q405
                   cases e405
                   replace p405 := eq_true p405
                   replace q405 := eq_true q405
                   have p406 : 0 ≤ (x18_3 : Int) := of_decide_eq_true (by assumption)
                   have q406 : x18_3 < (t396.length : Int) := of_decide_eq_true (by assumption)
                   obtain ⟨ad406, e406, hx406_0⟩ := Kd.at_int (Kd.R_reads' HO_12.out).2.2 x18_3 p406 q406
                   obtain rfl : ad404 = ad406 := (by injection e406)
                   replace p406 := eq_true p406
                   replace q406 := eq_true q406
                   have p407 : 0 ≤ (x18_3 : Int) := of_decide_eq_true (by assumption)
                   have q407 : x18_3 < (t396.length : Int) := of_decide_eq_true (by assumption)
                   obtain ⟨ad407, e407, hx407_0⟩ := Kd.at_int (Kd.R_reads' HO_12.out).2.2 x18_3 p407 q407
                   obtain rfl : ad404 = ad407 := (by injection e407)
                   replace p407 := eq_true p407
                   replace q407 := eq_true q407
                   refine start_ (n := 29) (S := fun w' => w'.cell? ⟨gb380, 0, none⟩ = some (.int .i64 t376) ∧ w'.cell? ⟨gb380, 1, none⟩ = some (.int .i64 t377) ∧ w'.cell? ⟨gb380, 2, none⟩ = some (.int .i64 t378) ∧ w'.cell? ⟨gb380, 3, none⟩ = some (.bool true) ∧ w'.cell? (ad404.add (x18_3).toNat) = some (.int .i64 (rd t396 x18_3)) ∧ w'.cell? (ad405.add (x18_3).toNat) = some (.int .i64 (rd t385 x18_3)) ∧ w'.cell? (ad404.add (x18_3).toNat) = some (.int .i64 (rd t396 x18_3)) ∧ w'.cell? (ad404.add (x18_3).toNat) = some (.int .i64 (rd t396 x18_3))) (ds := []) mz3_17 (by kernel_rfl) rfl rfl ⟨(blk_cell BK380.out 0).trans rfl, (blk_cell BK380.out 1).trans rfl, (blk_cell BK380.out 2).trans rfl, (blk_cell BK380.out 3).trans rfl, hx404_0, hx405_0, hx406_0, hx407_0⟩ (fun hHeld => ?_); refine with_tabW laws_FnStays.tab30 laws_FnStays.bits30 (fun HT_ HW_ => ?_)
                   generalize wr.drew = w87 at HO_8 HO_12 HO_373000 HO_373001 BK372 BK380 HB hx404_0 hx405_0 hx406_0 hx407_0 hHeld ⊢
                   refine pu_z3 0 (some 144) ?_ mz3_18 rfl rfl (any_of HT_.out (by kernel_rfl)) (fun _ _ _ h => h) (Or.inl ⟨by rfl, ?_⟩) ?_ ?_ ?_
                   (rotate_left; ·(intro w'; go_simp; with_reducible rfl)); (rotate_left; ·(simp only [Act.put, pq_z3]; rfl))
                   refine take_ (i := 1) (N := some 145) (v := ?_) (a' := ?_) mz3_19 rfl rfl (take_ofW HT_.out HW_.out (by kernel_rfl)) (fun _ _ _ h => h) (Or.inl ⟨by rfl, ?_⟩) hHeld ?_ ?_
                   (rotate_left; ·(rintro w' ⟨s0, s1, s2, s3, s4, s5, s6, s7⟩; go_simp; with_reducible rfl)); (rotate_left; ·(simp only [Act.put, pq_z3]; rfl))
                   refine pu_z3 2 (some 146) ?_ mz3_20 rfl rfl (any_of HT_.out (by kernel_rfl)) (fun _ _ _ h => h) (Or.inl ⟨by rfl, ?_⟩) ?_ ?_ ?_
                   (rotate_left; ·(intro w'; go_simp; with_reducible rfl)); (rotate_left; ·(simp only [Act.put, pq_z3]; rfl))
                   refine pu_z3 3 (some 147) ?_ mz3_21 rfl rfl (any_of HT_.out (by kernel_rfl)) (fun _ _ _ h => h) (Or.inl ⟨by rfl, ?_⟩) ?_ ?_ ?_
                   (rotate_left; ·(intro w'; go_simp; with_reducible rfl)); (rotate_left; ·(simp only [Act.put, pq_z3]; rfl))
                   refine pu_z3 4 (some 148) ?_ mz3_22 rfl rfl (any_of HT_.out (by kernel_rfl)) (fun _ _ _ h => h) (Or.inl ⟨by rfl, ?_⟩) ?_ ?_ ?_
                   (rotate_left; ·(intro w'; go_simp; with_reducible rfl)); (rotate_left; ·(simp only [Act.put, pq_z3]; rfl))
                   refine pu_z3 5 (some 149) ?_ mz3_23 rfl rfl (any_of HT_.out (by kernel_rfl)) (fun _ _ _ h => h) (Or.inl ⟨by rfl, ?_⟩) ?_ ?_ ?_
                   (rotate_left; ·(intro w'; go_simp; with_reducible rfl)); (rotate_left; ·(simp only [Act.put, pq_z3]; rfl))
                   refine pu_z3 7 (some 151) ?_ mz3_24 rfl rfl (any_of HT_.out (by kernel_rfl)) (fun _ _ _ h => h) (Or.inl ⟨by rfl, ?_⟩) ?_ ?_ ?_
                   (rotate_left; ·(intro w'; go_simp; with_reducible rfl)); (rotate_left; ·(simp only [Act.put, pq_z3]; rfl))
                   refine pu_z3 8 (some 152) ?_ mz3_25 rfl rfl (any_of HT_.out (by kernel_rfl)) (fun _ _ _ h => h) (Or.inl ⟨by rfl, ?_⟩) ?_ ?_ ?_
                   (rotate_left; ·(intro w'; go_simp; with_reducible rfl)); (rotate_left; ·(simp only [Act.put, pq_z3]; rfl))
                   refine pu_z3 9 (some 153) ?_ mz3_26 rfl rfl (any_of HT_.out (by kernel_rfl)) (fun _ _ _ h => h) (Or.inl ⟨by rfl, ?_⟩) ?_ ?_ ?_
                   (rotate_left; ·(intro w'; go_simp; with_reducible rfl)); (rotate_left; ·(simp only [Act.put, pq_z3]; rfl))
                   refine take_ (i := 6) (N := some 150) (v := ?_) (a' := ?_) mz3_27 rfl rfl (take_ofW HT_.out HW_.out (by kernel_rfl)) (fun _ _ _ h => h) (Or.inl ⟨by rfl, ?_⟩) hHeld ?_ ?_
                   (rotate_left; ·(rintro w' ⟨s0, s1, s2, s3, s4, s5, s6, s7⟩; go_simp; with_reducible rfl)); (rotate_left; ·(simp only [Act.put, pq_z3]; rfl))
                   refine take_ (i := 10) (N := some 154) (v := ?_) (a' := ?_) mz3_28 rfl rfl (take_ofW HT_.out HW_.out (by kernel_rfl)) (fun _ _ _ h => h) (Or.inl ⟨by rfl, ?_⟩) hHeld ?_ ?_
                   (rotate_left; ·(rintro w' ⟨s0, s1, s2, s3, s4, s5, s6, s7⟩; go_simp; with_reducible rfl)); (rotate_left; ·(simp only [Act.put, pq_z3]; rfl))
                   refine pu_z3 11 (some 155) ?_ mz3_29 rfl rfl (any_of HT_.out (by kernel_rfl)) (fun _ _ _ h => h) (Or.inl ⟨by rfl, ?_⟩) ?_ ?_ ?_
                   (rotate_left; ·(intro w'; go_simp; with_reducible rfl)); (rotate_left; ·(simp only [Act.put, pq_z3]; rfl))
                   refine pu_z3 12 (some 156) ?_ mz3_30 rfl rfl (any_of HT_.out (by kernel_rfl)) (fun _ _ _ h => h) (Or.inl ⟨by rfl, ?_⟩) ?_ ?_ ?_
                   (rotate_left; ·(intro w'; go_simp; with_reducible rfl)); (rotate_left; ·(simp only [Act.put, pq_z3]; rfl))
                   refine pu_z3 13 (some 157) ?_ mz3_31 rfl rfl (any_of HT_.out (by kernel_rfl)) (fun _ _ _ h => h) (Or.inl ⟨by rfl, ?_⟩) ?_ ?_ ?_
                   (rotate_left; ·(intro w'; go_simp; with_reducible rfl)); (rotate_left; ·(simp only [Act.put, pq_z3]; rfl))
                   refine pu_z3 14 (some 158) ?_ mz3_32 rfl rfl (any_of HT_.out (by kernel_rfl)) (fun _ _ _ h => h) (Or.inl ⟨by rfl, ?_⟩) ?_ ?_ ?_
                   (rotate_left; ·(intro w'; go_simp; with_reducible rfl)); (rotate_left; ·(simp only [Act.put, pq_z3]; rfl))
                   refine pu_z3 15 (some 159) ?_ mz3_33 rfl rfl (any_of HT_.out (by kernel_rfl)) (fun _ _ _ h => h) (Or.inl ⟨by rfl, ?_⟩) ?_ ?_ ?_
                   (rotate_left; ·(intro w'; go_simp; with_reducible rfl)); (rotate_left; ·(simp only [Act.put, pq_z3]; rfl))
                   refine pu_z3 16 (some 160) ?_ mz3_34 rfl rfl (any_of HT_.out (by kernel_rfl)) (fun _ _ _ h => h) (Or.inl ⟨by rfl, ?_⟩) ?_ ?_ ?_
                   (rotate_left; ·(intro w'; go_simp; with_reducible rfl)); (rotate_left; ·(simp only [Act.put, pq_z3]; rfl))
                   refine take_ (i := 17) (N := some 161) (v := ?_) (a' := ?_) mz3_35 rfl rfl (take_ofW HT_.out HW_.out (by kernel_rfl)) (fun _ _ _ h => h) (Or.inl ⟨by rfl, ?_⟩) hHeld ?_ ?_
                   (rotate_left; ·(rintro w' ⟨s0, s1, s2, s3, s4, s5, s6, s7⟩; go_simp; with_reducible rfl)); (rotate_left; ·(simp only [Act.put, pq_z3]; rfl))
                   refine pu_z3 18 (some 162) ?_ mz3_36 rfl rfl (any_of HT_.out (by kernel_rfl)) (fun _ _ _ h => h) (Or.inl ⟨by rfl, ?_⟩) ?_ ?_ ?_
                   (rotate_left; ·(intro w'; go_simp; with_reducible rfl)); (rotate_left; ·(simp only [Act.put, pq_z3]; rfl))
                   refine pu_z3 19 (some 163) ?_ mz3_37 rfl rfl (any_of HT_.out (by kernel_rfl)) (fun _ _ _ h => h) (Or.inl ⟨by rfl, ?_⟩) ?_ ?_ ?_
                   (rotate_left; ·(intro w'; go_simp; with_reducible rfl)); (rotate_left; ·(simp only [Act.put, pq_z3]; rfl))
                   refine pu_z3 20 (some 164) ?_ mz3_38 rfl rfl (any_of HT_.out (by kernel_rfl)) (fun _ _ _ h => h) (Or.inl ⟨by rfl, ?_⟩) ?_ ?_ ?_
                   (rotate_left; ·(intro w'; go_simp; with_reducible rfl)); (rotate_left; ·(simp only [Act.put, pq_z3]; rfl))
                   refine pu_z3 21 (some 165) ?_ mz3_39 rfl rfl (any_of HT_.out (by kernel_rfl)) (fun _ _ _ h => h) (Or.inl ⟨by rfl, ?_⟩) ?_ ?_ ?_
                   (rotate_left; ·(intro w'; go_simp; with_reducible rfl)); (rotate_left; ·(simp only [Act.put, pq_z3]; rfl))
                   refine pu_z3 22 (some 166) ?_ mz3_40 rfl rfl (any_of HT_.out (by kernel_rfl)) (fun _ _ _ h => h) (Or.inl ⟨by rfl, ?_⟩) ?_ ?_ ?_
                   (rotate_left; ·(intro w'; go_simp; with_reducible rfl)); (rotate_left; ·(simp only [Act.put, pq_z3]; rfl))
                   refine pu_z3 23 (some 167) ?_ mz3_41 rfl rfl (any_of HT_.out (by kernel_rfl)) (fun _ _ _ h => h) (Or.inl ⟨by rfl, ?_⟩) ?_ ?_ ?_
                   (rotate_left; ·(intro w'; go_simp; with_reducible rfl)); (rotate_left; ·(simp only [Act.put, pq_z3]; rfl))
                   refine take_ (i := 24) (N := some 168) (v := ?_) (a' := ?_) mz3_42 rfl rfl (take_ofW HT_.out HW_.out (by kernel_rfl)) (fun _ _ _ h => h) (Or.inl ⟨by rfl, ?_⟩) hHeld ?_ ?_
                   (rotate_left; ·(rintro w' ⟨s0, s1, s2, s3, s4, s5, s6, s7⟩; go_simp; with_reducible rfl)); (rotate_left; ·(simp only [Act.put, pq_z3]; rfl))
                   refine one_ (i := 25) (N := some 169) mz3_43 rfl rfl (one_of HT_.out (by kernel_rfl)) (by decide) (fun K hK => ?_)
                   refine goes_ Try.func12 (by kernel_rfl) rfl #[.slice (some ad405) t385.length co77, .int .i64 (rd t396 x18_3)] (by rfl) rfl rfl (by (try simp only [List.map_toArray, List.map_cons, List.map_nil]); first | done | rfl | (simp only [List.length_drop, List.length_take]; rfl)) ?_
                   with_reducible refine (laws_a8Has.calls k3 _ _ t385 (rd t396 x18_3) true _ ?side1 ?side2 A84.out).mono ?_
                   (case side1 => repeat (first | exact (Kd.R_reads' HO_8.out).2.2 | (with_reducible refine Kd.C_alloc ?_ _) | (with_reducible refine Kd.C_drewN ?_ _) | (with_reducible refine Kd.C_drew ?_)))
                   (case side2 => exact (Kd.R_reads' HO_8.out).2.1)
                   rintro e w' ⟨rfl, ⟨nd, rfl⟩⟩
                   refine ⟨_, rfl, ?_⟩
                   refine hK.out _ _ ⟨(blk_cell BK380.out 0).trans rfl, (blk_cell BK380.out 1).trans rfl, (blk_cell BK380.out 2).trans rfl, (blk_cell BK380.out 3).trans rfl, hHeld.2.2.2.2.1, hHeld.2.2.2.2.2.1, hHeld.2.2.2.2.2.2.1, hHeld.2.2.2.2.2.2.2⟩ (fun hHeld => ?_)
                   clear hK K
                   refine norm_ (a' := ?_) ?_ ?_
                   (rotate_left; ·(show Act.put _ (some 169) _ = _; simp only [Act.put, pq_z3]; rfl))
                   refine pu_z3 26 (some 170) ?_ mz3_44 rfl rfl (any_of HT_.out (by kernel_rfl)) (fun _ _ _ h => h) (Or.inl ⟨by rfl, ?_⟩) ?_ ?_ ?_
                   (rotate_left; ·(intro w'; go_simp; with_reducible rfl)); (rotate_left; ·(simp only [Act.put, pq_z3]; rfl))
                   refine pu_z3 27 (some 171) ?_ mz3_45 rfl rfl (any_of HT_.out (by kernel_rfl)) (fun _ _ _ h => h) (Or.inl ⟨by rfl, ?_⟩) ?_ ?_ ?_
                   (rotate_left; ·(intro w'; go_simp; with_reducible rfl)); (rotate_left; ·(simp only [Act.put, pq_z3]; rfl))
                   refine pu_z3 28 (some 172) ?_ mz3_46 rfl rfl (any_of HT_.out (by kernel_rfl)) (fun _ _ _ h => h) (Or.inl ⟨by rfl, ?_⟩) ?_ ?_ ?_
                   (rotate_left; ·(intro w'; go_simp; with_reducible rfl)); (rotate_left; ·(simp only [Act.put, pq_z3]; rfl))
                   refine done_ (done_of HT_.out (by kernel_rfl)) ?_
                   try go_wp2
                   go_roundg k3
                   case measure => have := HJ13.out; have := HK2.out; have := HK3.out; omega
                   case rel => exact ⟨(wrap64 (x18_3 + 1)), (by first | rfl | (simp; done) | (simp [*]; done)), H', ⟨by have := HJ13.out; have := HK2.out; have := HK3.out; omega⟩, ⟨by (with_reducible repeat (first | apply Kd.R_alloc | apply Kd.R_drewN | apply Kd.R_drew)); exact HO_8.out⟩, ⟨by (with_reducible repeat (first | apply Kd.R_alloc | apply Kd.R_drewN | apply Kd.R_drew)); exact HO_12.out⟩, ⟨by (with_reducible repeat (first | apply Kd.R_alloc | apply Kd.R_drewN | apply Kd.R_drew)); exact HO_373000.out⟩, ⟨by (with_reducible repeat (first | apply Kd.S_alloc | apply Kd.S_drewN | apply Kd.S_drew)); exact HO_373001.out⟩, ⟨by (with_reducible repeat first | apply blk_drewN | apply blk_drew | apply blk_alloc); exact BK372.out⟩, ⟨by (with_reducible repeat first | apply blk_drewN | apply blk_drew | apply blk_alloc); exact BK380.out⟩, ⟨by repeat (first | (with_reducible first | exact HB.out | apply below_alloc | apply pw_below_drewN | apply below_drew1 | refine below_set ?_ GE372.out | refine below_set ?_ GE380.out) | exact HB.out)⟩⟩
                  ·replace c85 := Bool.eq_false_iff.mpr c85
                   subst c85
                   have H1 : (none) = some r := by rw [if_neg (show ¬ (false = true) by decide)] at H; exact H
                   exact absurd H1 (by simp)
                 ·rw [if_neg c83] at H
                  have c83b0 : decide (0 ≤ (rd t396 x18_3)) = false := decide_eq_false c83
                  clear c83
                  have H' := Aside0.mk H
                  clear H
                  obtain ⟨Ao90, co90, eo90⟩ := Kd.R_slice HO_12.out
                  subst eo90
                  try go_wp2
                  have n0_ := Aside0.mk (Kd.R_drew HO_8.out)
                  have n1_ := Aside0.mk (Kd.R_drew HO_12.out)
                  have n2_ := Aside0.mk (Kd.R_drew HO_373000.out)
                  have n3_ := Aside0.mk (Kd.S_drew HO_373001.out)
                  have n4_ := Aside0.mk (blk_drew BK372.out)
                  have n5_ := Aside0.mk (blk_drew BK380.out)
                  have n6_ := Aside0.mk (below_drew1 HB.out)
                  clear HO_8
                  clear HO_12
                  clear HO_373000
                  clear HO_373001
                  clear BK372
                  clear BK380
                  clear HB
                  have HO_8 := n0_
                  have HO_12 := n1_
                  have HO_373000 := n2_
                  have HO_373001 := n3_
                  have BK372 := n4_
                  have BK380 := n5_
                  have HB := n6_
                  clear n0_ n1_ n2_ n3_ n4_ n5_ n6_
                  have p404 : 0 ≤ (x18_3 : Int) := of_decide_eq_true (by assumption)
                  have q404 : x18_3 < (t396.length : Int) := of_decide_eq_true (by assumption)
                  obtain ⟨ad404, e404, hx404_0⟩ := Kd.at_int (Kd.R_reads' HO_12.out).2.2 x18_3 p404 q404
                  cases e404
                  replace p404 := eq_true p404
                  replace q404 := eq_true q404
                  have p405 : 0 ≤ (x18_3 : Int) := of_decide_eq_true (by assumption)
                  have q405 : x18_3 < (t385.length : Int) := of_decide_eq_true (by assumption)
                  obtain ⟨ad405, e405, hx405_0⟩ := Kd.at_int (Kd.R_reads' HO_8.out).2.2 x18_3 p405 q405
                  cases e405
                  replace p405 := eq_true p405
                  replace q405 := eq_true q405
                  have p406 : 0 ≤ (x18_3 : Int) := of_decide_eq_true (by assumption)
                  have q406 : x18_3 < (t396.length : Int) := of_decide_eq_true (by assumption)
                  obtain ⟨ad406, e406, hx406_0⟩ := Kd.at_int (Kd.R_reads' HO_12.out).2.2 x18_3 p406 q406
                  obtain rfl : ad404 = ad406 := (by injection e406)
                  replace p406 := eq_true p406
                  replace q406 := eq_true q406
                  refine start_ (n := 29) (S := fun w' => w'.cell? ⟨gb380, 0, none⟩ = some (.int .i64 t376) ∧ w'.cell? ⟨gb380, 1, none⟩ = some (.int .i64 t377) ∧ w'.cell? ⟨gb380, 2, none⟩ = some (.int .i64 t378) ∧ w'.cell? ⟨gb380, 3, none⟩ = some (.bool true) ∧ w'.cell? (ad404.add (x18_3).toNat) = some (.int .i64 (rd t396 x18_3)) ∧ w'.cell? (ad405.add (x18_3).toNat) = some (.int .i64 (rd t385 x18_3)) ∧ w'.cell? (ad404.add (x18_3).toNat) = some (.int .i64 (rd t396 x18_3))) (ds := []) mz3_17 (by kernel_rfl) rfl rfl ⟨(blk_cell BK380.out 0).trans rfl, (blk_cell BK380.out 1).trans rfl, (blk_cell BK380.out 2).trans rfl, (blk_cell BK380.out 3).trans rfl, hx404_0, hx405_0, hx406_0⟩ (fun hHeld => ?_); refine with_tabW laws_FnStays.tab30 laws_FnStays.bits30 (fun HT_ HW_ => ?_)
                  generalize wr.drew = w91 at HO_8 HO_12 HO_373000 HO_373001 BK372 BK380 HB hx404_0 hx405_0 hx406_0 hHeld ⊢
                  refine pu_z3 0 (some 144) ?_ mz3_18 rfl rfl (any_of HT_.out (by kernel_rfl)) (fun _ _ _ h => h) (Or.inl ⟨by rfl, ?_⟩) ?_ ?_ ?_
                  (rotate_left; ·(intro w'; go_simp; with_reducible rfl)); (rotate_left; ·(simp only [Act.put, pq_z3]; rfl))
                  refine take_ (i := 1) (N := some 145) (v := ?_) (a' := ?_) mz3_19 rfl rfl (take_ofW HT_.out HW_.out (by kernel_rfl)) (fun _ _ _ h => h) (Or.inl ⟨by rfl, ?_⟩) hHeld ?_ ?_
                  (rotate_left; ·(rintro w' ⟨s0, s1, s2, s3, s4, s5, s6⟩; go_simp; with_reducible rfl)); (rotate_left; ·(simp only [Act.put, pq_z3]; rfl))
                  refine pu_z3 2 (some 146) ?_ mz3_20 rfl rfl (any_of HT_.out (by kernel_rfl)) (fun _ _ _ h => h) (Or.inl ⟨by rfl, ?_⟩) ?_ ?_ ?_
                  (rotate_left; ·(intro w'; go_simp; with_reducible rfl)); (rotate_left; ·(simp only [Act.put, pq_z3]; rfl))
                  refine pu_z3 3 (some 147) ?_ mz3_21 rfl rfl (any_of HT_.out (by kernel_rfl)) (fun _ _ _ h => h) (Or.inl ⟨by rfl, ?_⟩) ?_ ?_ ?_
                  (rotate_left; ·(intro w'; go_simp; with_reducible rfl)); (rotate_left; ·(simp only [Act.put, pq_z3]; rfl))
                  refine pu_z3 4 (some 148) ?_ mz3_22 rfl rfl (any_of HT_.out (by kernel_rfl)) (fun _ _ _ h => h) (Or.inl ⟨by rfl, ?_⟩) ?_ ?_ ?_
                  (rotate_left; ·(intro w'; go_simp; with_reducible rfl)); (rotate_left; ·(simp only [Act.put, pq_z3]; rfl))
                  refine pu_z3 5 (some 149) ?_ mz3_23 rfl rfl (any_of HT_.out (by kernel_rfl)) (fun _ _ _ h => h) (Or.inl ⟨by rfl, ?_⟩) ?_ ?_ ?_
                  (rotate_left; ·(intro w'; go_simp; with_reducible rfl)); (rotate_left; ·(simp only [Act.put, pq_z3]; rfl))
                  refine pu_z3 7 (some 151) ?_ mz3_24 rfl rfl (any_of HT_.out (by kernel_rfl)) (fun _ _ _ h => h) (Or.inl ⟨by rfl, ?_⟩) ?_ ?_ ?_
                  (rotate_left; ·(intro w'; go_simp; with_reducible rfl)); (rotate_left; ·(simp only [Act.put, pq_z3]; rfl))
                  refine pu_z3 8 (some 152) ?_ mz3_25 rfl rfl (any_of HT_.out (by kernel_rfl)) (fun _ _ _ h => h) (Or.inl ⟨by rfl, ?_⟩) ?_ ?_ ?_
                  (rotate_left; ·(intro w'; go_simp; with_reducible rfl)); (rotate_left; ·(simp only [Act.put, pq_z3]; rfl))
                  refine pu_z3 9 (some 153) ?_ mz3_26 rfl rfl (any_of HT_.out (by kernel_rfl)) (fun _ _ _ h => h) (Or.inl ⟨by rfl, ?_⟩) ?_ ?_ ?_
                  (rotate_left; ·(intro w'; go_simp; with_reducible rfl)); (rotate_left; ·(simp only [Act.put, pq_z3]; rfl))
                  refine take_ (i := 6) (N := some 150) (v := ?_) (a' := ?_) mz3_27 rfl rfl (take_ofW HT_.out HW_.out (by kernel_rfl)) (fun _ _ _ h => h) (Or.inl ⟨by rfl, ?_⟩) hHeld ?_ ?_
                  (rotate_left; ·(rintro w' ⟨s0, s1, s2, s3, s4, s5, s6⟩; go_simp; with_reducible rfl)); (rotate_left; ·(simp only [Act.put, pq_z3]; rfl))
                  refine take_ (i := 10) (N := some 154) (v := ?_) (a' := ?_) mz3_28 rfl rfl (take_ofW HT_.out HW_.out (by kernel_rfl)) (fun _ _ _ h => h) (Or.inl ⟨by rfl, ?_⟩) hHeld ?_ ?_
                  (rotate_left; ·(rintro w' ⟨s0, s1, s2, s3, s4, s5, s6⟩; go_simp; with_reducible rfl)); (rotate_left; ·(simp only [Act.put, pq_z3]; rfl))
                  refine pu_z3 11 (some 155) ?_ mz3_29 rfl rfl (any_of HT_.out (by kernel_rfl)) (fun _ _ _ h => h) (Or.inl ⟨by rfl, ?_⟩) ?_ ?_ ?_
                  (rotate_left; ·(intro w'; go_simp; with_reducible rfl)); (rotate_left; ·(simp only [Act.put, pq_z3]; rfl))
                  refine pu_z3 12 (some 156) ?_ mz3_30 rfl rfl (any_of HT_.out (by kernel_rfl)) (fun _ _ _ h => h) (Or.inl ⟨by rfl, ?_⟩) ?_ ?_ ?_
                  (rotate_left; ·(intro w'; go_simp; with_reducible rfl)); (rotate_left; ·(simp only [Act.put, pq_z3]; rfl))
                  refine pu_z3 13 (some 157) ?_ mz3_31 rfl rfl (any_of HT_.out (by kernel_rfl)) (fun _ _ _ h => h) (Or.inl ⟨by rfl, ?_⟩) ?_ ?_ ?_
                  (rotate_left; ·(intro w'; go_simp; with_reducible rfl)); (rotate_left; ·(simp only [Act.put, pq_z3]; rfl))
                  refine pu_z3 14 (some 158) ?_ mz3_32 rfl rfl (any_of HT_.out (by kernel_rfl)) (fun _ _ _ h => h) (Or.inl ⟨by rfl, ?_⟩) ?_ ?_ ?_
                  (rotate_left; ·(intro w'; go_simp; with_reducible rfl)); (rotate_left; ·(simp only [Act.put, pq_z3]; rfl))
                  refine pu_z3 15 (some 159) ?_ mz3_33 rfl rfl (any_of HT_.out (by kernel_rfl)) (fun _ _ _ h => h) (Or.inl ⟨by rfl, ?_⟩) ?_ ?_ ?_
                  (rotate_left; ·(intro w'; go_simp; with_reducible rfl)); (rotate_left; ·(simp only [Act.put, pq_z3]; rfl))
                  refine pu_z3 16 (some 160) ?_ mz3_34 rfl rfl (any_of HT_.out (by kernel_rfl)) (fun _ _ _ h => h) (Or.inl ⟨by rfl, ?_⟩) ?_ ?_ ?_
                  (rotate_left; ·(intro w'; go_simp; with_reducible rfl)); (rotate_left; ·(simp only [Act.put, pq_z3]; rfl))
                  refine take_ (i := 17) (N := some 161) (v := ?_) (a' := ?_) mz3_35 rfl rfl (take_ofW HT_.out HW_.out (by kernel_rfl)) (fun _ _ _ h => h) (Or.inl ⟨by rfl, ?_⟩) hHeld ?_ ?_
                  (rotate_left; ·(rintro w' ⟨s0, s1, s2, s3, s4, s5, s6⟩; go_simp; with_reducible rfl)); (rotate_left; ·(simp only [Act.put, pq_z3]; rfl))
                  refine pu_z3 18 (some 162) ?_ mz3_36 rfl rfl (any_of HT_.out (by kernel_rfl)) (fun _ _ _ h => h) (Or.inl ⟨by rfl, ?_⟩) ?_ ?_ ?_
                  (rotate_left; ·(intro w'; go_simp; with_reducible rfl)); (rotate_left; ·(simp only [Act.put, pq_z3]; rfl))
                  refine pu_z3 19 (some 163) ?_ mz3_37 rfl rfl (any_of HT_.out (by kernel_rfl)) (fun _ _ _ h => h) (Or.inl ⟨by rfl, ?_⟩) ?_ ?_ ?_
                  (rotate_left; ·(intro w'; go_simp; with_reducible rfl)); (rotate_left; ·(simp only [Act.put, pq_z3]; rfl))
                  refine pu_z3 20 (some 164) undef mz3_38 rfl rfl (any_of HT_.out (by kernel_rfl)) (fun _ _ _ h => h) (Or.inr ⟨by rfl, rfl⟩) ?_ ?_ ?_
                  (rotate_left; ·(simp only [Act.put, pq_z3]; rfl))
                  refine pu_z3 21 (some 165) undef mz3_39 rfl rfl (any_of HT_.out (by kernel_rfl)) (fun _ _ _ h => h) (Or.inr ⟨by rfl, rfl⟩) ?_ ?_ ?_
                  (rotate_left; ·(simp only [Act.put, pq_z3]; rfl))
                  refine pu_z3 22 (some 166) undef mz3_40 rfl rfl (any_of HT_.out (by kernel_rfl)) (fun _ _ _ h => h) (Or.inr ⟨by rfl, rfl⟩) ?_ ?_ ?_
                  (rotate_left; ·(simp only [Act.put, pq_z3]; rfl))
                  refine pu_z3 23 (some 167) undef mz3_41 rfl rfl (any_of HT_.out (by kernel_rfl)) (fun _ _ _ h => h) (Or.inr ⟨by rfl, rfl⟩) ?_ ?_ ?_
                  (rotate_left; ·(simp only [Act.put, pq_z3]; rfl))
                  refine pu_z3 24 (some 168) undef mz3_42 rfl rfl (any_of HT_.out (by kernel_rfl)) (fun _ _ _ h => h) (Or.inr ⟨by rfl, rfl⟩) ?_ ?_ ?_
                  (rotate_left; ·(simp only [Act.put, pq_z3]; rfl))
                  refine pu_z3 25 (some 169) undef mz3_43 rfl rfl (any_of HT_.out (by kernel_rfl)) (fun _ _ _ h => h) (Or.inr ⟨by rfl, rfl⟩) ?_ ?_ ?_
                  (rotate_left; ·(simp only [Act.put, pq_z3]; rfl))
                  refine pu_z3 26 (some 170) undef mz3_44 rfl rfl (any_of HT_.out (by kernel_rfl)) (fun _ _ _ h => h) (Or.inr ⟨by rfl, rfl⟩) ?_ ?_ ?_
                  (rotate_left; ·(simp only [Act.put, pq_z3]; rfl))
                  refine pu_z3 27 (some 171) ?_ mz3_45 rfl rfl (any_of HT_.out (by kernel_rfl)) (fun _ _ _ h => h) (Or.inl ⟨by rfl, ?_⟩) ?_ ?_ ?_
                  (rotate_left; ·(intro w'; go_simp; with_reducible rfl)); (rotate_left; ·(simp only [Act.put, pq_z3]; rfl))
                  refine pu_z3 28 (some 172) ?_ mz3_46 rfl rfl (any_of HT_.out (by kernel_rfl)) (fun _ _ _ h => h) (Or.inl ⟨by rfl, ?_⟩) ?_ ?_ ?_
                  (rotate_left; ·(intro w'; go_simp; with_reducible rfl)); (rotate_left; ·(simp only [Act.put, pq_z3]; rfl))
                  refine done_ (done_of HT_.out (by kernel_rfl)) ?_
                  try go_wp2
                  go_roundg k3
                  case measure => have := HJ13.out; have := HK2.out; have := HK3.out; omega
                  case rel => exact ⟨(wrap64 (x18_3 + 1)), (by first | rfl | (simp; done) | (simp [*]; done)), H', ⟨by have := HJ13.out; have := HK2.out; have := HK3.out; omega⟩, ⟨by (with_reducible repeat (first | apply Kd.R_alloc | apply Kd.R_drewN | apply Kd.R_drew)); exact HO_8.out⟩, ⟨by (with_reducible repeat (first | apply Kd.R_alloc | apply Kd.R_drewN | apply Kd.R_drew)); exact HO_12.out⟩, ⟨by (with_reducible repeat (first | apply Kd.R_alloc | apply Kd.R_drewN | apply Kd.R_drew)); exact HO_373000.out⟩, ⟨by (with_reducible repeat (first | apply Kd.S_alloc | apply Kd.S_drewN | apply Kd.S_drew)); exact HO_373001.out⟩, ⟨by (with_reducible repeat first | apply blk_drewN | apply blk_drew | apply blk_alloc); exact BK372.out⟩, ⟨by (with_reducible repeat first | apply blk_drewN | apply blk_drew | apply blk_alloc); exact BK380.out⟩, ⟨by repeat (first | (with_reducible first | exact HB.out | apply below_alloc | apply pw_below_drewN | apply below_drew1 | refine below_set ?_ GE372.out | refine below_set ?_ GE380.out) | exact HB.out)⟩⟩
                ·rw [if_neg c82] at H
                 exact absurd H (by simp)
               ·rw [if_neg c81] at H
                exact absurd H (by simp)
              ·rw [if_neg c80] at H
               exact absurd H (by simp)
             ·replace c79 := Bool.eq_false_iff.mpr c79
              subst c79
              have H1 : (if 0 ≤ x18_3 then (if (rd t396 x18_3) ≥ 0 then ((laws_a8Has.f k3 t385 (rd t396 x18_3)).bind fun t411 => (if t411 = true then (laws_FnStays.l2 k3 t385 t396 (wrap64 (x18_3 + 1)) t376 t377 t378 false) else (none))) else (laws_FnStays.l2 k3 t385 t396 (wrap64 (x18_3 + 1)) t376 t377 t378 false)) else (none)) = some r := by rw [if_neg (show ¬ (false = true) by decide)] at H; exact H
              clear H
              have H := H1
              clear H1
              by_cases c94 : 0 ≤ x18_3
              ·rw [if_pos c94] at H
               have c94b0 : decide (0 ≤ x18_3) = true := decide_eq_true c94
               clear c94
               by_cases c95 : (rd t396 x18_3) ≥ 0
               ·rw [if_pos c95] at H
                have c95b0 : decide (0 ≤ (rd t396 x18_3)) = true := decide_eq_true c95
                clear c95
                replace H := Option.bind_eq_some_iff.mp H
                obtain ⟨t411, A960, H⟩ := H
                replace H : (if t411 = true then (laws_FnStays.l2 k3 t385 t396 (wrap64 (x18_3 + 1)) t376 t377 t378 false) else (none)) = some r := H
                have A96 := Aside0.mk A960
                clear A960
                by_cases c97 : t411 = true
                ·subst c97
                 have H1 : (laws_FnStays.l2 k3 t385 t396 (wrap64 (x18_3 + 1)) t376 t377 t378 false) = some r := by rw [if_pos rfl] at H; exact H
                 clear H
                 have H := H1
                 clear H1
                 have H' := Aside0.mk H
                 clear H
                 obtain ⟨Ao98, co98, eo98⟩ := Kd.R_slice HO_12.out
                 subst eo98
                 try go_wp2
                 have n0_ := Aside0.mk (Kd.R_drew HO_8.out)
                 have n1_ := Aside0.mk (Kd.R_drew HO_12.out)
                 have n2_ := Aside0.mk (Kd.R_drew HO_373000.out)
                 have n3_ := Aside0.mk (Kd.S_drew HO_373001.out)
                 have n4_ := Aside0.mk (blk_drew BK372.out)
                 have n5_ := Aside0.mk (blk_drew BK380.out)
                 have n6_ := Aside0.mk (below_drew1 HB.out)
                 clear HO_8
                 clear HO_12
                 clear HO_373000
                 clear HO_373001
                 clear BK372
                 clear BK380
                 clear HB
                 have HO_8 := n0_
                 have HO_12 := n1_
                 have HO_373000 := n2_
                 have HO_373001 := n3_
                 have BK372 := n4_
                 have BK380 := n5_
                 have HB := n6_
                 clear n0_ n1_ n2_ n3_ n4_ n5_ n6_
                 have p409 : 0 ≤ (x18_3 : Int) := of_decide_eq_true (by assumption)
                 have q409 : x18_3 < (t396.length : Int) := of_decide_eq_true (by assumption)
                 obtain ⟨ad409, e409, hx409_0⟩ := Kd.at_int (Kd.R_reads' HO_12.out).2.2 x18_3 p409 q409
                 cases e409
                 replace p409 := eq_true p409
                 replace q409 := eq_true q409
                 have p410 : 0 ≤ (x18_3 : Int) := of_decide_eq_true (by assumption)
                 have q410 : x18_3 < (t396.length : Int) := of_decide_eq_true (by assumption)
                 obtain ⟨ad410, e410, hx410_0⟩ := Kd.at_int (Kd.R_reads' HO_12.out).2.2 x18_3 p410 q410
                 obtain rfl : ad409 = ad410 := (by injection e410)
                 replace p410 := eq_true p410
                 replace q410 := eq_true q410
                 refine start_ (n := 29) (S := fun w' => w'.cell? ⟨gb380, 0, none⟩ = some (.int .i64 t376) ∧ w'.cell? ⟨gb380, 1, none⟩ = some (.int .i64 t377) ∧ w'.cell? ⟨gb380, 2, none⟩ = some (.int .i64 t378) ∧ w'.cell? ⟨gb380, 3, none⟩ = some (.bool false) ∧ w'.cell? (ad409.add (x18_3).toNat) = some (.int .i64 (rd t396 x18_3)) ∧ w'.cell? (ad409.add (x18_3).toNat) = some (.int .i64 (rd t396 x18_3))) (ds := []) mz3_17 (by kernel_rfl) rfl rfl ⟨(blk_cell BK380.out 0).trans rfl, (blk_cell BK380.out 1).trans rfl, (blk_cell BK380.out 2).trans rfl, (blk_cell BK380.out 3).trans rfl, hx409_0, hx410_0⟩ (fun hHeld => ?_); refine with_tabW laws_FnStays.tab30 laws_FnStays.bits30 (fun HT_ HW_ => ?_)
                 generalize wr.drew = w99 at HO_8 HO_12 HO_373000 HO_373001 BK372 BK380 HB hx409_0 hx410_0 hHeld ⊢
                 refine pu_z3 0 (some 144) ?_ mz3_18 rfl rfl (any_of HT_.out (by kernel_rfl)) (fun _ _ _ h => h) (Or.inl ⟨by rfl, ?_⟩) ?_ ?_ ?_
                 (rotate_left; ·(intro w'; go_simp; with_reducible rfl)); (rotate_left; ·(simp only [Act.put, pq_z3]; rfl))
                 refine take_ (i := 1) (N := some 145) (v := ?_) (a' := ?_) mz3_19 rfl rfl (take_ofW HT_.out HW_.out (by kernel_rfl)) (fun _ _ _ h => h) (Or.inl ⟨by rfl, ?_⟩) hHeld ?_ ?_
                 (rotate_left; ·(rintro w' ⟨s0, s1, s2, s3, s4, s5⟩; go_simp; with_reducible rfl)); (rotate_left; ·(simp only [Act.put, pq_z3]; rfl))
                 refine pu_z3 2 (some 146) ?_ mz3_20 rfl rfl (any_of HT_.out (by kernel_rfl)) (fun _ _ _ h => h) (Or.inl ⟨by rfl, ?_⟩) ?_ ?_ ?_
                 (rotate_left; ·(intro w'; go_simp; with_reducible rfl)); (rotate_left; ·(simp only [Act.put, pq_z3]; rfl))
                 refine pu_z3 3 (some 147) undef mz3_21 rfl rfl (any_of HT_.out (by kernel_rfl)) (fun _ _ _ h => h) (Or.inr ⟨by rfl, rfl⟩) ?_ ?_ ?_
                 (rotate_left; ·(simp only [Act.put, pq_z3]; rfl))
                 refine pu_z3 4 (some 148) undef mz3_22 rfl rfl (any_of HT_.out (by kernel_rfl)) (fun _ _ _ h => h) (Or.inr ⟨by rfl, rfl⟩) ?_ ?_ ?_
                 (rotate_left; ·(simp only [Act.put, pq_z3]; rfl))
                 refine pu_z3 5 (some 149) undef mz3_23 rfl rfl (any_of HT_.out (by kernel_rfl)) (fun _ _ _ h => h) (Or.inr ⟨by rfl, rfl⟩) ?_ ?_ ?_
                 (rotate_left; ·(simp only [Act.put, pq_z3]; rfl))
                 refine pu_z3 6 (some 150) undef mz3_47 rfl rfl (any_of HT_.out (by kernel_rfl)) (fun _ _ _ h => h) (Or.inr ⟨by rfl, rfl⟩) ?_ ?_ ?_
                 (rotate_left; ·(simp only [Act.put, pq_z3]; rfl))
                 refine pu_z3 7 (some 151) undef mz3_48 rfl rfl (any_of HT_.out (by kernel_rfl)) (fun _ _ _ h => h) (Or.inr ⟨by rfl, rfl⟩) ?_ ?_ ?_
                 (rotate_left; ·(simp only [Act.put, pq_z3]; rfl))
                 refine pu_z3 8 (some 152) undef mz3_49 rfl rfl (any_of HT_.out (by kernel_rfl)) (fun _ _ _ h => h) (Or.inr ⟨by rfl, rfl⟩) ?_ ?_ ?_
                 (rotate_left; ·(simp only [Act.put, pq_z3]; rfl))
                 refine pu_z3 9 (some 153) undef mz3_27 rfl rfl (any_of HT_.out (by kernel_rfl)) (fun _ _ _ h => h) (Or.inr ⟨by rfl, rfl⟩) ?_ ?_ ?_
                 (rotate_left; ·(simp only [Act.put, pq_z3]; rfl))
                 refine pu_z3 10 (some 154) undef mz3_28 rfl rfl (any_of HT_.out (by kernel_rfl)) (fun _ _ _ h => h) (Or.inr ⟨by rfl, rfl⟩) ?_ ?_ ?_
                 (rotate_left; ·(simp only [Act.put, pq_z3]; rfl))
                 refine pu_z3 11 (some 155) undef mz3_29 rfl rfl (any_of HT_.out (by kernel_rfl)) (fun _ _ _ h => h) (Or.inr ⟨by rfl, rfl⟩) ?_ ?_ ?_
                 (rotate_left; ·(simp only [Act.put, pq_z3]; rfl))
                 refine pu_z3 12 (some 156) ?_ mz3_30 rfl rfl (any_of HT_.out (by kernel_rfl)) (fun _ _ _ h => h) (Or.inl ⟨by rfl, ?_⟩) ?_ ?_ ?_
                 (rotate_left; ·(intro w'; go_simp; with_reducible rfl)); (rotate_left; ·(simp only [Act.put, pq_z3]; rfl))
                 refine pu_z3 13 (some 157) ?_ mz3_31 rfl rfl (any_of HT_.out (by kernel_rfl)) (fun _ _ _ h => h) (Or.inl ⟨by rfl, ?_⟩) ?_ ?_ ?_
                 (rotate_left; ·(intro w'; go_simp; with_reducible rfl)); (rotate_left; ·(simp only [Act.put, pq_z3]; rfl))
                 refine pu_z3 14 (some 158) ?_ mz3_32 rfl rfl (any_of HT_.out (by kernel_rfl)) (fun _ _ _ h => h) (Or.inl ⟨by rfl, ?_⟩) ?_ ?_ ?_
                 (rotate_left; ·(intro w'; go_simp; with_reducible rfl)); (rotate_left; ·(simp only [Act.put, pq_z3]; rfl))
                 refine pu_z3 15 (some 159) ?_ mz3_33 rfl rfl (any_of HT_.out (by kernel_rfl)) (fun _ _ _ h => h) (Or.inl ⟨by rfl, ?_⟩) ?_ ?_ ?_
                 (rotate_left; ·(intro w'; go_simp; with_reducible rfl)); (rotate_left; ·(simp only [Act.put, pq_z3]; rfl))
                 refine pu_z3 16 (some 160) ?_ mz3_34 rfl rfl (any_of HT_.out (by kernel_rfl)) (fun _ _ _ h => h) (Or.inl ⟨by rfl, ?_⟩) ?_ ?_ ?_
                 (rotate_left; ·(intro w'; go_simp; with_reducible rfl)); (rotate_left; ·(simp only [Act.put, pq_z3]; rfl))
                 refine take_ (i := 17) (N := some 161) (v := ?_) (a' := ?_) mz3_35 rfl rfl (take_ofW HT_.out HW_.out (by kernel_rfl)) (fun _ _ _ h => h) (Or.inl ⟨by rfl, ?_⟩) hHeld ?_ ?_
                 (rotate_left; ·(rintro w' ⟨s0, s1, s2, s3, s4, s5⟩; go_simp; with_reducible rfl)); (rotate_left; ·(simp only [Act.put, pq_z3]; rfl))
                 refine pu_z3 18 (some 162) ?_ mz3_36 rfl rfl (any_of HT_.out (by kernel_rfl)) (fun _ _ _ h => h) (Or.inl ⟨by rfl, ?_⟩) ?_ ?_ ?_
                 (rotate_left; ·(intro w'; go_simp; with_reducible rfl)); (rotate_left; ·(simp only [Act.put, pq_z3]; rfl))
                 refine pu_z3 19 (some 163) ?_ mz3_37 rfl rfl (any_of HT_.out (by kernel_rfl)) (fun _ _ _ h => h) (Or.inl ⟨by rfl, ?_⟩) ?_ ?_ ?_
                 (rotate_left; ·(intro w'; go_simp; with_reducible rfl)); (rotate_left; ·(simp only [Act.put, pq_z3]; rfl))
                 refine pu_z3 20 (some 164) ?_ mz3_38 rfl rfl (any_of HT_.out (by kernel_rfl)) (fun _ _ _ h => h) (Or.inl ⟨by rfl, ?_⟩) ?_ ?_ ?_
                 (rotate_left; ·(intro w'; go_simp; with_reducible rfl)); (rotate_left; ·(simp only [Act.put, pq_z3]; rfl))
                 refine pu_z3 21 (some 165) ?_ mz3_39 rfl rfl (any_of HT_.out (by kernel_rfl)) (fun _ _ _ h => h) (Or.inl ⟨by rfl, ?_⟩) ?_ ?_ ?_
                 (rotate_left; ·(intro w'; go_simp; with_reducible rfl)); (rotate_left; ·(simp only [Act.put, pq_z3]; rfl))
                 refine pu_z3 22 (some 166) ?_ mz3_40 rfl rfl (any_of HT_.out (by kernel_rfl)) (fun _ _ _ h => h) (Or.inl ⟨by rfl, ?_⟩) ?_ ?_ ?_
                 (rotate_left; ·(intro w'; go_simp; with_reducible rfl)); (rotate_left; ·(simp only [Act.put, pq_z3]; rfl))
                 refine pu_z3 23 (some 167) ?_ mz3_41 rfl rfl (any_of HT_.out (by kernel_rfl)) (fun _ _ _ h => h) (Or.inl ⟨by rfl, ?_⟩) ?_ ?_ ?_
                 (rotate_left; ·(intro w'; go_simp; with_reducible rfl)); (rotate_left; ·(simp only [Act.put, pq_z3]; rfl))
                 refine take_ (i := 24) (N := some 168) (v := ?_) (a' := ?_) mz3_42 rfl rfl (take_ofW HT_.out HW_.out (by kernel_rfl)) (fun _ _ _ h => h) (Or.inl ⟨by rfl, ?_⟩) hHeld ?_ ?_
                 (rotate_left; ·(rintro w' ⟨s0, s1, s2, s3, s4, s5⟩; go_simp; with_reducible rfl)); (rotate_left; ·(simp only [Act.put, pq_z3]; rfl))
                 refine one_ (i := 25) (N := some 169) mz3_43 rfl rfl (one_of HT_.out (by kernel_rfl)) (by decide) (fun K hK => ?_)
                 refine goes_ Try.func12 (by kernel_rfl) rfl #[.slice Ao77 t385.length co77, .int .i64 (rd t396 x18_3)] (by rfl) rfl rfl (by (try simp only [List.map_toArray, List.map_cons, List.map_nil]); first | done | rfl | (simp only [List.length_drop, List.length_take]; rfl)) ?_
                 with_reducible refine (laws_a8Has.calls k3 _ _ t385 (rd t396 x18_3) true _ ?side1 ?side2 A96.out).mono ?_
                 (case side1 => repeat (first | exact (Kd.R_reads' HO_8.out).2.2 | (with_reducible refine Kd.C_alloc ?_ _) | (with_reducible refine Kd.C_drewN ?_ _) | (with_reducible refine Kd.C_drew ?_)))
                 (case side2 => exact (Kd.R_reads' HO_8.out).2.1)
                 rintro e w' ⟨rfl, ⟨nd, rfl⟩⟩
                 refine ⟨_, rfl, ?_⟩
                 refine hK.out _ _ ⟨(blk_cell BK380.out 0).trans rfl, (blk_cell BK380.out 1).trans rfl, (blk_cell BK380.out 2).trans rfl, (blk_cell BK380.out 3).trans rfl, hHeld.2.2.2.2.1, hHeld.2.2.2.2.2⟩ (fun hHeld => ?_)
                 clear hK K
                 refine norm_ (a' := ?_) ?_ ?_
                 (rotate_left; ·(show Act.put _ (some 169) _ = _; simp only [Act.put, pq_z3]; rfl))
                 refine pu_z3 26 (some 170) ?_ mz3_44 rfl rfl (any_of HT_.out (by kernel_rfl)) (fun _ _ _ h => h) (Or.inl ⟨by rfl, ?_⟩) ?_ ?_ ?_
                 (rotate_left; ·(intro w'; go_simp; with_reducible rfl)); (rotate_left; ·(simp only [Act.put, pq_z3]; rfl))
                 refine pu_z3 27 (some 171) ?_ mz3_45 rfl rfl (any_of HT_.out (by kernel_rfl)) (fun _ _ _ h => h) (Or.inl ⟨by rfl, ?_⟩) ?_ ?_ ?_
                 (rotate_left; ·(intro w'; go_simp; with_reducible rfl)); (rotate_left; ·(simp only [Act.put, pq_z3]; rfl))
                 refine pu_z3 28 (some 172) ?_ mz3_46 rfl rfl (any_of HT_.out (by kernel_rfl)) (fun _ _ _ h => h) (Or.inl ⟨by rfl, ?_⟩) ?_ ?_ ?_
                 (rotate_left; ·(intro w'; go_simp; with_reducible rfl)); (rotate_left; ·(simp only [Act.put, pq_z3]; rfl))
                 refine done_ (done_of HT_.out (by kernel_rfl)) ?_
                 try go_wp2
                 go_roundg k3
                 case measure => have := HJ13.out; have := HK2.out; have := HK3.out; omega
                 case rel => exact ⟨(wrap64 (x18_3 + 1)), (by first | rfl | (simp; done) | (simp [*]; done)), H', ⟨by have := HJ13.out; have := HK2.out; have := HK3.out; omega⟩, ⟨by (with_reducible repeat (first | apply Kd.R_alloc | apply Kd.R_drewN | apply Kd.R_drew)); exact HO_8.out⟩, ⟨by (with_reducible repeat (first | apply Kd.R_alloc | apply Kd.R_drewN | apply Kd.R_drew)); exact HO_12.out⟩, ⟨by (with_reducible repeat (first | apply Kd.R_alloc | apply Kd.R_drewN | apply Kd.R_drew)); exact HO_373000.out⟩, ⟨by (with_reducible repeat (first | apply Kd.S_alloc | apply Kd.S_drewN | apply Kd.S_drew)); exact HO_373001.out⟩, ⟨by (with_reducible repeat first | apply blk_drewN | apply blk_drew | apply blk_alloc); exact BK372.out⟩, ⟨by (with_reducible repeat first | apply blk_drewN | apply blk_drew | apply blk_alloc); exact BK380.out⟩, ⟨by repeat (first | (with_reducible first | exact HB.out | apply below_alloc | apply pw_below_drewN | apply below_drew1 | refine below_set ?_ GE372.out | refine below_set ?_ GE380.out) | exact HB.out)⟩⟩
                ·replace c97 := Bool.eq_false_iff.mpr c97
                 subst c97
                 have H1 : (none) = some r := by rw [if_neg (show ¬ (false = true) by decide)] at H; exact H
                 exact absurd H1 (by simp)
               ·rw [if_neg c95] at H
                have c95b0 : decide (0 ≤ (rd t396 x18_3)) = false := decide_eq_false c95
                clear c95
                have H' := Aside0.mk H
                clear H
                obtain ⟨Ao102, co102, eo102⟩ := Kd.R_slice HO_12.out
                subst eo102
                try go_wp2
                have n0_ := Aside0.mk (Kd.R_drew HO_8.out)
                have n1_ := Aside0.mk (Kd.R_drew HO_12.out)
                have n2_ := Aside0.mk (Kd.R_drew HO_373000.out)
                have n3_ := Aside0.mk (Kd.S_drew HO_373001.out)
                have n4_ := Aside0.mk (blk_drew BK372.out)
                have n5_ := Aside0.mk (blk_drew BK380.out)
                have n6_ := Aside0.mk (below_drew1 HB.out)
                clear HO_8
                clear HO_12
                clear HO_373000
                clear HO_373001
                clear BK372
                clear BK380
                clear HB
                have HO_8 := n0_
                have HO_12 := n1_
                have HO_373000 := n2_
                have HO_373001 := n3_
                have BK372 := n4_
                have BK380 := n5_
                have HB := n6_
                clear n0_ n1_ n2_ n3_ n4_ n5_ n6_
                have p409 : 0 ≤ (x18_3 : Int) := of_decide_eq_true (by assumption)
                have q409 : x18_3 < (t396.length : Int) := of_decide_eq_true (by assumption)
                obtain ⟨ad409, e409, hx409_0⟩ := Kd.at_int (Kd.R_reads' HO_12.out).2.2 x18_3 p409 q409
                cases e409
                replace p409 := eq_true p409
                replace q409 := eq_true q409
                refine start_ (n := 29) (S := fun w' => w'.cell? ⟨gb380, 0, none⟩ = some (.int .i64 t376) ∧ w'.cell? ⟨gb380, 1, none⟩ = some (.int .i64 t377) ∧ w'.cell? ⟨gb380, 2, none⟩ = some (.int .i64 t378) ∧ w'.cell? ⟨gb380, 3, none⟩ = some (.bool false) ∧ w'.cell? (ad409.add (x18_3).toNat) = some (.int .i64 (rd t396 x18_3))) (ds := []) mz3_17 (by kernel_rfl) rfl rfl ⟨(blk_cell BK380.out 0).trans rfl, (blk_cell BK380.out 1).trans rfl, (blk_cell BK380.out 2).trans rfl, (blk_cell BK380.out 3).trans rfl, hx409_0⟩ (fun hHeld => ?_); refine with_tabW laws_FnStays.tab30 laws_FnStays.bits30 (fun HT_ HW_ => ?_)
                generalize wr.drew = w103 at HO_8 HO_12 HO_373000 HO_373001 BK372 BK380 HB hx409_0 hHeld ⊢
                refine pu_z3 0 (some 144) ?_ mz3_18 rfl rfl (any_of HT_.out (by kernel_rfl)) (fun _ _ _ h => h) (Or.inl ⟨by rfl, ?_⟩) ?_ ?_ ?_
                (rotate_left; ·(intro w'; go_simp; with_reducible rfl)); (rotate_left; ·(simp only [Act.put, pq_z3]; rfl))
                refine take_ (i := 1) (N := some 145) (v := ?_) (a' := ?_) mz3_19 rfl rfl (take_ofW HT_.out HW_.out (by kernel_rfl)) (fun _ _ _ h => h) (Or.inl ⟨by rfl, ?_⟩) hHeld ?_ ?_
                (rotate_left; ·(rintro w' ⟨s0, s1, s2, s3, s4⟩; go_simp; with_reducible rfl)); (rotate_left; ·(simp only [Act.put, pq_z3]; rfl))
                refine pu_z3 2 (some 146) ?_ mz3_20 rfl rfl (any_of HT_.out (by kernel_rfl)) (fun _ _ _ h => h) (Or.inl ⟨by rfl, ?_⟩) ?_ ?_ ?_
                (rotate_left; ·(intro w'; go_simp; with_reducible rfl)); (rotate_left; ·(simp only [Act.put, pq_z3]; rfl))
                refine pu_z3 3 (some 147) undef mz3_21 rfl rfl (any_of HT_.out (by kernel_rfl)) (fun _ _ _ h => h) (Or.inr ⟨by rfl, rfl⟩) ?_ ?_ ?_
                (rotate_left; ·(simp only [Act.put, pq_z3]; rfl))
                refine pu_z3 4 (some 148) undef mz3_22 rfl rfl (any_of HT_.out (by kernel_rfl)) (fun _ _ _ h => h) (Or.inr ⟨by rfl, rfl⟩) ?_ ?_ ?_
                (rotate_left; ·(simp only [Act.put, pq_z3]; rfl))
                refine pu_z3 5 (some 149) undef mz3_23 rfl rfl (any_of HT_.out (by kernel_rfl)) (fun _ _ _ h => h) (Or.inr ⟨by rfl, rfl⟩) ?_ ?_ ?_
                (rotate_left; ·(simp only [Act.put, pq_z3]; rfl))
                refine pu_z3 6 (some 150) undef mz3_47 rfl rfl (any_of HT_.out (by kernel_rfl)) (fun _ _ _ h => h) (Or.inr ⟨by rfl, rfl⟩) ?_ ?_ ?_
                (rotate_left; ·(simp only [Act.put, pq_z3]; rfl))
                refine pu_z3 7 (some 151) undef mz3_48 rfl rfl (any_of HT_.out (by kernel_rfl)) (fun _ _ _ h => h) (Or.inr ⟨by rfl, rfl⟩) ?_ ?_ ?_
                (rotate_left; ·(simp only [Act.put, pq_z3]; rfl))
                refine pu_z3 8 (some 152) undef mz3_49 rfl rfl (any_of HT_.out (by kernel_rfl)) (fun _ _ _ h => h) (Or.inr ⟨by rfl, rfl⟩) ?_ ?_ ?_
                (rotate_left; ·(simp only [Act.put, pq_z3]; rfl))
                refine pu_z3 9 (some 153) undef mz3_27 rfl rfl (any_of HT_.out (by kernel_rfl)) (fun _ _ _ h => h) (Or.inr ⟨by rfl, rfl⟩) ?_ ?_ ?_
                (rotate_left; ·(simp only [Act.put, pq_z3]; rfl))
                refine pu_z3 10 (some 154) undef mz3_28 rfl rfl (any_of HT_.out (by kernel_rfl)) (fun _ _ _ h => h) (Or.inr ⟨by rfl, rfl⟩) ?_ ?_ ?_
                (rotate_left; ·(simp only [Act.put, pq_z3]; rfl))
                refine pu_z3 11 (some 155) undef mz3_29 rfl rfl (any_of HT_.out (by kernel_rfl)) (fun _ _ _ h => h) (Or.inr ⟨by rfl, rfl⟩) ?_ ?_ ?_
                (rotate_left; ·(simp only [Act.put, pq_z3]; rfl))
                refine pu_z3 12 (some 156) ?_ mz3_30 rfl rfl (any_of HT_.out (by kernel_rfl)) (fun _ _ _ h => h) (Or.inl ⟨by rfl, ?_⟩) ?_ ?_ ?_
                (rotate_left; ·(intro w'; go_simp; with_reducible rfl)); (rotate_left; ·(simp only [Act.put, pq_z3]; rfl))
                refine pu_z3 13 (some 157) ?_ mz3_31 rfl rfl (any_of HT_.out (by kernel_rfl)) (fun _ _ _ h => h) (Or.inl ⟨by rfl, ?_⟩) ?_ ?_ ?_
                (rotate_left; ·(intro w'; go_simp; with_reducible rfl)); (rotate_left; ·(simp only [Act.put, pq_z3]; rfl))
                refine pu_z3 14 (some 158) ?_ mz3_32 rfl rfl (any_of HT_.out (by kernel_rfl)) (fun _ _ _ h => h) (Or.inl ⟨by rfl, ?_⟩) ?_ ?_ ?_
                (rotate_left; ·(intro w'; go_simp; with_reducible rfl)); (rotate_left; ·(simp only [Act.put, pq_z3]; rfl))
                refine pu_z3 15 (some 159) ?_ mz3_33 rfl rfl (any_of HT_.out (by kernel_rfl)) (fun _ _ _ h => h) (Or.inl ⟨by rfl, ?_⟩) ?_ ?_ ?_
                (rotate_left; ·(intro w'; go_simp; with_reducible rfl)); (rotate_left; ·(simp only [Act.put, pq_z3]; rfl))
                refine pu_z3 16 (some 160) ?_ mz3_34 rfl rfl (any_of HT_.out (by kernel_rfl)) (fun _ _ _ h => h) (Or.inl ⟨by rfl, ?_⟩) ?_ ?_ ?_
                (rotate_left; ·(intro w'; go_simp; with_reducible rfl)); (rotate_left; ·(simp only [Act.put, pq_z3]; rfl))
                refine take_ (i := 17) (N := some 161) (v := ?_) (a' := ?_) mz3_35 rfl rfl (take_ofW HT_.out HW_.out (by kernel_rfl)) (fun _ _ _ h => h) (Or.inl ⟨by rfl, ?_⟩) hHeld ?_ ?_
                (rotate_left; ·(rintro w' ⟨s0, s1, s2, s3, s4⟩; go_simp; with_reducible rfl)); (rotate_left; ·(simp only [Act.put, pq_z3]; rfl))
                refine pu_z3 18 (some 162) ?_ mz3_36 rfl rfl (any_of HT_.out (by kernel_rfl)) (fun _ _ _ h => h) (Or.inl ⟨by rfl, ?_⟩) ?_ ?_ ?_
                (rotate_left; ·(intro w'; go_simp; with_reducible rfl)); (rotate_left; ·(simp only [Act.put, pq_z3]; rfl))
                refine pu_z3 19 (some 163) ?_ mz3_37 rfl rfl (any_of HT_.out (by kernel_rfl)) (fun _ _ _ h => h) (Or.inl ⟨by rfl, ?_⟩) ?_ ?_ ?_
                (rotate_left; ·(intro w'; go_simp; with_reducible rfl)); (rotate_left; ·(simp only [Act.put, pq_z3]; rfl))
                refine pu_z3 20 (some 164) undef mz3_38 rfl rfl (any_of HT_.out (by kernel_rfl)) (fun _ _ _ h => h) (Or.inr ⟨by rfl, rfl⟩) ?_ ?_ ?_
                (rotate_left; ·(simp only [Act.put, pq_z3]; rfl))
                refine pu_z3 21 (some 165) undef mz3_39 rfl rfl (any_of HT_.out (by kernel_rfl)) (fun _ _ _ h => h) (Or.inr ⟨by rfl, rfl⟩) ?_ ?_ ?_
                (rotate_left; ·(simp only [Act.put, pq_z3]; rfl))
                refine pu_z3 22 (some 166) undef mz3_40 rfl rfl (any_of HT_.out (by kernel_rfl)) (fun _ _ _ h => h) (Or.inr ⟨by rfl, rfl⟩) ?_ ?_ ?_
                (rotate_left; ·(simp only [Act.put, pq_z3]; rfl))
                refine pu_z3 23 (some 167) undef mz3_41 rfl rfl (any_of HT_.out (by kernel_rfl)) (fun _ _ _ h => h) (Or.inr ⟨by rfl, rfl⟩) ?_ ?_ ?_
                (rotate_left; ·(simp only [Act.put, pq_z3]; rfl))
                refine pu_z3 24 (some 168) undef mz3_42 rfl rfl (any_of HT_.out (by kernel_rfl)) (fun _ _ _ h => h) (Or.inr ⟨by rfl, rfl⟩) ?_ ?_ ?_
                (rotate_left; ·(simp only [Act.put, pq_z3]; rfl))
                refine pu_z3 25 (some 169) undef mz3_43 rfl rfl (any_of HT_.out (by kernel_rfl)) (fun _ _ _ h => h) (Or.inr ⟨by rfl, rfl⟩) ?_ ?_ ?_
                (rotate_left; ·(simp only [Act.put, pq_z3]; rfl))
                refine pu_z3 26 (some 170) undef mz3_44 rfl rfl (any_of HT_.out (by kernel_rfl)) (fun _ _ _ h => h) (Or.inr ⟨by rfl, rfl⟩) ?_ ?_ ?_
                (rotate_left; ·(simp only [Act.put, pq_z3]; rfl))
                refine pu_z3 27 (some 171) ?_ mz3_45 rfl rfl (any_of HT_.out (by kernel_rfl)) (fun _ _ _ h => h) (Or.inl ⟨by rfl, ?_⟩) ?_ ?_ ?_
                (rotate_left; ·(intro w'; go_simp; with_reducible rfl)); (rotate_left; ·(simp only [Act.put, pq_z3]; rfl))
                refine pu_z3 28 (some 172) ?_ mz3_46 rfl rfl (any_of HT_.out (by kernel_rfl)) (fun _ _ _ h => h) (Or.inl ⟨by rfl, ?_⟩) ?_ ?_ ?_
                (rotate_left; ·(intro w'; go_simp; with_reducible rfl)); (rotate_left; ·(simp only [Act.put, pq_z3]; rfl))
                refine done_ (done_of HT_.out (by kernel_rfl)) ?_
                try go_wp2
                go_roundg k3
                case measure => have := HJ13.out; have := HK2.out; have := HK3.out; omega
                case rel => exact ⟨(wrap64 (x18_3 + 1)), (by first | rfl | (simp; done) | (simp [*]; done)), H', ⟨by have := HJ13.out; have := HK2.out; have := HK3.out; omega⟩, ⟨by (with_reducible repeat (first | apply Kd.R_alloc | apply Kd.R_drewN | apply Kd.R_drew)); exact HO_8.out⟩, ⟨by (with_reducible repeat (first | apply Kd.R_alloc | apply Kd.R_drewN | apply Kd.R_drew)); exact HO_12.out⟩, ⟨by (with_reducible repeat (first | apply Kd.R_alloc | apply Kd.R_drewN | apply Kd.R_drew)); exact HO_373000.out⟩, ⟨by (with_reducible repeat (first | apply Kd.S_alloc | apply Kd.S_drewN | apply Kd.S_drew)); exact HO_373001.out⟩, ⟨by (with_reducible repeat first | apply blk_drewN | apply blk_drew | apply blk_alloc); exact BK372.out⟩, ⟨by (with_reducible repeat first | apply blk_drewN | apply blk_drew | apply blk_alloc); exact BK380.out⟩, ⟨by repeat (first | (with_reducible first | exact HB.out | apply below_alloc | apply pw_below_drewN | apply below_drew1 | refine below_set ?_ GE372.out | refine below_set ?_ GE380.out) | exact HB.out)⟩⟩
              ·rw [if_neg c94] at H
               exact absurd H (by simp)
            ·rw [if_neg c78] at H
             have c78b0 : decide (x18_3 < (t396.length : Int)) = false := decide_eq_false c78
             clear c78
             obtain rfl := Option.some.inj H
             obtain ⟨Ao104, co104, eo104⟩ := Kd.R_slice HO_12.out
             subst eo104
             go_wp2
             go_ret
             exact ⟨by first | rfl | (simp [*, errW_none, errW_some] <;> rfl), by repeat (first | (with_reducible first | exact HB.out | apply below_alloc | apply pw_below_drewN | apply below_drew1 | refine below_set ?_ GE372.out | refine below_set ?_ GE380.out) | exact HB.out)⟩
   ·rw [if_neg c9] at H
    exact absurd H (by simp)
  ·rw [if_neg c8] at H
   exact absurd H (by simp)

/-- THE ONE PURE STATEMENT of laws_FnStays: yours. -/
def laws_FnStays.Pure : Prop := ∀ (l0 : List Int), l0.length ≤ maxLen → l0.length * 1 ≤ 140737488351232 → (∀ x ∈ l0, (Lit.int .u8 x).wf = true) → ∃ k, laws_FnStays.f k l0 = some true
theorem laws_FnStays.walk (P : laws_FnStays.Pure) (a0 : Option Addr) (len0 cap0 : Nat) (z0 : List Int) (w : World) (w0 : (a0 = none ∧ len0 = 0 ∧ cap0 = 0 ∧ z0 = []) ∨ ∃ x, a0 = some x ∧ len0 ≤ cap0 ∧ cap0 ≤ maxLen ∧ z0.length = cap0 ∧ (∀ i, i < z0.length → w.cell? (x.add i) = some (.int .u8 (z0.getD i 0))) ∧ ∀ n ∈ z0, (Lit.int .u8 n).wf = true) (y0 : len0 * 1 ≤ 140737488351232) :
  Calls Try.prog 3 #[.slice a0 len0 cap0] w fun e w' => e = .returned (.bool true) ∧ Below w.heap.size w w' := by
 obtain ⟨l0, rfl, hr0, hm0, hw0, hc0⟩ := ReadsInt.ofRowC w0
 obtain ⟨k, h⟩ := P l0 hm0 y0 hw0
 refine (laws_FnStays.calls k _ _ l0 true w (Kd.C_of_reads (d := (0 : Int)) (h1 := fun _ => rfl) hr0) hc0 h).mono ?_
 rintro e w' ⟨rfl, hd⟩
 exact ⟨rfl, hd⟩

end Go.Proofs.Ytohjpgcmhihdhaa.Q
