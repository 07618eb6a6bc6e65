/- Walks and plain laws of one claim, several texts in one. -/
import Derived.Test.YtohjpgcmhihdhaaQ0
import Derived.Test.YtohjpgcmhihdhaaQf21
import Derived.Test.YtohjpgcmhihdhaaMFnHolesb
import Derived.Test.YtohjpgcmhihdhaaOSteps
import Derived.Test.YtohjpgcmhihdhaaQf36
import Derived.Test.YtohjpgcmhihdhaaQf37
import Derived.Test.YtohjpgcmhihdhaaQf10
namespace Go.Proofs.Ytohjpgcmhihdhaa.Q
open Go.RowKit Go.Proofs.YtohjpgcmhihdhaaW.PrintWords Go.Proofs.YtohjpgcmhihdhaaW.PrintLast Go.Proofs.YtohjpgcmhihdhaaW.PrintMore
attribute [local go_sem] max2_int min2_int max_two min_two max_three min_three max_four min_four   -- for this text's walks alone
set_option linter.unusedVariables false
set_option linter.unusedSimpArgs false
/-! ### spec_A8Tree: function 6 -/
def spec_A8Tree.f (k : Nat) (l0 : List Int) : Option ((List (S34)) × (List (S70))) := (spec_l00From.f l0).bind fun bt200 => ((spec_l06Draw.f k bt200.1 bt200.2.1 bt200.2.2).bind fun bt204 => (some (bt204.1, bt204.2.1)))
set_option maxHeartbeats 8000000 in
set_option maxRecDepth 100000 in
theorem spec_A8Tree.calls (k : Nat) (A0 : Option Addr) (c0 : Nat) (l0 : List Int) (r1 : List (S34)) (r2 : List (S70)) (w : World) (hr0 : Kd.C (Kd.int .u8) w A0 l0.length l0) (hc0 : l0.length ≤ c0) (h : spec_A8Tree.f k l0 = some (r1, r2)) :
    Calls Try.prog 6 #[.slice A0 l0.length c0] w fun e w' => ∃ v0_ v1_ : Value, e = .returned (.agg #[v0_, v1_]) ∧ Kd.R k34 34 w' w.heap.size (fun _ => True) v0_ r1 ∧ Kd.S k70 70 w' w.heap.size (fun _ => True) v1_ r2 ∧ Below w.heap.size w w' := by
  have hu26 := Try.underlying26
  have HR0 := Aside0.mk hr0
  have HC0 := Aside0.mk hc0
  clear hr0 hc0
  have HB := Aside0.mk (Below.refl w.heap.size w)
  have H : ((spec_l00From.f l0).bind fun bt200 => ((spec_l06Draw.f k bt200.1 bt200.2.1 bt200.2.2).bind fun bt204 => (some (bt204.1, bt204.2.1)))) = some (r1, r2) := h
  clear h
  replace H := Option.bind_eq_some_iff.mp H
  obtain ⟨⟨t200, t201, t202⟩, A20, H⟩ := H
  set_option simprocs false in try dsimp only at H
  have A2 := Aside0.mk A20
  clear A20
  replace H := Option.bind_eq_some_iff.mp H
  obtain ⟨⟨t204, t207, t210, t211⟩, A30, H⟩ := H
  set_option simprocs false in try dsimp only at H
  have A3 := Aside0.mk A30
  clear A30
  simp only [Option.some.injEq, Prod.mk.injEq] at H
  obtain ⟨rfl, rfl⟩ := H
  go_enter Try.func6, Try.ntmps6
  go_wp2_with (first | ((with_reducible refine gate_dst (N := 2) rfl ?_); refine box_event ?hg (N := 2) ?hd (cs := #[.slice none 0 0, .slice none 0 0]) (t := 26) ?hr ?_; (case hd => rfl); (case hg => rfl); (case hr => first | (go_simp; done) | (go_simp; rfl)); intro gb199 hg w4 hbox hb; have n0_ := Aside0.mk (below_step (by repeat first | exact HB.out | apply pw_below_drewN) hb); have n1_ := Aside0.mk (hbox); have n2_ := Aside0.mk ((by rw [hg]; exact (below_size (by repeat first | exact HB.out | apply pw_below_drewN)) : w.heap.size ≤ gb199)); have n3_ := Aside0.mk ((by rw [hg]; exact (below_size (by repeat first | exact HB.out | apply pw_below_drewN)) : w.heap.size ≤ gb199)); clear HB; have HB := n0_; have BK199 := n1_; have GW199 := n2_; have GE199 := n3_; clear n0_ n1_ n2_ n3_; clear hb hbox hg) | ((with_reducible refine gate_callee (f := 21) rfl ?_); refine goesL_ (some 5) rfl rfl Try.func21 (by kernel_rfl) rfl #[.slice A0 l0.length c0] rfl (by (try simp only [List.map_toArray, List.map_cons, List.map_nil]); first | done | rfl) ?_; (with_reducible refine (spec_l00From.calls _ _ l0 t200 t201 t202 w _ ?side1 ?side2 ?side3 A2.out).mono ?_); (case side1 => repeat (first | (with_reducible first | exact HB.out | apply below_alloc | apply pw_below_drewN | apply below_drew1 | refine below_set ?_ GE199.out) | exact HB.out)); (case side2 => exact HR0.out); (case side3 => exact HC0.out); rintro e w5 ⟨g203, rfl, hi, hb, hb2⟩; refine ⟨_, rfl, ?_⟩; have n0_ := Aside0.mk (blk_below (by exact BK199.out) hb2); have n1_ := Aside0.mk (hb); have n2_ := Aside0.mk (hi); have n3_ := Aside0.mk (IsS68.ne_blk hi (blk_below (by exact BK199.out) hb2) (by decide)); have n4_ := Aside0.mk (Ne.symm (IsS68.ne_blk hi (blk_below (by exact BK199.out) hb2) (by decide))); clear BK199; clear HB; have BK199 := n0_; have HB := n1_; have HI203 := n2_; have NB203_199 := n3_; have NB199_203 := n4_; clear n0_ n1_ n2_ n3_ n4_; (try clear hb); (try clear hb2); (try clear hk); (try clear hi)) | ((with_reducible refine gate_callee (f := 22) rfl ?_); refine goesL_ (some 7) rfl rfl Try.func22 (by kernel_rfl) rfl #[.pointer (some ⟨g203, 0, none⟩)] rfl (by (try simp only [List.map_toArray, List.map_cons, List.map_nil]); first | done | rfl) ?_; (with_reducible refine (spec_l06Draw.calls k g203 t200 t201 t202 t204 t207 t210 t211 w _ ?side1 ?side2 A3.out).mono ?_); (case side1 => repeat (first | (with_reducible first | exact HI203.out | apply IsS68.alloc | apply IsS68.drewN | apply IsS68.drew | apply IsS68.set_1 | apply IsS68.set_2 | refine IsS68.far ?_ NB203_199.out _) | exact HI203.out)); (case side2 => repeat (first | (with_reducible first | exact HB.out | apply below_alloc | apply pw_below_drewN | apply below_drew1 | refine below_set ?_ (IsS68.ge HI203.out) | refine below_set ?_ GE199.out) | exact HB.out)); rintro e w6 ⟨v205, v208, rfl, ho0, ho1, hi, hb, hk⟩; refine ⟨_, rfl, ?_⟩; have n0_ := Aside0.mk (KeepBut.blk hk (g' := gb199) (o := .cells #[.slice none 0 0, .slice none 0 0] 26 (0, 0)) (by exact BK199.out) NB199_203.out (by simp)); have n1_ := Aside0.mk (Kd.R_lower ho0 (below_size (by repeat (first | (with_reducible first | exact HB.out | apply below_alloc | apply pw_below_drewN | apply below_drew1 | refine below_set ?_ (IsS68.ge HI203.out) | refine below_set ?_ GE199.out) | exact HB.out)))); have n2_ := Aside0.mk (Kd.S_lower ho1 (below_size (by repeat (first | (with_reducible first | exact HB.out | apply below_alloc | apply pw_below_drewN | apply below_drew1 | refine below_set ?_ (IsS68.ge HI203.out) | refine below_set ?_ GE199.out) | exact HB.out)))); have n3_ := Aside0.mk (hb); have n4_ := Aside0.mk (hi); clear BK199; clear HB; clear HI203; have BK199 := n0_; have HO206 := n1_; have HO209 := n2_; have HB := n3_; have HI203 := n4_; clear n0_ n1_ n2_ n3_ n4_; (try clear hb); (try clear hb2); (try clear hk); (try clear hi); (try clear ho0); (try clear ho1); obtain ⟨Ao7, co7, eo7⟩ := Kd.R_slice HO206.out; subst eo7; have hnb8 := NB199_203.out; have hnc8 := NB203_199.out; have hcz9_0 := (blk_cell BK199.out 0).trans rfl; have hcz9_1 := (blk_cell BK199.out 1).trans rfl; have hfz9_0 := blk_frozen BK199.out 0; have hfz9_1 := blk_frozen BK199.out 1; obtain ⟨Ao10, co10, eo10⟩ := Kd.S_slice HO209.out; subst eo10))
  refine bodyPost_ret (results_cell_row rfl _ _ gb199 26 #[.slice Ao7 t204.length co7, .slice Ao10 t207.length co10] (0, 0) _ rfl (by (with_reducible repeat first | apply blk_drewN | apply blk_drew | apply blk_alloc); refine blk_put (cs := #[.slice Ao7 t204.length co7, .slice none 0 0]) ?_ 1 _ rfl; (with_reducible repeat first | apply blk_drewN | apply blk_drew | apply blk_alloc); refine blk_put (cs := #[.slice none 0 0, .slice none 0 0]) ?_ 0 _ rfl; (with_reducible repeat first | apply blk_drewN | apply blk_drew | apply blk_alloc); exact BK199.out) Try.underlying26 rfl (by kernel_rfl)) rfl ?_
  exact ⟨_, _, by first | rfl | (simp [*, errW_none, errW_some] <;> rfl), by (with_reducible repeat (first | apply Kd.R_alloc | apply Kd.R_drewN | apply Kd.R_drew)); exact Kd.R_mono (Kd.R_far (p := ⟨gb199, 1, none⟩) (Kd.R_far (p := ⟨gb199, 0, none⟩) (Kd.R_types HO206.out BK199.out (by decide)) (fun _ hk => hk.2) (.slice Ao7 t204.length co7)) (fun _ hk => hk.2) (.slice Ao10 t207.length co10)) (fun _ hk => trivial), by (with_reducible repeat (first | apply Kd.S_alloc | apply Kd.S_drewN | apply Kd.S_drew)); exact Kd.S_mono (Kd.S_far (p := ⟨gb199, 1, none⟩) (Kd.S_far (p := ⟨gb199, 0, none⟩) (Kd.S_types HO209.out BK199.out (by decide)) (fun _ hk => hk.2) (.slice Ao7 t204.length co7)) (fun _ hk => hk.2) (.slice Ao10 t207.length co10)) (fun _ hk => trivial), by repeat (first | (with_reducible first | exact HB.out | apply below_alloc | apply pw_below_drewN | apply below_drew1 | refine below_set ?_ (IsS68.ge HI203.out) | refine below_set ?_ GE199.out) | exact HB.out)⟩

/-! ### spec_l08Rule: function 23 -/
def spec_l08Rule.f (s0_0 : List Int) (s0_1 : Int) (s0_2 : Int) (l1_0 : List (S34)) (l1_1 : List (S70)) : Option (Int × Int × Int × Bool × Int × Int) := (spec_l00Src_pick.f s0_0 s0_1 s0_2 4).bind fun bt214 => (if 0 ≤ (wrap64 ((l1_1.length : Int) - 1)) then (if (wrap64 ((l1_1.length : Int) - 1)) < (l1_1.length : Int) then ((spec_l00Src_among.f s0_0 bt214.2.1 bt214.2.2 (([0, 1, 1, 1, 2] : List Int))).bind fun bt221 => ((spec_l00Src_one.f s0_0 bt221.2.1 bt221.2.2 2).bind fun bt224 => (some (wrap64 (1 + bt214.1), (rd_T70 l1_1 (wrap64 ((l1_1.length : Int) - 1))).f0, bt221.1, bt224.1, bt224.2.1, bt224.2.2)))) else (none)) else (none))
def spec_l08Rule.T1 : Bool × List (List Nat × List Nat) := (true, [([], []), ([0], [0]), ([1], [1]), ([], []), ([3], [3]), ([], []), ([5], [5]), ([6], [6]), ([7], [7]), ([4, 8], [4, 8]), ([9], [9]), ([10], [10]), ([], []), ([], []), ([12, 13, 1], [12, 13]), ([], []), ([15, 14], [15]), ([2, 11, 14, 16], [2, 11, 14, 16]), ([17, 16, 0, 1, 2, 3, 4, 5, 6, 7, 8, 9, 10, 11, 12, 13, 14, 15, 16, 17], [17])])
def spec_l08Rule.B1 : List Nat := [0, 1, 3, 0, 8, 0, 32, 96, 224, 504, 1016, 2040, 0, 0, 12291, 0, 61443, 131071, 262143]
theorem spec_l08Rule.tab1 : rtab .any (opsOf Try.f23 1) = spec_l08Rule.T1 := by kernel_rfl
theorem spec_l08Rule.bits1 : waitsOk spec_l08Rule.T1.2 spec_l08Rule.B1 = true := by kernel_rfl
def az_z23 (n m : Nat) : Array Bool := (List.replicate n true ++ List.replicate m false).toArray
def mz23_0 : Array Bool := az_z23 0 19
def mz23_1 : Array Bool := az_z23 1 18
def mz23_2 : Array Bool := #[true, false, false, true, false, false, false, false, false, false, false, false, false, false, false, false, false, false, false]
def mz23_3 : Array Bool := #[true, false, false, true, false, true, false, false, false, false, false, false, false, false, false, false, false, false, false]
def mz23_4 : Array Bool := #[true, false, false, true, false, true, false, false, false, false, false, false, true, false, false, false, false, false, false]
def mz23_5 : Array Bool := #[true, false, false, true, false, true, false, false, false, false, false, false, true, false, false, true, false, false, false]
def mz23_6 : Array Bool := #[true, false, false, true, true, true, false, false, false, false, false, false, true, false, false, true, false, false, false]
def mz23_7 : Array Bool := #[true, false, false, true, true, true, true, false, false, false, false, false, true, false, false, true, false, false, false]
def mz23_8 : Array Bool := #[true, false, false, true, true, true, true, true, false, false, false, false, true, false, false, true, false, false, false]
def mz23_9 : Array Bool := #[true, false, false, true, true, true, true, true, true, false, false, false, true, false, false, true, false, false, false]
def mz23_10 : Array Bool := #[true, false, false, true, true, true, true, true, true, true, false, false, true, false, false, true, false, false, false]
def mz23_11 : Array Bool := #[true, false, false, true, true, true, true, true, true, true, true, false, true, false, false, true, false, false, false]
def mz23_12 : Array Bool := #[true, false, false, true, true, true, true, true, true, true, true, true, true, false, false, true, false, false, false]
def mz23_13 : Array Bool := #[true, true, true, true, true, true, true, true, true, true, true, true, true, true, false, true, false, false, false]
def mz23_14 : Array Bool := #[true, true, false, true, true, true, true, true, true, true, true, true, true, false, false, true, false, false, false]
def mz23_15 : Array Bool := #[true, false, false, true, true, true, true, true, true, true, true, true, true, true, false, true, false, false, false]
def mz23_16 : Array Bool := #[true, true, true, true, true, true, true, true, true, true, true, true, true, false, false, true, false, false, false]
def mz23_17 : Array Bool := #[true, true, false, true, true, true, true, true, true, true, true, true, true, true, false, true, false, false, false]
def mz23_18 : Array Bool := az_z23 16 3
def mz23_19 : Array Bool := az_z23 17 2
def mz23_20 : Array Bool := az_z23 18 1
def mz23_21 : Array Bool := az_z23 19 0
theorem pu_z23 {P : Program} {ops : Array Oper} {Q : Exit → Act → World → Prop} {md : Region.Mode} {S : World → Prop} {ds : List Nat} {oi : Oper} {fuel : Nat} {l : Array Bool} {a : Act} {w : World} (i : Nat) (N : Option Tmp) (v : Value) (l' : Array Bool) (hi : ops[i]? = some oi) (hN : oi.dst = N) (hc : anyB md ops l l' i = true)
    (hQ : ∀ c a w, Q (.panic c) (a.put oi.dst v) w → Q (.panic c) a w) (hy : Yields P ops oi v a) (a' : Act) (ha : a.put N v = a')
    (h : wpAnyLast P md ops Q S ds fuel l' a' w) : wpAnyLast P md ops Q S ds (fuel + 1) l a w := pure_ l' hi hN hc hQ hy ha h
theorem pq_z23 : (∀ (l : List Value) (i : Nat) (v : Value), l.toArray.setIfInBounds i v = (l.set i v).toArray) ∧ (∀ (x v : Value) (xs : List Value), (x :: xs).set 0 v = v :: xs) ∧ (∀ (x v : Value) (xs : List Value) (n : Nat), (x :: xs).set (n + 1) v = x :: xs.set n v) ∧ (∀ n : Int, IntKind.i64.wrap n = Go.RowKit.wrap64 n) ∧ (∀ n : Int, IntKind.i32.wrap n = Go.RowKit.wrap32 n) :=
  ⟨fun l i v => List.setIfInBounds_toArray l i v, fun _ _ _ => rfl, fun _ _ _ _ => rfl, i64_w, i32_w⟩
set_option maxHeartbeats 8000000 in
set_option maxRecDepth 100000 in
theorem spec_l08Rule.calls (g : Nat) (s0_0 : List Int) (s0_1 : Int) (s0_2 : Int) (A1_0 : Option Addr) (c1_0 : Nat) (l1_0 : List (S34)) (A1_1 : Option Addr) (c1_1 : Nat) (l1_1 : List (S70)) (r1 : Int) (r2 : Int) (r3 : Int) (r4 : Bool) (r5 : Int) (r6 : Int) (w0 w : World) (hI : IsS68 w0 w g s0_0 s0_1 s0_2) (hB : Below w0.heap.size w0 w) (hr1_0 : ∀ W_, KeepBut w W_ g none → Kd.C k34 W_ A1_0 l1_0.length l1_0) (hc1_0 : l1_0.length ≤ c1_0) (hr1_1 : ∀ W_, KeepBut w W_ g none → Kd.C k70 W_ A1_1 l1_1.length l1_1) (hc1_1 : l1_1.length ≤ c1_1) (h : spec_l08Rule.f s0_0 s0_1 s0_2 l1_0 l1_1 = some (r1, r2, r3, r4, r5, r6)) :
  Calls Try.prog 23 #[.pointer (some ⟨g, 0, none⟩), .agg #[.slice A1_0 l1_0.length c1_0, .slice A1_1 l1_1.length c1_1]] w fun e w' => e = .returned (.agg #[.int .i64 r1, .int .i64 r2, .int .i64 r3, .bool r4]) ∧ IsS68 w0 w' g s0_0 r5 r6 ∧ Below w0.heap.size w0 w' ∧ KeepBut w w' g none := by
 have hu26 := Try.underlying26
 have hu29 := Try.underlying29
 have HR1_0 := Aside0.mk hr1_0
 have HC1_0 := Aside0.mk hc1_0
 clear hr1_0 hc1_0
 have HR1_1 := Aside0.mk hr1_1
 have HC1_1 := Aside0.mk hc1_1
 clear hr1_1 hc1_1
 have HI0 := Aside0.mk hI
 have HK := Aside0.mk (KeepBut.refl w g none)
 have HL := Aside0.mk hB.size
 clear hI
 have HW0 := Aside0.mk hB.size
 have HB := Aside0.mk hB
 clear hB
 have H : ((spec_l00Src_pick.f s0_0 s0_1 s0_2 4).bind fun bt214 => (if 0 ≤ (wrap64 ((l1_1.length : Int) - 1)) then (if (wrap64 ((l1_1.length : Int) - 1)) < (l1_1.length : Int) then ((spec_l00Src_among.f s0_0 bt214.2.1 bt214.2.2 (([0, 1, 1, 1, 2] : List Int))).bind fun bt221 => ((spec_l00Src_one.f s0_0 bt221.2.1 bt221.2.2 2).bind fun bt224 => (some (wrap64 (1 + bt214.1), (rd_T70 l1_1 (wrap64 ((l1_1.length : Int) - 1))).f0, bt221.1, bt224.1, bt224.2.1, bt224.2.2)))) else (none)) else (none))) = some (r1, r2, r3, r4, r5, r6) := h
 clear h
 replace H := Option.bind_eq_some_iff.mp H
 obtain ⟨⟨t214, t215, t216⟩, A30, H⟩ := H
 set_option simprocs false in try dsimp only at H
 have A3 := Aside0.mk A30
 clear A30
 obtain ⟨ji4, hji4⟩ : ∃ j_ : Int, (wrap64 ((l1_1.length : Int) - 1)) = j_ := ⟨_, rfl⟩
 replace H : (if 0 ≤ (ji4) then (if (ji4) < (l1_1.length : Int) then ((spec_l00Src_among.f s0_0 t215 t216 (([0, 1, 1, 1, 2] : List Int))).bind fun bt221 => ((spec_l00Src_one.f s0_0 bt221.2.1 bt221.2.2 2).bind fun bt224 => (some (wrap64 (1 + t214), (rd_T70 l1_1 (ji4)).f0, bt221.1, bt224.1, bt224.2.1, bt224.2.2)))) else (none)) else (none)) = some (r1, r2, r3, r4, r5, r6) := by first | (rw [hji4] at H; exact H) | (simp only [hji4] at H ⊢; exact H)
 (try rw [hji4] at A3)
 have hji4w : (IntKind.i64.wrap ((l1_1.length : Int) - 1)) = ji4 := (i64_w _).trans hji4
 by_cases c5 : 0 ≤ (ji4)
 ·rw [if_pos c5] at H
  have c5b0 : decide (0 ≤ (ji4)) = true := decide_eq_true c5
  clear c5
  by_cases c6 : (ji4) < (l1_1.length : Int)
  ·rw [if_pos c6] at H
   have c6b0 : decide ((ji4) < (l1_1.length : Int)) = true := decide_eq_true c6
   clear c6
   obtain ⟨y218, hy218⟩ : ∃ y_ : List Int, y_ = (([0, 1, 1, 1, 2] : List Int)) := ⟨_, rfl⟩
   replace H : ((spec_l00Src_among.f s0_0 t215 t216 y218).bind fun bt221 => ((spec_l00Src_one.f s0_0 bt221.2.1 bt221.2.2 2).bind fun bt224 => (some (wrap64 (1 + t214), (rd_T70 l1_1 (ji4)).f0, bt221.1, bt224.1, bt224.2.1, bt224.2.2)))) = some (r1, r2, r3, r4, r5, r6) := by first | (rw [hy218]; with_reducible exact H) | (have H2_ := (Option.bind_some _ _).symm.trans H; rw [hy218]; with_reducible exact H2_) | (have H2_ := (Option.bind_some _ _).symm.trans H; with_reducible exact H2_) | with_reducible exact H | (rw [hy218]; exact H) | exact H
   have Ny218 := Aside0.mk hy218
   clear hy218
   replace H := Option.bind_eq_some_iff.mp H
   obtain ⟨⟨t221, t222, t223⟩, A70, H⟩ := H
   set_option simprocs false in try dsimp only at H
   have A7 := Aside0.mk A70
   clear A70
   replace H := Option.bind_eq_some_iff.mp H
   obtain ⟨⟨t224, t225, t226⟩, A80, H⟩ := H
   set_option simprocs false in try dsimp only at H
   have A8 := Aside0.mk A80
   clear A80
   simp only [Option.some.injEq, Prod.mk.injEq] at H
   obtain ⟨rfl, rfl, rfl, rfl, rfl, rfl⟩ := H
   go_enter Try.func23, Try.ntmps23
   try go_wp2_with (first | ((with_reducible refine gate_dst (N := 3) rfl ?_); refine box_event ?hg (N := 3) ?hd (cs := #[.slice A1_0 l1_0.length c1_0, .slice A1_1 l1_1.length c1_1]) (t := 26) ?hr ?_; (case hd => rfl); (case hg => rfl); (case hr => first | (go_simp; done) | (go_simp; rfl)); intro gb212 hg w9 hbox hb; have n0_ := Aside0.mk (IsS68.below (by repeat (first | (with_reducible first | exact HI0.out | apply IsS68.alloc | apply IsS68.drewN | apply IsS68.drew | apply IsS68.set_1 | apply IsS68.set_2) | exact HI0.out)) hb); have n1_ := Aside0.mk (KeepBut.trans (by repeat (first | (with_reducible first | exact HK.out | apply KeepBut.set_ | apply keep_drewN | apply keep_drew | apply keep_alloc) | exact HK.out)) (KeepBut.of_below hb g none) (.inl rfl)); have n2_ := Aside0.mk (below_step (by repeat (first | (with_reducible first | exact HB.out | apply below_alloc | apply pw_below_drewN | apply below_drew1 | refine below_set ?_ (IsS68.ge HI0.out)) | exact HB.out)) hb); have n3_ := Aside0.mk (hbox); have n4_ := Aside0.mk ((by rw [hg]; exact (keep_size (w := w) (g := g) (row := none) (by repeat (first | (with_reducible first | exact HK.out | apply KeepBut.set_ | apply keep_drewN | apply keep_drew | apply keep_alloc) | exact HK.out))) : w.heap.size ≤ gb212)); have n5_ := Aside0.mk ((Nat.le_trans HW0.out (by rw [hg]; exact (keep_size (w := w) (g := g) (row := none) (by repeat (first | (with_reducible first | exact HK.out | apply KeepBut.set_ | apply keep_drewN | apply keep_drew | apply keep_alloc) | exact HK.out))) : w.heap.size ≤ gb212) : w0.heap.size ≤ gb212)); have n6_ := Aside0.mk ((by rw [hg]; exact Nat.ne_of_lt (IsS68.lt (show IsS68 w0 _ g s0_0 s0_1 s0_2 from by repeat (first | (with_reducible first | exact HI0.out | apply IsS68.alloc | apply IsS68.drewN | apply IsS68.drew | apply IsS68.set_1 | apply IsS68.set_2) | exact HI0.out))) : g ≠ gb212)); have n7_ := Aside0.mk ((by rw [hg]; exact Nat.ne_of_gt (IsS68.lt (show IsS68 w0 _ g s0_0 s0_1 s0_2 from by repeat (first | (with_reducible first | exact HI0.out | apply IsS68.alloc | apply IsS68.drewN | apply IsS68.drew | apply IsS68.set_1 | apply IsS68.set_2) | exact HI0.out))) : gb212 ≠ g)); clear HI0; clear HK; clear HB; have HI0 := n0_; have HK := n1_; have HB := n2_; have BK212 := n3_; have GW212 := n4_; have GE212 := n5_; have NB0_212 := n6_; have NB212_0 := n7_; clear n0_ n1_ n2_ n3_ n4_ n5_ n6_ n7_; clear hb hbox hg) | ((with_reducible refine gate_dst (N := 4) rfl ?_); refine box_event ?hg (N := 4) ?hd (cs := #[.int .i64 0, .int .i64 0, .int .i64 0, .bool false]) (t := 29) ?hr ?_; (case hd => rfl); (case hg => rfl); (case hr => first | (go_simp; done) | (go_simp; rfl)); intro gb213 hg w10 hbox hb; have n0_ := Aside0.mk (IsS68.below (by repeat (first | (with_reducible first | exact HI0.out | apply IsS68.alloc | apply IsS68.drewN | apply IsS68.drew | apply IsS68.set_1 | apply IsS68.set_2 | refine IsS68.far ?_ NB0_212.out _) | exact HI0.out)) hb); have n1_ := Aside0.mk (blk_below (by exact BK212.out) hb); have n2_ := Aside0.mk (KeepBut.trans (by repeat (first | (with_reducible first | exact HK.out | apply KeepBut.set_ | apply keep_drewN | apply keep_drew | apply keep_alloc | refine keep_far ?_ GW212.out _) | exact HK.out)) (KeepBut.of_below hb g none) (.inl rfl)); have n3_ := Aside0.mk (below_step (by repeat (first | (with_reducible first | exact HB.out | apply below_alloc | apply pw_below_drewN | apply below_drew1 | refine below_set ?_ (IsS68.ge HI0.out) | refine below_set ?_ GE212.out) | exact HB.out)) hb); have n4_ := Aside0.mk (hbox); have n5_ := Aside0.mk ((by rw [hg]; exact (keep_size (w := w) (g := g) (row := none) (by repeat (first | (with_reducible first | exact HK.out | apply KeepBut.set_ | apply keep_drewN | apply keep_drew | apply keep_alloc | refine keep_far ?_ GW212.out _) | exact HK.out))) : w.heap.size ≤ gb213)); have n6_ := Aside0.mk ((Nat.le_trans HW0.out (by rw [hg]; exact (keep_size (w := w) (g := g) (row := none) (by repeat (first | (with_reducible first | exact HK.out | apply KeepBut.set_ | apply keep_drewN | apply keep_drew | apply keep_alloc | refine keep_far ?_ GW212.out _) | exact HK.out))) : w.heap.size ≤ gb213) : w0.heap.size ≤ gb213)); have n7_ := Aside0.mk ((by rw [hg]; exact Nat.ne_of_lt (blk_lt (g := gb212) (o := .cells #[.slice A1_0 l1_0.length c1_0, .slice A1_1 l1_1.length c1_1] 26 (0, 0)) (by exact BK212.out)) : gb212 ≠ gb213)); have n8_ := Aside0.mk ((by rw [hg]; exact Nat.ne_of_gt (blk_lt (g := gb212) (o := .cells #[.slice A1_0 l1_0.length c1_0, .slice A1_1 l1_1.length c1_1] 26 (0, 0)) (by exact BK212.out)) : gb213 ≠ gb212)); have n9_ := Aside0.mk ((by rw [hg]; exact Nat.ne_of_lt (IsS68.lt (show IsS68 w0 _ g s0_0 s0_1 s0_2 from by repeat (first | (with_reducible first | exact HI0.out | apply IsS68.alloc | apply IsS68.drewN | apply IsS68.drew | apply IsS68.set_1 | apply IsS68.set_2 | refine IsS68.far ?_ NB0_212.out _) | exact HI0.out))) : g ≠ gb213)); have n10_ := Aside0.mk ((by rw [hg]; exact Nat.ne_of_gt (IsS68.lt (show IsS68 w0 _ g s0_0 s0_1 s0_2 from by repeat (first | (with_reducible first | exact HI0.out | apply IsS68.alloc | apply IsS68.drewN | apply IsS68.drew | apply IsS68.set_1 | apply IsS68.set_2 | refine IsS68.far ?_ NB0_212.out _) | exact HI0.out))) : gb213 ≠ g)); clear HI0; clear BK212; clear HK; clear HB; have HI0 := n0_; have BK212 := n1_; have HK := n2_; have HB := n3_; have BK213 := n4_; have GW213 := n5_; have GE213 := n6_; have NB212_213 := n7_; have NB213_212 := n8_; have NB0_213 := n9_; have NB213_0 := n10_; clear n0_ n1_ n2_ n3_ n4_ n5_ n6_ n7_ n8_ n9_ n10_; clear hb hbox hg))
   have n0_ := Aside0.mk (blk_drew BK212.out)
   have n1_ := Aside0.mk (blk_drew BK213.out)
   have n2_ := Aside0.mk (IsS68.drew HI0.out)
   have n3_ := Aside0.mk (keep_drew HK.out)
   have n4_ := Aside0.mk (below_drew1 HB.out)
   clear BK212
   clear BK213
   clear HI0
   clear HK
   clear HB
   have BK212 := n0_
   have BK213 := n1_
   have HI0 := n2_
   have HK := n3_
   have HB := n4_
   clear n0_ n1_ n2_ n3_ n4_
   have p217 : 0 ≤ ((ji4) : Int) := of_decide_eq_true (by assumption)
   have q217 : (ji4) < (l1_1.length : Int) := of_decide_eq_true (by assumption)
   obtain ⟨ad217, A217_2, c217_2, e217, hx217_0, hx217_1, hx217_2, hl217_2, hi217_2⟩ := at_T70 (Kd.C_foot_now HR1_1.out HK.out) (ji4) p217 q217
   have hw217_2 := hx217_2
   have hw217_1 := hx217_1
   have hw217_0 := hx217_0
   cases e217
   have hne217_2 := (show (⟨(ad217.add (((ji4)).toNat * 3)).block, (ad217.add (((ji4)).toNat * 3)).off + 2, none⟩ : Addr).block ≠ g from by first | (rw [add_block]; exact Kd.foot_ne HR1_1.out (by omega) (by decide)) | (show (Addr.add _ _).block ≠ _; rw [add_block]; exact Kd.foot_ne HR1_1.out (by omega) (by decide)) | exact Kd.foot_ne HR1_1.out (by omega) (by decide) | (dsimp only; exact Kd.foot_ne HR1_1.out (by omega) (by decide)))
   have hlt217_2 := (Kd.foot_lt HR1_1.out (by omega) (by decide))
   have hne217_1 := (show (⟨(ad217.add (((ji4)).toNat * 3)).block, (ad217.add (((ji4)).toNat * 3)).off + 1, none⟩ : Addr).block ≠ g from by first | (rw [add_block]; exact Kd.foot_ne HR1_1.out (by omega) (by decide)) | (show (Addr.add _ _).block ≠ _; rw [add_block]; exact Kd.foot_ne HR1_1.out (by omega) (by decide)) | exact Kd.foot_ne HR1_1.out (by omega) (by decide) | (dsimp only; exact Kd.foot_ne HR1_1.out (by omega) (by decide)))
   have hlt217_1 := (Kd.foot_lt HR1_1.out (by omega) (by decide))
   have hne217_0 := (show ((ad217.add (((ji4)).toNat * 3)) : Addr).block ≠ g from by first | (rw [add_block]; exact Kd.foot_ne HR1_1.out (by omega) (by decide)) | (show (Addr.add _ _).block ≠ _; rw [add_block]; exact Kd.foot_ne HR1_1.out (by omega) (by decide)) | exact Kd.foot_ne HR1_1.out (by omega) (by decide) | (dsimp only; exact Kd.foot_ne HR1_1.out (by omega) (by decide)))
   have hlt217_0 := (Kd.foot_lt HR1_1.out (by omega) (by decide))
   have HR217_2 := Aside0.mk hi217_2
   have HC217_2 := Aside0.mk hl217_2
   clear hi217_2 hl217_2
   replace p217 := eq_true p217
   replace q217 := eq_true q217
   refine start_ (n := 19) (S := fun w' => w'.cell? ⟨gb212, 0, none⟩ = some (.slice A1_0 l1_0.length c1_0) ∧ w'.cell? ⟨gb212, 1, none⟩ = some (.slice (some ad217) l1_1.length c1_1) ∧ w'.cell? (ad217.add (((ji4)).toNat * 3)) = some (.int .i64 ((rd_T70 l1_1 (ji4)).f0)) ∧ w'.cell? ⟨(ad217.add (((ji4)).toNat * 3)).block, (ad217.add (((ji4)).toNat * 3)).off + 1, none⟩ = some (.int .i64 ((rd_T70 l1_1 (ji4)).f1)) ∧ w'.cell? ⟨(ad217.add (((ji4)).toNat * 3)).block, (ad217.add (((ji4)).toNat * 3)).off + 2, none⟩ = some (.slice A217_2 ((rd_T70 l1_1 (ji4)).f2).length c217_2)) (ds := []) mz23_0 (by kernel_rfl) rfl rfl ⟨(blk_cell BK212.out 0).trans rfl, (blk_cell BK212.out 1).trans rfl, hx217_0, hx217_1, hx217_2⟩ (fun hHeld => ?_); refine with_tabW spec_l08Rule.tab1 spec_l08Rule.bits1 (fun HT_ HW_ => ?_)
   generalize w10.drew = w11 at BK212 BK213 HI0 HK HB HR217_2 hx217_0 hx217_1 hx217_2 hHeld ⊢
   refine pu 0 (some 5) mz23_1 (any_of HT_.out (by kernel_rfl)) ?_
   refine pu 3 (some 8) mz23_2 (any_of HT_.out (by kernel_rfl)) ?_
   refine pu 5 (some 10) mz23_3 (any_of HT_.out (by kernel_rfl)) ?_
   refine pu 12 (some 17) mz23_4 (any_of HT_.out (by kernel_rfl)) ?_
   refine pu 15 (some 20) mz23_5 (any_of HT_.out (by kernel_rfl)) ?_
   refine tk 4 (some 9) mz23_6 hHeld (take_ofW HT_.out HW_.out (by kernel_rfl)) ?_
   refine tk 6 (some 11) mz23_7 hHeld (take_ofW HT_.out HW_.out (by kernel_rfl)) ?_
   refine pu 7 (some 12) mz23_8 (any_of HT_.out (by kernel_rfl)) ?_
   refine pu 8 (some 13) mz23_9 (any_of HT_.out (by kernel_rfl)) ?_
   refine pu 9 (some 14) mz23_10 (any_of HT_.out (by kernel_rfl)) ?_
   refine pu 10 (some 15) mz23_11 (any_of HT_.out (by kernel_rfl)) ?_
   refine tk 11 (some 16) mz23_12 hHeld (take_ofW HT_.out HW_.out (by kernel_rfl)) ?_
   refine join_ (σ := Value) 4 mz23_13 (fun s_ => [(6, .int .i64 t214), (18, s_), (7, .int .i64 (wrap64 (1 + t214)))]) (fun s_ w' => (w'.cell? ⟨gb212, 0, none⟩ = some (.slice A1_0 l1_0.length c1_0) ∧ w'.cell? ⟨gb212, 1, none⟩ = some (.slice (some ad217) l1_1.length c1_1) ∧ w'.cell? (ad217.add (((ji4)).toNat * 3)) = some (.int .i64 ((rd_T70 l1_1 (ji4)).f0)) ∧ w'.cell? ⟨(ad217.add (((ji4)).toNat * 3)).block, (ad217.add (((ji4)).toNat * 3)).off + 1, none⟩ = some (.int .i64 ((rd_T70 l1_1 (ji4)).f1)) ∧ w'.cell? ⟨(ad217.add (((ji4)).toNat * 3)).block, (ad217.add (((ji4)).toNat * 3)).off + 2, none⟩ = some (.slice A217_2 ((rd_T70 l1_1 (ji4)).f2).length c217_2)) ∧ (Kd.R (Kd.int .i64) 2 w' w.heap.size (fun _ => True) s_ y218) ∧ (w'.heap[gb212]? = some (.cells #[.slice A1_0 l1_0.length c1_0, .slice (some ad217) l1_1.length c1_1] 26 (0, 0))) ∧ (w'.heap[gb213]? = some (.cells #[.int .i64 0, .int .i64 0, .int .i64 0, .bool false] 29 (0, 0))) ∧ (IsS68 w0 w' g s0_0 t215 t216) ∧ (KeepBut w w' g none) ∧ (Below w0.heap.size w0 w')) ?_ ?_
   rotate_left
   ·intro hCont
    refine two_ (i := 1) (j := 13) (Ni := some 6) (Nj := some 18) mz23_14 mz23_15 rfl rfl rfl rfl (two_of HT_.out (by kernel_rfl)) (by decide) (by decide) (fun K hK => ?_) (fun K hK => ?_)
    ·skip
     refine goes_ Try.func36 (by kernel_rfl) rfl #[.pointer (some ⟨g, 0, none⟩), .int .i64 4] (by rfl) rfl rfl (by (try simp only [List.map_toArray, List.map_cons, List.map_nil]); first | done | rfl) ?_
     with_reducible refine (spec_l00Src_pick.calls g s0_0 s0_1 s0_2 4 t214 t215 t216 w0 _ ?side1 ?side2 A3.out).mono ?_
     (case side1 => repeat (first | (with_reducible first | exact HI0.out | apply IsS68.alloc | apply IsS68.drewN | apply IsS68.drew | apply IsS68.set_1 | apply IsS68.set_2 | refine IsS68.far ?_ NB0_212.out _ | refine IsS68.far ?_ NB0_213.out _) | exact HI0.out))
     (case side2 => repeat (first | (with_reducible first | exact HB.out | apply below_alloc | apply pw_below_drewN | apply below_drew1 | refine below_set ?_ (IsS68.ge HI0.out) | refine below_set ?_ GE212.out | refine below_set ?_ GE213.out) | exact HB.out))
     rintro e w12 ⟨rfl, hi, hb, hk⟩
     have HS2_ := keep_cell hk (hHeld.2.2.1) (by first | (rw [add_block]; exact hne217_0) | (show (Addr.add _ _).block ≠ _; rw [add_block]; exact hne217_0) | exact hne217_0)
     have HS3_ := keep_cell hk (hHeld.2.2.2.1) (by first | (rw [add_block]; exact hne217_1) | (show (Addr.add _ _).block ≠ _; rw [add_block]; exact hne217_1) | exact hne217_1)
     have HS4_ := keep_cell hk (hHeld.2.2.2.2) (by first | (rw [add_block]; exact hne217_2) | (show (Addr.add _ _).block ≠ _; rw [add_block]; exact hne217_2) | exact hne217_2)
     refine ⟨_, rfl, ?_⟩
     have n0_ := Aside0.mk (KeepBut.blk hk (g' := gb212) (o := .cells #[.slice A1_0 l1_0.length c1_0, .slice (some ad217) l1_1.length c1_1] 26 (0, 0)) (by exact BK212.out) NB212_0.out (by simp))
     have n1_ := Aside0.mk (KeepBut.blk hk (g' := gb213) (o := .cells #[.int .i64 0, .int .i64 0, .int .i64 0, .bool false] 29 (0, 0)) (by exact BK213.out) NB213_0.out (by simp))
     have n2_ := Aside0.mk (KeepBut.trans (by repeat (first | (with_reducible first | exact HK.out | apply KeepBut.set_ | apply keep_drewN | apply keep_drew | apply keep_alloc | refine keep_far ?_ GW212.out _ | refine keep_far ?_ GW213.out _) | exact HK.out)) hk (.inl rfl))
     have n3_ := Aside0.mk (hb)
     have n4_ := Aside0.mk (hi)
     clear BK212
     clear BK213
     clear HK
     clear HB
     clear HI0
     have BK212 := n0_
     have BK213 := n1_
     have HK := n2_
     have HB := n3_
     have HI0 := n4_
     clear n0_ n1_ n2_ n3_ n4_
     (try clear hb)
     (try clear hb2)
     (try clear hk)
     (try clear hi)
     refine hK.out _ _ ⟨(blk_cell BK212.out 0).trans rfl, (blk_cell BK212.out 1).trans rfl, HS2_, HS3_, HS4_⟩ (fun hHeld => ?_)
     clear hK K
     refine norm_ (a' := ?_) ?_ ?_
     (rotate_left; ·(show Act.put _ (some 6) _ = _; simp only [Act.put, pq_z23]; rfl))
     refine pu 2 (some 7) mz23_16 (any_of HT_.out (by kernel_rfl)) ?_
     refine one_ (i := 13) (N := some 18) mz23_13 rfl rfl (one_of HT_.out (by kernel_rfl)) (by decide) (fun K hK => ?_)
     refine Kd.R_lit_step (Kd.int .i64) _ 2 ?hg (N := 18) ?hd (xs := ([0, 1, 1, 1, 2] : List Int)) (inner := [.int .i64 0, .int .i64 1, .int .i64 1, .int .i64 1, .int .i64 2]) (ok := fun _ => True) (okp := fun _ => True) ?hr ?hp (fun _ hk => hk) trivial (Below.refl _ _) (Nat.le_refl _) (by simp) ?_; (case hd => rfl); (case hg => rfl); (case hr => first | (go_simp; done) | (go_simp; rfl)); (case hp => exact (Reps.one (show Kd.M (Kd.int .i64) _ _ _ 0 [.int .i64 0] from rfl) (Reps.one (show Kd.M (Kd.int .i64) _ _ _ 1 [.int .i64 1] from rfl) (Reps.one (show Kd.M (Kd.int .i64) _ _ _ 1 [.int .i64 1] from rfl) (Reps.one (show Kd.M (Kd.int .i64) _ _ _ 1 [.int .i64 1] from rfl) (Reps.one (show Kd.M (Kd.int .i64) _ _ _ 2 [.int .i64 2] from rfl) (Reps.none _ _)))))))
     intro v219 w13 ho14 hb hg_ hnew_
     have HS2_ := (hb.cell (World.block_lt_of_cell? _ _ (hHeld.2.2.1))).trans (hHeld.2.2.1)
     have HS3_ := (hb.cell (World.block_lt_of_cell? _ _ (hHeld.2.2.2.1))).trans (hHeld.2.2.2.1)
     have HS4_ := (hb.cell (World.block_lt_of_cell? _ _ (hHeld.2.2.2.2))).trans (hHeld.2.2.2.2)
     clear hg_ hnew_
     (first | rw [← Ny218.out] at ho14 | (simp only [Int.reduceToNat] at ho14; rw [← Ny218.out] at ho14))
     have n0_ := Aside0.mk (Kd.R_lower ho14 (keep_size (w := w) (g := g) (row := none) (by repeat (first | (with_reducible first | exact HK.out | apply KeepBut.set_ | apply keep_drewN | apply keep_drew | apply keep_alloc | refine keep_far ?_ GW212.out _ | refine keep_far ?_ GW213.out _) | exact HK.out))))
     have n1_ := Aside0.mk (IsS68.below (by repeat (first | (with_reducible first | exact HI0.out | apply IsS68.alloc | apply IsS68.drewN | apply IsS68.drew | apply IsS68.set_1 | apply IsS68.set_2 | refine IsS68.far ?_ NB0_212.out _ | refine IsS68.far ?_ NB0_213.out _) | exact HI0.out)) hb)
     have n2_ := Aside0.mk (blk_below (by exact BK212.out) hb)
     have n3_ := Aside0.mk (blk_below (by exact BK213.out) hb)
     have n4_ := Aside0.mk (KeepBut.trans (by repeat (first | (with_reducible first | exact HK.out | apply KeepBut.set_ | apply keep_drewN | apply keep_drew | apply keep_alloc | refine keep_far ?_ GW212.out _ | refine keep_far ?_ GW213.out _) | exact HK.out)) (KeepBut.of_below hb g none) (.inl rfl))
     have n5_ := Aside0.mk (below_step (by repeat (first | (with_reducible first | exact HB.out | apply below_alloc | apply pw_below_drewN | apply below_drew1 | refine below_set ?_ (IsS68.ge HI0.out) | refine below_set ?_ GE212.out | refine below_set ?_ GE213.out) | exact HB.out)) hb)
     clear HI0
     clear BK212
     clear BK213
     clear HK
     clear HB
     have HO220 := n0_
     have HI0 := n1_
     have BK212 := n2_
     have BK213 := n3_
     have HK := n4_
     have HB := n5_
     clear n0_ n1_ n2_ n3_ n4_ n5_
     clear hb ho14
     refine hK.out _ _ ⟨(blk_cell BK212.out 0).trans rfl, (blk_cell BK212.out 1).trans rfl, HS2_, HS3_, HS4_⟩ (fun hHeld => ?_)
     clear hK K
     refine norm_ (a' := ?_) ?_ ?_
     (rotate_left; ·(show Act.put _ (some 18) _ = _; simp only [Act.put, pq_z23]; rfl))
     exact norm_ (by simp only [putAll, Act.put, List.setIfInBounds_toArray, List.set_cons_zero, List.set_cons_succ]) (hCont (v219) _ ⟨hHeld, (by (with_reducible repeat (first | apply Kd.R_alloc | apply Kd.R_drewN | apply Kd.R_drew)); exact HO220.out), (by exact BK212.out), (by exact BK213.out), (by repeat (first | (with_reducible first | exact HI0.out | apply IsS68.alloc | apply IsS68.drewN | apply IsS68.drew | apply IsS68.set_1 | apply IsS68.set_2 | refine IsS68.far ?_ NB0_212.out _ | refine IsS68.far ?_ NB0_213.out _) | exact HI0.out)), (by repeat (first | (with_reducible first | exact HK.out | apply KeepBut.set_ | apply keep_drewN | apply keep_drew | apply keep_alloc | refine keep_far ?_ GW212.out _ | refine keep_far ?_ GW213.out _) | exact HK.out)), (by repeat (first | (with_reducible first | exact HB.out | apply below_alloc | apply pw_below_drewN | apply below_drew1 | refine below_set ?_ (IsS68.ge HI0.out) | refine below_set ?_ GE212.out | refine below_set ?_ GE213.out) | exact HB.out))⟩)
    ·skip
     refine Kd.R_lit_step (Kd.int .i64) _ 2 ?hg (N := 18) ?hd (xs := ([0, 1, 1, 1, 2] : List Int)) (inner := [.int .i64 0, .int .i64 1, .int .i64 1, .int .i64 1, .int .i64 2]) (ok := fun _ => True) (okp := fun _ => True) ?hr ?hp (fun _ hk => hk) trivial (Below.refl _ _) (Nat.le_refl _) (by simp) ?_; (case hd => rfl); (case hg => rfl); (case hr => first | (go_simp; done) | (go_simp; rfl)); (case hp => exact (Reps.one (show Kd.M (Kd.int .i64) _ _ _ 0 [.int .i64 0] from rfl) (Reps.one (show Kd.M (Kd.int .i64) _ _ _ 1 [.int .i64 1] from rfl) (Reps.one (show Kd.M (Kd.int .i64) _ _ _ 1 [.int .i64 1] from rfl) (Reps.one (show Kd.M (Kd.int .i64) _ _ _ 1 [.int .i64 1] from rfl) (Reps.one (show Kd.M (Kd.int .i64) _ _ _ 2 [.int .i64 2] from rfl) (Reps.none _ _)))))))
     intro v219 w12 ho13 hb hg_ hnew_
     have HS2_ := (hb.cell (World.block_lt_of_cell? _ _ (hHeld.2.2.1))).trans (hHeld.2.2.1)
     have HS3_ := (hb.cell (World.block_lt_of_cell? _ _ (hHeld.2.2.2.1))).trans (hHeld.2.2.2.1)
     have HS4_ := (hb.cell (World.block_lt_of_cell? _ _ (hHeld.2.2.2.2))).trans (hHeld.2.2.2.2)
     clear hg_ hnew_
     (first | rw [← Ny218.out] at ho13 | (simp only [Int.reduceToNat] at ho13; rw [← Ny218.out] at ho13))
     have n0_ := Aside0.mk (Kd.R_lower ho13 (keep_size (w := w) (g := g) (row := none) (by repeat (first | (with_reducible first | exact HK.out | apply KeepBut.set_ | apply keep_drewN | apply keep_drew | apply keep_alloc | refine keep_far ?_ GW212.out _ | refine keep_far ?_ GW213.out _) | exact HK.out))))
     have n1_ := Aside0.mk (IsS68.below (by repeat (first | (with_reducible first | exact HI0.out | apply IsS68.alloc | apply IsS68.drewN | apply IsS68.drew | apply IsS68.set_1 | apply IsS68.set_2 | refine IsS68.far ?_ NB0_212.out _ | refine IsS68.far ?_ NB0_213.out _) | exact HI0.out)) hb)
     have n2_ := Aside0.mk (blk_below (by exact BK212.out) hb)
     have n3_ := Aside0.mk (blk_below (by exact BK213.out) hb)
     have n4_ := Aside0.mk (Kd.C_below (by repeat (first | (with_reducible exact HR217_2.out) | (with_reducible refine Kd.C_alloc ?_ _) | (with_reducible refine Kd.C_drewN ?_ _) | (with_reducible refine Kd.C_drew ?_) | exact HR217_2.out)) hb)
     have n5_ := Aside0.mk (KeepBut.trans (by repeat (first | (with_reducible first | exact HK.out | apply KeepBut.set_ | apply keep_drewN | apply keep_drew | apply keep_alloc | refine keep_far ?_ GW212.out _ | refine keep_far ?_ GW213.out _) | exact HK.out)) (KeepBut.of_below hb g none) (.inl rfl))
     have n6_ := Aside0.mk (below_step (by repeat (first | (with_reducible first | exact HB.out | apply below_alloc | apply pw_below_drewN | apply below_drew1 | refine below_set ?_ (IsS68.ge HI0.out) | refine below_set ?_ GE212.out | refine below_set ?_ GE213.out) | exact HB.out)) hb)
     clear HI0
     clear BK212
     clear BK213
     clear HR217_2
     clear HK
     clear HB
     have HO220 := n0_
     have HI0 := n1_
     have BK212 := n2_
     have BK213 := n3_
     have HR217_2 := n4_
     have HK := n5_
     have HB := n6_
     clear n0_ n1_ n2_ n3_ n4_ n5_ n6_
     clear hb ho13
     refine hK.out _ _ ⟨(blk_cell BK212.out 0).trans rfl, (blk_cell BK212.out 1).trans rfl, HS2_, HS3_, HS4_⟩ (fun hHeld => ?_)
     clear hK K
     refine norm_ (a' := ?_) ?_ ?_
     (rotate_left; ·(show Act.put _ (some 18) _ = _; simp only [Act.put, pq_z23]; rfl))
     refine one_ (i := 1) (N := some 6) mz23_17 rfl rfl (one_of HT_.out (by kernel_rfl)) (by decide) (fun K hK => ?_)
     refine goes_ Try.func36 (by kernel_rfl) rfl #[.pointer (some ⟨g, 0, none⟩), .int .i64 4] (by rfl) rfl rfl (by (try simp only [List.map_toArray, List.map_cons, List.map_nil]); first | done | rfl) ?_
     with_reducible refine (spec_l00Src_pick.calls g s0_0 s0_1 s0_2 4 t214 t215 t216 w0 _ ?side1 ?side2 A3.out).mono ?_
     (case side1 => repeat (first | (with_reducible first | exact HI0.out | apply IsS68.alloc | apply IsS68.drewN | apply IsS68.drew | apply IsS68.set_1 | apply IsS68.set_2 | refine IsS68.far ?_ NB0_212.out _ | refine IsS68.far ?_ NB0_213.out _) | exact HI0.out))
     (case side2 => repeat (first | (with_reducible first | exact HB.out | apply below_alloc | apply pw_below_drewN | apply below_drew1 | refine below_set ?_ (IsS68.ge HI0.out) | refine below_set ?_ GE212.out | refine below_set ?_ GE213.out) | exact HB.out))
     rintro e w14 ⟨rfl, hi, hb, hk⟩
     have HS2_ := keep_cell hk (hHeld.2.2.1) (by first | (rw [add_block]; exact hne217_0) | (show (Addr.add _ _).block ≠ _; rw [add_block]; exact hne217_0) | exact hne217_0)
     have HS3_ := keep_cell hk (hHeld.2.2.2.1) (by first | (rw [add_block]; exact hne217_1) | (show (Addr.add _ _).block ≠ _; rw [add_block]; exact hne217_1) | exact hne217_1)
     have HS4_ := keep_cell hk (hHeld.2.2.2.2) (by first | (rw [add_block]; exact hne217_2) | (show (Addr.add _ _).block ≠ _; rw [add_block]; exact hne217_2) | exact hne217_2)
     refine ⟨_, rfl, ?_⟩
     have n0_ := Aside0.mk (KeepBut.blk hk (g' := gb212) (o := .cells #[.slice A1_0 l1_0.length c1_0, .slice (some ad217) l1_1.length c1_1] 26 (0, 0)) (by exact BK212.out) NB212_0.out (by simp))
     have n1_ := Aside0.mk (KeepBut.blk hk (g' := gb213) (o := .cells #[.int .i64 0, .int .i64 0, .int .i64 0, .bool false] 29 (0, 0)) (by exact BK213.out) NB213_0.out (by simp))
     have n2_ := Aside0.mk (Kd.R_mono (Kd.R_keep (IsS68.apart (show IsS68 w0 _ g s0_0 s0_1 s0_2 from by repeat (first | (with_reducible first | exact HI0.out | apply IsS68.alloc | apply IsS68.drewN | apply IsS68.drew | apply IsS68.set_1 | apply IsS68.set_2 | refine IsS68.far ?_ NB0_212.out _ | refine IsS68.far ?_ NB0_213.out _) | exact HI0.out)) (by (with_reducible repeat (first | apply Kd.R_alloc | apply Kd.R_drewN | apply Kd.R_drew)); exact HO220.out) (by decide)) hk (fun _ h => h.2)) (fun _ h => h.1))
     have n3_ := Aside0.mk (KeepBut.trans (by repeat (first | (with_reducible first | exact HK.out | apply KeepBut.set_ | apply keep_drewN | apply keep_drew | apply keep_alloc | refine keep_far ?_ GW212.out _ | refine keep_far ?_ GW213.out _) | exact HK.out)) hk (.inl rfl))
     have n4_ := Aside0.mk (hb)
     have n5_ := Aside0.mk (hi)
     clear BK212
     clear BK213
     clear HO220
     clear HK
     clear HB
     clear HI0
     have BK212 := n0_
     have BK213 := n1_
     have HO220 := n2_
     have HK := n3_
     have HB := n4_
     have HI0 := n5_
     clear n0_ n1_ n2_ n3_ n4_ n5_
     (try clear hb)
     (try clear hb2)
     (try clear hk)
     (try clear hi)
     refine hK.out _ _ ⟨(blk_cell BK212.out 0).trans rfl, (blk_cell BK212.out 1).trans rfl, HS2_, HS3_, HS4_⟩ (fun hHeld => ?_)
     clear hK K
     refine norm_ (a' := ?_) ?_ ?_
     (rotate_left; ·(show Act.put _ (some 6) _ = _; simp only [Act.put, pq_z23]; rfl))
     refine pu 2 (some 7) mz23_13 (any_of HT_.out (by kernel_rfl)) ?_
     exact norm_ (by simp only [putAll, Act.put, List.setIfInBounds_toArray, List.set_cons_zero, List.set_cons_succ]) (hCont (v219) _ ⟨hHeld, (by (with_reducible repeat (first | apply Kd.R_alloc | apply Kd.R_drewN | apply Kd.R_drew)); exact HO220.out), (by exact BK212.out), (by exact BK213.out), (by repeat (first | (with_reducible first | exact HI0.out | apply IsS68.alloc | apply IsS68.drewN | apply IsS68.drew | apply IsS68.set_1 | apply IsS68.set_2 | refine IsS68.far ?_ NB0_212.out _ | refine IsS68.far ?_ NB0_213.out _) | exact HI0.out)), (by repeat (first | (with_reducible first | exact HK.out | apply KeepBut.set_ | apply keep_drewN | apply keep_drew | apply keep_alloc | refine keep_far ?_ GW212.out _ | refine keep_far ?_ GW213.out _) | exact HK.out)), (by repeat (first | (with_reducible first | exact HB.out | apply below_alloc | apply pw_below_drewN | apply below_drew1 | refine below_set ?_ (IsS68.ge HI0.out) | refine below_set ?_ GE212.out | refine below_set ?_ GE213.out) | exact HB.out))⟩)
   rintro v219 w15 ⟨hS_, h0_, h1_, h2_, h3_, h4_, h5_⟩
   have n0_ : Aside0 (Kd.R (Kd.int .i64) 2 w15 w.heap.size (fun _ => True) v219 y218) := ⟨h0_⟩
   have n1_ : Aside0 (w15.heap[gb212]? = some (.cells #[.slice A1_0 l1_0.length c1_0, .slice (some ad217) l1_1.length c1_1] 26 (0, 0))) := ⟨h1_⟩
   have n2_ : Aside0 (w15.heap[gb213]? = some (.cells #[.int .i64 0, .int .i64 0, .int .i64 0, .bool false] 29 (0, 0))) := ⟨h2_⟩
   have n3_ : Aside0 (IsS68 w0 w15 g s0_0 t215 t216) := ⟨h3_⟩
   have n4_ : Aside0 (KeepBut w w15 g none) := ⟨h4_⟩
   have n5_ : Aside0 (Below w0.heap.size w0 w15) := ⟨h5_⟩
   clear BK212
   clear BK213
   clear HI0
   clear HK
   clear HB
   clear h0_ h1_ h2_ h3_ h4_ h5_
   have HO220 := n0_
   have BK212 := n1_
   have BK213 := n2_
   have HI0 := n3_
   have HK := n4_
   have HB := n5_
   clear n0_ n1_ n2_ n3_ n4_ n5_
   have hHeld : w15.cell? ⟨gb212, 0, none⟩ = some (.slice A1_0 l1_0.length c1_0) ∧ w15.cell? ⟨gb212, 1, none⟩ = some (.slice (some ad217) l1_1.length c1_1) ∧ w15.cell? (ad217.add (((ji4)).toNat * 3)) = some (.int .i64 ((rd_T70 l1_1 (ji4)).f0)) ∧ w15.cell? ⟨(ad217.add (((ji4)).toNat * 3)).block, (ad217.add (((ji4)).toNat * 3)).off + 1, none⟩ = some (.int .i64 ((rd_T70 l1_1 (ji4)).f1)) ∧ w15.cell? ⟨(ad217.add (((ji4)).toNat * 3)).block, (ad217.add (((ji4)).toNat * 3)).off + 2, none⟩ = some (.slice A217_2 ((rd_T70 l1_1 (ji4)).f2).length c217_2) := hS_
   obtain ⟨Ao16, co16, eo16⟩ := Kd.R_slice HO220.out
   (first | subst eo16 | (injection eo16 with f1_ f2_ f3_; have f4_ := f1_.symm; have f5_ := f3_.symm; clear f1_ f2_ f3_; subst f4_; subst f5_))
   refine norm_ (a' := ?_) ?_ ?_
   rotate_left
   ·simp only [putAll, Act.put, List.setIfInBounds_toArray, List.set_cons_zero, List.set_cons_succ]
    rfl
   refine one_ (i := 14) (N := some 19) mz23_18 rfl rfl (one_of HT_.out (by kernel_rfl)) (by decide) (fun K hK => ?_)
   refine goes_ Try.func37 (by kernel_rfl) rfl #[.pointer (some ⟨g, 0, none⟩), .slice Ao16 y218.length co16] (by rfl) rfl rfl (by (try simp only [List.map_toArray, List.map_cons, List.map_nil]); first | done | rfl) ?_
   with_reducible refine (spec_l00Src_among.calls g s0_0 t215 t216 _ _ y218 t221 t222 t223 w0 _ ?side1 ?side2 ?side3 ?side4 ?side5 A7.out).mono ?_
   (case side1 => repeat (first | (with_reducible first | exact HI0.out | apply IsS68.alloc | apply IsS68.drewN | apply IsS68.drew | apply IsS68.set_1 | apply IsS68.set_2 | refine IsS68.far ?_ NB0_212.out _ | refine IsS68.far ?_ NB0_213.out _) | exact HI0.out))
   (case side2 => repeat (first | (with_reducible first | exact HB.out | apply below_alloc | apply pw_below_drewN | apply below_drew1 | refine below_set ?_ (IsS68.ge HI0.out) | refine below_set ?_ GE212.out | refine below_set ?_ GE213.out) | exact HB.out))
   (case side3 => exact (Kd.R_reads' HO220.out).2.2)
   (case side4 => exact (Kd.R_reads' HO220.out).2.1)
   (case side5 => exact far_slice (IsS68.own_ne HI0.out HO220.out (by decide)))
   rintro e w17 ⟨rfl, hi, hb, hk⟩
   have HS2_ := keep_cell hk (hHeld.2.2.1) (by first | (rw [add_block]; exact hne217_0) | (show (Addr.add _ _).block ≠ _; rw [add_block]; exact hne217_0) | exact hne217_0)
   have HS3_ := keep_cell hk (hHeld.2.2.2.1) (by first | (rw [add_block]; exact hne217_1) | (show (Addr.add _ _).block ≠ _; rw [add_block]; exact hne217_1) | exact hne217_1)
   have HS4_ := keep_cell hk (hHeld.2.2.2.2) (by first | (rw [add_block]; exact hne217_2) | (show (Addr.add _ _).block ≠ _; rw [add_block]; exact hne217_2) | exact hne217_2)
   refine ⟨_, rfl, ?_⟩
   have n0_ := Aside0.mk (KeepBut.blk hk (g' := gb212) (o := .cells #[.slice A1_0 l1_0.length c1_0, .slice (some ad217) l1_1.length c1_1] 26 (0, 0)) (by exact BK212.out) NB212_0.out (by simp))
   have n1_ := Aside0.mk (KeepBut.blk hk (g' := gb213) (o := .cells #[.int .i64 0, .int .i64 0, .int .i64 0, .bool false] 29 (0, 0)) (by exact BK213.out) NB213_0.out (by simp))
   have n2_ := Aside0.mk (Kd.R_mono (Kd.R_keep (IsS68.apart (show IsS68 w0 _ g s0_0 t215 t216 from by repeat (first | (with_reducible first | exact HI0.out | apply IsS68.alloc | apply IsS68.drewN | apply IsS68.drew | apply IsS68.set_1 | apply IsS68.set_2 | refine IsS68.far ?_ NB0_212.out _ | refine IsS68.far ?_ NB0_213.out _) | exact HI0.out)) (by (with_reducible repeat (first | apply Kd.R_alloc | apply Kd.R_drewN | apply Kd.R_drew)); exact HO220.out) (by decide)) hk (fun _ h => h.2)) (fun _ h => h.1))
   have n3_ := Aside0.mk (KeepBut.trans (by repeat (first | (with_reducible first | exact HK.out | apply KeepBut.set_ | apply keep_drewN | apply keep_drew | apply keep_alloc | refine keep_far ?_ GW212.out _ | refine keep_far ?_ GW213.out _) | exact HK.out)) hk (.inl rfl))
   have n4_ := Aside0.mk (hb)
   have n5_ := Aside0.mk (hi)
   clear BK212
   clear BK213
   clear HO220
   clear HK
   clear HB
   clear HI0
   have BK212 := n0_
   have BK213 := n1_
   have HO220 := n2_
   have HK := n3_
   have HB := n4_
   have HI0 := n5_
   clear n0_ n1_ n2_ n3_ n4_ n5_
   (try clear hb)
   (try clear hb2)
   (try clear hk)
   (try clear hi)
   refine hK.out _ _ ⟨(blk_cell BK212.out 0).trans rfl, (blk_cell BK212.out 1).trans rfl, HS2_, HS3_, HS4_⟩ (fun hHeld => ?_)
   clear hK K
   refine norm_ (a' := ?_) ?_ ?_
   (rotate_left; ·(show Act.put _ (some 19) _ = _; simp only [Act.put, pq_z23]; rfl))
   refine one_ (i := 16) (N := some 21) mz23_19 rfl rfl (one_of HT_.out (by kernel_rfl)) (by decide) (fun K hK => ?_)
   refine goes_ Try.func38 (by kernel_rfl) rfl #[.pointer (some ⟨g, 0, none⟩), .int .i64 2] (by rfl) rfl rfl (by (try simp only [List.map_toArray, List.map_cons, List.map_nil]); first | done | rfl) ?_
   with_reducible refine (spec_l00Src_one.calls g s0_0 t222 t223 2 t224 t225 t226 w0 _ ?side1 ?side2 A8.out).mono ?_
   (case side1 => repeat (first | (with_reducible first | exact HI0.out | apply IsS68.alloc | apply IsS68.drewN | apply IsS68.drew | apply IsS68.set_1 | apply IsS68.set_2 | refine IsS68.far ?_ NB0_212.out _ | refine IsS68.far ?_ NB0_213.out _) | exact HI0.out))
   (case side2 => repeat (first | (with_reducible first | exact HB.out | apply below_alloc | apply pw_below_drewN | apply below_drew1 | refine below_set ?_ (IsS68.ge HI0.out) | refine below_set ?_ GE212.out | refine below_set ?_ GE213.out) | exact HB.out))
   rintro e w18 ⟨rfl, hi, hb, hk⟩
   have HS2_ := keep_cell hk (hHeld.2.2.1) (by first | (rw [add_block]; exact hne217_0) | (show (Addr.add _ _).block ≠ _; rw [add_block]; exact hne217_0) | exact hne217_0)
   have HS3_ := keep_cell hk (hHeld.2.2.2.1) (by first | (rw [add_block]; exact hne217_1) | (show (Addr.add _ _).block ≠ _; rw [add_block]; exact hne217_1) | exact hne217_1)
   have HS4_ := keep_cell hk (hHeld.2.2.2.2) (by first | (rw [add_block]; exact hne217_2) | (show (Addr.add _ _).block ≠ _; rw [add_block]; exact hne217_2) | exact hne217_2)
   refine ⟨_, rfl, ?_⟩
   have n0_ := Aside0.mk (KeepBut.blk hk (g' := gb212) (o := .cells #[.slice A1_0 l1_0.length c1_0, .slice (some ad217) l1_1.length c1_1] 26 (0, 0)) (by exact BK212.out) NB212_0.out (by simp))
   have n1_ := Aside0.mk (KeepBut.blk hk (g' := gb213) (o := .cells #[.int .i64 0, .int .i64 0, .int .i64 0, .bool false] 29 (0, 0)) (by exact BK213.out) NB213_0.out (by simp))
   have n2_ := Aside0.mk (Kd.R_mono (Kd.R_keep (IsS68.apart (show IsS68 w0 _ g s0_0 t222 t223 from by repeat (first | (with_reducible first | exact HI0.out | apply IsS68.alloc | apply IsS68.drewN | apply IsS68.drew | apply IsS68.set_1 | apply IsS68.set_2 | refine IsS68.far ?_ NB0_212.out _ | refine IsS68.far ?_ NB0_213.out _) | exact HI0.out)) (by (with_reducible repeat (first | apply Kd.R_alloc | apply Kd.R_drewN | apply Kd.R_drew)); exact HO220.out) (by decide)) hk (fun _ h => h.2)) (fun _ h => h.1))
   have n3_ := Aside0.mk (KeepBut.trans (by repeat (first | (with_reducible first | exact HK.out | apply KeepBut.set_ | apply keep_drewN | apply keep_drew | apply keep_alloc | refine keep_far ?_ GW212.out _ | refine keep_far ?_ GW213.out _) | exact HK.out)) hk (.inl rfl))
   have n4_ := Aside0.mk (hb)
   have n5_ := Aside0.mk (hi)
   clear BK212
   clear BK213
   clear HO220
   clear HK
   clear HB
   clear HI0
   have BK212 := n0_
   have BK213 := n1_
   have HO220 := n2_
   have HK := n3_
   have HB := n4_
   have HI0 := n5_
   clear n0_ n1_ n2_ n3_ n4_ n5_
   (try clear hb)
   (try clear hb2)
   (try clear hk)
   (try clear hi)
   refine hK.out _ _ ⟨(blk_cell BK212.out 0).trans rfl, (blk_cell BK212.out 1).trans rfl, HS2_, HS3_, HS4_⟩ (fun hHeld => ?_)
   clear hK K
   refine norm_ (a' := ?_) ?_ ?_
   (rotate_left; ·(show Act.put _ (some 21) _ = _; simp only [Act.put, pq_z23]; rfl))
   refine pu 17 (some 22) mz23_20 (any_of HT_.out (by kernel_rfl)) ?_
   refine one_ (i := 18) (N := none) mz23_21 rfl rfl (one_of HT_.out (by kernel_rfl)) (by decide) (fun K hK => ?_)
   have hs19 : w18.cell? ⟨gb213, 0, none⟩ = some (.int .i64 0) := (blk_cell BK213.out 0).trans rfl
   have hfs19 := blk_frozen BK213.out 0
   have hns19_0 := NB212_213.out
   have hms19_0 := NB213_212.out
   have hs20 : w18.cell? ⟨gb213, 1, none⟩ = some (.int .i64 0) := (blk_cell BK213.out 1).trans rfl
   have hfs20 := blk_frozen BK213.out 1
   have hns20_0 := NB212_213.out
   have hms20_0 := NB213_212.out
   have hs21 : w18.cell? ⟨gb213, 2, none⟩ = some (.int .i64 0) := (blk_cell BK213.out 2).trans rfl
   have hfs21 := blk_frozen BK213.out 2
   have hns21_0 := NB212_213.out
   have hms21_0 := NB213_212.out
   have hs22 : w18.cell? ⟨gb213, 3, none⟩ = some (.bool false) := (blk_cell BK213.out 3).trans rfl
   have hfs22 := blk_frozen BK213.out 3
   have hns22_0 := NB212_213.out
   have hms22_0 := NB213_212.out
   refine skip_ (w1 := ?_) (by rfl) rfl ?_ ?_
   rotate_left
   ·go_simp
    rfl
   refine hK.out _ _ ⟨((cell_far (p := ⟨gb213, _, none⟩) NB212_213.out _).trans (((cell_far (p := ⟨gb213, _, none⟩) NB212_213.out _).trans (((cell_far (p := ⟨gb213, _, none⟩) NB212_213.out _).trans (((cell_far (p := ⟨gb213, _, none⟩) NB212_213.out _).trans (hHeld.1)))))))), ((cell_far (p := ⟨gb213, _, none⟩) NB212_213.out _).trans (((cell_far (p := ⟨gb213, _, none⟩) NB212_213.out _).trans (((cell_far (p := ⟨gb213, _, none⟩) NB212_213.out _).trans (((cell_far (p := ⟨gb213, _, none⟩) NB212_213.out _).trans (hHeld.2.1)))))))), ((cell_far (p := ⟨gb213, _, none⟩) (by first | exact Nat.ne_of_lt (Nat.lt_of_lt_of_le hlt217_0 GW213.out) | (rw [add_block]; exact Nat.ne_of_lt (Nat.lt_of_lt_of_le hlt217_0 GW213.out)) | (show (Addr.add _ _).block ≠ _; rw [add_block]; exact Nat.ne_of_lt (Nat.lt_of_lt_of_le hlt217_0 GW213.out)) | (dsimp only; exact Nat.ne_of_lt (Nat.lt_of_lt_of_le hlt217_0 GW213.out))) _).trans (((cell_far (p := ⟨gb213, _, none⟩) (by first | exact Nat.ne_of_lt (Nat.lt_of_lt_of_le hlt217_0 GW213.out) | (rw [add_block]; exact Nat.ne_of_lt (Nat.lt_of_lt_of_le hlt217_0 GW213.out)) | (show (Addr.add _ _).block ≠ _; rw [add_block]; exact Nat.ne_of_lt (Nat.lt_of_lt_of_le hlt217_0 GW213.out)) | (dsimp only; exact Nat.ne_of_lt (Nat.lt_of_lt_of_le hlt217_0 GW213.out))) _).trans (((cell_far (p := ⟨gb213, _, none⟩) (by first | exact Nat.ne_of_lt (Nat.lt_of_lt_of_le hlt217_0 GW213.out) | (rw [add_block]; exact Nat.ne_of_lt (Nat.lt_of_lt_of_le hlt217_0 GW213.out)) | (show (Addr.add _ _).block ≠ _; rw [add_block]; exact Nat.ne_of_lt (Nat.lt_of_lt_of_le hlt217_0 GW213.out)) | (dsimp only; exact Nat.ne_of_lt (Nat.lt_of_lt_of_le hlt217_0 GW213.out))) _).trans (((cell_far (p := ⟨gb213, _, none⟩) (by first | exact Nat.ne_of_lt (Nat.lt_of_lt_of_le hlt217_0 GW213.out) | (rw [add_block]; exact Nat.ne_of_lt (Nat.lt_of_lt_of_le hlt217_0 GW213.out)) | (show (Addr.add _ _).block ≠ _; rw [add_block]; exact Nat.ne_of_lt (Nat.lt_of_lt_of_le hlt217_0 GW213.out)) | (dsimp only; exact Nat.ne_of_lt (Nat.lt_of_lt_of_le hlt217_0 GW213.out))) _).trans (hHeld.2.2.1)))))))), ((cell_far (p := ⟨gb213, _, none⟩) (by first | exact Nat.ne_of_lt (Nat.lt_of_lt_of_le hlt217_1 GW213.out) | (rw [add_block]; exact Nat.ne_of_lt (Nat.lt_of_lt_of_le hlt217_1 GW213.out)) | (show (Addr.add _ _).block ≠ _; rw [add_block]; exact Nat.ne_of_lt (Nat.lt_of_lt_of_le hlt217_1 GW213.out)) | (dsimp only; exact Nat.ne_of_lt (Nat.lt_of_lt_of_le hlt217_1 GW213.out))) _).trans (((cell_far (p := ⟨gb213, _, none⟩) (by first | exact Nat.ne_of_lt (Nat.lt_of_lt_of_le hlt217_1 GW213.out) | (rw [add_block]; exact Nat.ne_of_lt (Nat.lt_of_lt_of_le hlt217_1 GW213.out)) | (show (Addr.add _ _).block ≠ _; rw [add_block]; exact Nat.ne_of_lt (Nat.lt_of_lt_of_le hlt217_1 GW213.out)) | (dsimp only; exact Nat.ne_of_lt (Nat.lt_of_lt_of_le hlt217_1 GW213.out))) _).trans (((cell_far (p := ⟨gb213, _, none⟩) (by first | exact Nat.ne_of_lt (Nat.lt_of_lt_of_le hlt217_1 GW213.out) | (rw [add_block]; exact Nat.ne_of_lt (Nat.lt_of_lt_of_le hlt217_1 GW213.out)) | (show (Addr.add _ _).block ≠ _; rw [add_block]; exact Nat.ne_of_lt (Nat.lt_of_lt_of_le hlt217_1 GW213.out)) | (dsimp only; exact Nat.ne_of_lt (Nat.lt_of_lt_of_le hlt217_1 GW213.out))) _).trans (((cell_far (p := ⟨gb213, _, none⟩) (by first | exact Nat.ne_of_lt (Nat.lt_of_lt_of_le hlt217_1 GW213.out) | (rw [add_block]; exact Nat.ne_of_lt (Nat.lt_of_lt_of_le hlt217_1 GW213.out)) | (show (Addr.add _ _).block ≠ _; rw [add_block]; exact Nat.ne_of_lt (Nat.lt_of_lt_of_le hlt217_1 GW213.out)) | (dsimp only; exact Nat.ne_of_lt (Nat.lt_of_lt_of_le hlt217_1 GW213.out))) _).trans (hHeld.2.2.2.1)))))))), ((cell_far (p := ⟨gb213, _, none⟩) (by first | exact Nat.ne_of_lt (Nat.lt_of_lt_of_le hlt217_2 GW213.out) | (rw [add_block]; exact Nat.ne_of_lt (Nat.lt_of_lt_of_le hlt217_2 GW213.out)) | (show (Addr.add _ _).block ≠ _; rw [add_block]; exact Nat.ne_of_lt (Nat.lt_of_lt_of_le hlt217_2 GW213.out)) | (dsimp only; exact Nat.ne_of_lt (Nat.lt_of_lt_of_le hlt217_2 GW213.out))) _).trans (((cell_far (p := ⟨gb213, _, none⟩) (by first | exact Nat.ne_of_lt (Nat.lt_of_lt_of_le hlt217_2 GW213.out) | (rw [add_block]; exact Nat.ne_of_lt (Nat.lt_of_lt_of_le hlt217_2 GW213.out)) | (show (Addr.add _ _).block ≠ _; rw [add_block]; exact Nat.ne_of_lt (Nat.lt_of_lt_of_le hlt217_2 GW213.out)) | (dsimp only; exact Nat.ne_of_lt (Nat.lt_of_lt_of_le hlt217_2 GW213.out))) _).trans (((cell_far (p := ⟨gb213, _, none⟩) (by first | exact Nat.ne_of_lt (Nat.lt_of_lt_of_le hlt217_2 GW213.out) | (rw [add_block]; exact Nat.ne_of_lt (Nat.lt_of_lt_of_le hlt217_2 GW213.out)) | (show (Addr.add _ _).block ≠ _; rw [add_block]; exact Nat.ne_of_lt (Nat.lt_of_lt_of_le hlt217_2 GW213.out)) | (dsimp only; exact Nat.ne_of_lt (Nat.lt_of_lt_of_le hlt217_2 GW213.out))) _).trans (((cell_far (p := ⟨gb213, _, none⟩) (by first | exact Nat.ne_of_lt (Nat.lt_of_lt_of_le hlt217_2 GW213.out) | (rw [add_block]; exact Nat.ne_of_lt (Nat.lt_of_lt_of_le hlt217_2 GW213.out)) | (show (Addr.add _ _).block ≠ _; rw [add_block]; exact Nat.ne_of_lt (Nat.lt_of_lt_of_le hlt217_2 GW213.out)) | (dsimp only; exact Nat.ne_of_lt (Nat.lt_of_lt_of_le hlt217_2 GW213.out))) _).trans (hHeld.2.2.2.2))))))))⟩ (fun hHeld => ?_)
   clear hK K
   refine done_ (done_of HT_.out (by kernel_rfl)) ?_
   try go_wp2
   refine bodyPost_ret (results_cell_row rfl _ _ gb213 29 #[.int .i64 (wrap64 (1 + t214)), .int .i64 ((rd_T70 l1_1 (ji4)).f0), .int .i64 t221, .bool t224] (0, 0) _ rfl (by (with_reducible repeat first | apply blk_drewN | apply blk_drew | apply blk_alloc); refine blk_put (cs := #[.int .i64 (wrap64 (1 + t214)), .int .i64 ((rd_T70 l1_1 (ji4)).f0), .int .i64 t221, .bool false]) ?_ 3 _ rfl; (with_reducible repeat first | apply blk_drewN | apply blk_drew | apply blk_alloc); refine blk_put (cs := #[.int .i64 (wrap64 (1 + t214)), .int .i64 ((rd_T70 l1_1 (ji4)).f0), .int .i64 0, .bool false]) ?_ 2 _ rfl; (with_reducible repeat first | apply blk_drewN | apply blk_drew | apply blk_alloc); refine blk_put (cs := #[.int .i64 (wrap64 (1 + t214)), .int .i64 0, .int .i64 0, .bool false]) ?_ 1 _ rfl; (with_reducible repeat first | apply blk_drewN | apply blk_drew | apply blk_alloc); refine blk_put (cs := #[.int .i64 0, .int .i64 0, .int .i64 0, .bool false]) ?_ 0 _ rfl; (with_reducible repeat first | apply blk_drewN | apply blk_drew | apply blk_alloc); exact BK213.out) Try.underlying29 rfl (by kernel_rfl)) rfl ?_
   exact ⟨by first | rfl | (simp [errW_none, errW_some] <;> rfl) | (simp only [← hji4]; first | rfl | (simp [errW_none, errW_some] <;> rfl)) | (simp [*, errW_none, errW_some] <;> rfl), by repeat (first | (with_reducible first | exact HI0.out | apply IsS68.alloc | apply IsS68.drewN | apply IsS68.drew | apply IsS68.set_1 | apply IsS68.set_2 | refine IsS68.far ?_ NB0_212.out _ | refine IsS68.far ?_ NB0_213.out _) | exact HI0.out), by repeat (first | (with_reducible first | exact HB.out | apply below_alloc | apply pw_below_drewN | apply below_drew1 | refine below_set ?_ (IsS68.ge HI0.out) | refine below_set ?_ GE212.out | refine below_set ?_ GE213.out) | exact HB.out), by repeat (first | (with_reducible first | exact HK.out | apply KeepBut.set_ | apply keep_drewN | apply keep_drew | apply keep_alloc | refine keep_far ?_ GW212.out _ | refine keep_far ?_ GW213.out _) | exact HK.out)⟩
  ·rw [if_neg c6] at H
   exact absurd H (by simp)
 ·rw [if_neg c5] at H
  exact absurd H (by simp)

/-! ### spec_A8Rule: function 7 -/
def spec_A8Rule.f (l0 : List Int) (l1_0 : List (S34)) (l1_1 : List (S70)) : Option (Int × Int × Int × Bool) := (spec_l00From.f l0).bind fun bt229 => ((spec_l08Rule.f bt229.1 bt229.2.1 bt229.2.2 l1_0 l1_1).bind fun bt233 => (some (bt233.1, bt233.2.1, bt233.2.2.1, bt233.2.2.2.1)))
set_option maxHeartbeats 8000000 in
set_option maxRecDepth 100000 in
theorem spec_A8Rule.calls (A0 : Option Addr) (c0 : Nat) (l0 : List Int) (A1_0 : Option Addr) (c1_0 : Nat) (l1_0 : List (S34)) (A1_1 : Option Addr) (c1_1 : Nat) (l1_1 : List (S70)) (r1 : Int) (r2 : Int) (r3 : Int) (r4 : Bool) (w : World) (hr0 : Kd.C (Kd.int .u8) w A0 l0.length l0) (hc0 : l0.length ≤ c0) (hr1_0 : Kd.C k34 w A1_0 l1_0.length l1_0) (hc1_0 : l1_0.length ≤ c1_0) (hr1_1 : Kd.C k70 w A1_1 l1_1.length l1_1) (hc1_1 : l1_1.length ≤ c1_1) (h : spec_A8Rule.f l0 l1_0 l1_1 = some (r1, r2, r3, r4)) :
    Calls Try.prog 7 #[.slice A0 l0.length c0, .agg #[.slice A1_0 l1_0.length c1_0, .slice A1_1 l1_1.length c1_1]] w fun e w' => e = .returned (.agg #[.int .i64 r1, .int .i64 r2, .int .i64 r3, .bool r4]) ∧ Below w.heap.size w w' := by
  have hu26 := Try.underlying26
  have hu29 := Try.underlying29
  have HR0 := Aside0.mk hr0
  have HC0 := Aside0.mk hc0
  clear hr0 hc0
  have HR1_0 := Aside0.mk hr1_0
  have HC1_0 := Aside0.mk hc1_0
  clear hr1_0 hc1_0
  have HR1_1 := Aside0.mk hr1_1
  have HC1_1 := Aside0.mk hc1_1
  clear hr1_1 hc1_1
  have HB := Aside0.mk (Below.refl w.heap.size w)
  have H : ((spec_l00From.f l0).bind fun bt229 => ((spec_l08Rule.f bt229.1 bt229.2.1 bt229.2.2 l1_0 l1_1).bind fun bt233 => (some (bt233.1, bt233.2.1, bt233.2.2.1, bt233.2.2.2.1)))) = some (r1, r2, r3, r4) := h
  clear h
  replace H := Option.bind_eq_some_iff.mp H
  obtain ⟨⟨t229, t230, t231⟩, A30, H⟩ := H
  set_option simprocs false in try dsimp only at H
  have A3 := Aside0.mk A30
  clear A30
  replace H := Option.bind_eq_some_iff.mp H
  obtain ⟨⟨t233, t234, t235, t236, t237, t238⟩, A40, H⟩ := H
  set_option simprocs false in try dsimp only at H
  have A4 := Aside0.mk A40
  clear A40
  simp only [Option.some.injEq, Prod.mk.injEq] at H
  obtain ⟨rfl, rfl, rfl, rfl⟩ := H
  go_enter Try.func7, Try.ntmps7
  go_wp2_with (first | ((with_reducible refine gate_dst (N := 3) rfl ?_); refine box_event ?hg (N := 3) ?hd (cs := #[.slice A1_0 l1_0.length c1_0, .slice A1_1 l1_1.length c1_1]) (t := 26) ?hr ?_; (case hd => rfl); (case hg => rfl); (case hr => first | (go_simp; done) | (go_simp; rfl)); intro gb227 hg w5 hbox hb; have n0_ := Aside0.mk (below_step (by repeat first | exact HB.out | apply pw_below_drewN) hb); have n1_ := Aside0.mk (hbox); have n2_ := Aside0.mk ((by rw [hg]; exact (below_size (by repeat first | exact HB.out | apply pw_below_drewN)) : w.heap.size ≤ gb227)); have n3_ := Aside0.mk ((by rw [hg]; exact (below_size (by repeat first | exact HB.out | apply pw_below_drewN)) : w.heap.size ≤ gb227)); clear HB; have HB := n0_; have BK227 := n1_; have GW227 := n2_; have GE227 := n3_; clear n0_ n1_ n2_ n3_; clear hb hbox hg) | ((with_reducible refine gate_dst (N := 4) rfl ?_); refine box_event ?hg (N := 4) ?hd (cs := #[.int .i64 0, .int .i64 0, .int .i64 0, .bool false]) (t := 29) ?hr ?_; (case hd => rfl); (case hg => rfl); (case hr => first | (go_simp; done) | (go_simp; rfl)); intro gb228 hg w6 hbox hb; have n0_ := Aside0.mk (blk_below (by exact BK227.out) hb); have n1_ := Aside0.mk (below_step (by repeat first | exact HB.out | apply pw_below_drewN) hb); have n2_ := Aside0.mk (hbox); have n3_ := Aside0.mk ((by rw [hg]; exact (below_size (by repeat first | exact HB.out | apply pw_below_drewN)) : w.heap.size ≤ gb228)); have n4_ := Aside0.mk ((by rw [hg]; exact (below_size (by repeat first | exact HB.out | apply pw_below_drewN)) : w.heap.size ≤ gb228)); have n5_ := Aside0.mk ((by rw [hg]; exact Nat.ne_of_lt (blk_lt (g := gb227) (o := .cells #[.slice A1_0 l1_0.length c1_0, .slice A1_1 l1_1.length c1_1] 26 (0, 0)) (by exact BK227.out)) : gb227 ≠ gb228)); have n6_ := Aside0.mk ((by rw [hg]; exact Nat.ne_of_gt (blk_lt (g := gb227) (o := .cells #[.slice A1_0 l1_0.length c1_0, .slice A1_1 l1_1.length c1_1] 26 (0, 0)) (by exact BK227.out)) : gb228 ≠ gb227)); clear BK227; clear HB; have BK227 := n0_; have HB := n1_; have BK228 := n2_; have GW228 := n3_; have GE228 := n4_; have NB227_228 := n5_; have NB228_227 := n6_; clear n0_ n1_ n2_ n3_ n4_ n5_ n6_; clear hb hbox hg) | ((with_reducible refine gate_callee (f := 21) rfl ?_); refine goesL_ (some 7) rfl rfl Try.func21 (by kernel_rfl) rfl #[.slice A0 l0.length c0] rfl (by (try simp only [List.map_toArray, List.map_cons, List.map_nil]); first | done | rfl) ?_; (with_reducible refine (spec_l00From.calls _ _ l0 t229 t230 t231 w _ ?side1 ?side2 ?side3 A3.out).mono ?_); (case side1 => repeat (first | (with_reducible first | exact HB.out | apply below_alloc | apply pw_below_drewN | apply below_drew1 | refine below_set ?_ GE227.out | refine below_set ?_ GE228.out) | exact HB.out)); (case side2 => exact HR0.out); (case side3 => exact HC0.out); rintro e w7 ⟨g232, rfl, hi, hb, hb2⟩; refine ⟨_, rfl, ?_⟩; have n0_ := Aside0.mk (blk_below (by exact BK227.out) hb2); have n1_ := Aside0.mk (blk_below (by exact BK228.out) hb2); have n2_ := Aside0.mk (hb); have n3_ := Aside0.mk (hi); have n4_ := Aside0.mk (IsS68.ne_blk hi (blk_below (by exact BK227.out) hb2) (by decide)); have n5_ := Aside0.mk (Ne.symm (IsS68.ne_blk hi (blk_below (by exact BK227.out) hb2) (by decide))); have n6_ := Aside0.mk (IsS68.ne_blk hi (blk_below (by exact BK228.out) hb2) (by decide)); have n7_ := Aside0.mk (Ne.symm (IsS68.ne_blk hi (blk_below (by exact BK228.out) hb2) (by decide))); clear BK227; clear BK228; clear HB; have BK227 := n0_; have BK228 := n1_; have HB := n2_; have HI232 := n3_; have NB232_227 := n4_; have NB227_232 := n5_; have NB232_228 := n6_; have NB228_232 := n7_; clear n0_ n1_ n2_ n3_ n4_ n5_ n6_ n7_; (try clear hb); (try clear hb2); (try clear hk); (try clear hi); have hnb8 := NB227_228.out; have hnc8 := NB228_227.out; have hnb9 := NB227_232.out; have hnc9 := NB232_227.out; have hcz10_0 := (blk_cell BK227.out 0).trans rfl; have hcz10_1 := (blk_cell BK227.out 1).trans rfl; have hfz10_0 := blk_frozen BK227.out 0; have hfz10_1 := blk_frozen BK227.out 1) | ((with_reducible refine gate_callee (f := 23) rfl ?_); refine goesL_ (some 10) rfl rfl Try.func23 (by kernel_rfl) rfl #[.pointer (some ⟨g232, 0, none⟩), .agg #[.slice A1_0 l1_0.length c1_0, .slice A1_1 l1_1.length c1_1]] rfl (by (try simp only [List.map_toArray, List.map_cons, List.map_nil]); first | done | rfl) ?_; (with_reducible refine (spec_l08Rule.calls g232 t229 t230 t231 _ _ l1_0 _ _ l1_1 t233 t234 t235 t236 t237 t238 w _ ?side1 ?side2 ?side3 ?side4 ?side5 ?side6 A4.out).mono ?_); (case side1 => repeat (first | (with_reducible first | exact HI232.out | apply IsS68.alloc | apply IsS68.drewN | apply IsS68.drew | apply IsS68.set_1 | apply IsS68.set_2 | refine IsS68.far ?_ NB232_227.out _ | refine IsS68.far ?_ NB232_228.out _) | exact HI232.out)); (case side2 => repeat (first | (with_reducible first | exact HB.out | apply below_alloc | apply pw_below_drewN | apply below_drew1 | refine below_set ?_ (IsS68.ge HI232.out) | refine below_set ?_ GE227.out | refine below_set ?_ GE228.out) | exact HB.out)); (case side3 => exact Kd.C_foot_came k34_heap HR1_0.out (by repeat (first | (with_reducible first | exact HB.out | apply below_alloc | apply pw_below_drewN | apply below_drew1 | refine below_set ?_ (IsS68.ge HI232.out) | refine below_set ?_ GE227.out | refine below_set ?_ GE228.out) | exact HB.out)) (IsS68.ge HI232.out)); (case side4 => exact HC1_0.out); (case side5 => exact Kd.C_foot_came k70_heap HR1_1.out (by repeat (first | (with_reducible first | exact HB.out | apply below_alloc | apply pw_below_drewN | apply below_drew1 | refine below_set ?_ (IsS68.ge HI232.out) | refine below_set ?_ GE227.out | refine below_set ?_ GE228.out) | exact HB.out)) (IsS68.ge HI232.out)); (case side6 => exact HC1_1.out); rintro e w11 ⟨rfl, hi, hb, hk⟩; refine ⟨_, rfl, ?_⟩; have n0_ := Aside0.mk (KeepBut.blk hk (g' := gb227) (o := .cells #[.slice A1_0 l1_0.length c1_0, .slice A1_1 l1_1.length c1_1] 26 (0, 0)) (by exact BK227.out) NB227_232.out (by simp)); have n1_ := Aside0.mk (KeepBut.blk hk (g' := gb228) (o := .cells #[.int .i64 0, .int .i64 0, .int .i64 0, .bool false] 29 (0, 0)) (by exact BK228.out) NB228_232.out (by simp)); have n2_ := Aside0.mk (hb); have n3_ := Aside0.mk (hi); clear BK227; clear BK228; clear HB; clear HI232; have BK227 := n0_; have BK228 := n1_; have HB := n2_; have HI232 := n3_; clear n0_ n1_ n2_ n3_; (try clear hb); (try clear hb2); (try clear hk); (try clear hi); have hnb12 := NB228_232.out; have hnc12 := NB232_228.out; have hcz13_0 := (blk_cell BK228.out 0).trans rfl; have hcz13_1 := (blk_cell BK228.out 1).trans rfl; have hcz13_2 := (blk_cell BK228.out 2).trans rfl; have hcz13_3 := (blk_cell BK228.out 3).trans rfl; have hfz13_0 := blk_frozen BK228.out 0; have hfz13_1 := blk_frozen BK228.out 1; have hfz13_2 := blk_frozen BK228.out 2; have hfz13_3 := blk_frozen BK228.out 3))
  refine bodyPost_ret (results_cell_row rfl _ _ gb228 29 #[.int .i64 t233, .int .i64 t234, .int .i64 t235, .bool t236] (0, 0) _ rfl (by (with_reducible repeat first | apply blk_drewN | apply blk_drew | apply blk_alloc); refine blk_put (cs := #[.int .i64 t233, .int .i64 t234, .int .i64 t235, .bool false]) ?_ 3 _ rfl; (with_reducible repeat first | apply blk_drewN | apply blk_drew | apply blk_alloc); refine blk_put (cs := #[.int .i64 t233, .int .i64 t234, .int .i64 0, .bool false]) ?_ 2 _ rfl; (with_reducible repeat first | apply blk_drewN | apply blk_drew | apply blk_alloc); refine blk_put (cs := #[.int .i64 t233, .int .i64 0, .int .i64 0, .bool false]) ?_ 1 _ rfl; (with_reducible repeat first | apply blk_drewN | apply blk_drew | apply blk_alloc); refine blk_put (cs := #[.int .i64 0, .int .i64 0, .int .i64 0, .bool false]) ?_ 0 _ rfl; (with_reducible repeat first | apply blk_drewN | apply blk_drew | apply blk_alloc); exact BK228.out) Try.underlying29 rfl (by kernel_rfl)) rfl ?_
  exact ⟨by first | rfl | (simp [*, errW_none, errW_some] <;> rfl), by repeat (first | (with_reducible first | exact HB.out | apply below_alloc | apply pw_below_drewN | apply below_drew1 | refine below_set ?_ (IsS68.ge HI232.out) | refine below_set ?_ GE227.out | refine below_set ?_ GE228.out) | exact HB.out)⟩

/-! ### laws_a8Mix: function 8 -/
def laws_a8Mix.f (a0 : Int) (l1 : List Int) : Option (List Int) := (some (([(a0) % 256] : List Int) : List Int)).bind fun y239 => (if y239.length + l1.length < 140737488355328 then (some (y239 ++ l1)) else (none))
set_option maxHeartbeats 8000000 in
set_option maxRecDepth 100000 in
theorem laws_a8Mix.calls (a0 : Int) (A1 : Option Addr) (c1 : Nat) (l1 : List Int) (r : List Int) (w : World) (hr1 : Kd.C (Kd.int .u8) w A1 l1.length l1) (hc1 : l1.length ≤ c1) (h : laws_a8Mix.f a0 l1 = some r) :
    Calls Try.prog 8 #[.int .i64 a0, .slice A1 l1.length c1] w fun e w' => ∃ v0_ : Value, e = .returned (v0_) ∧ Kd.R (Kd.int .u8) 5 w' w.heap.size (fun _ => True) v0_ r ∧ Below w.heap.size w w' := by
  have HR1 := Aside0.mk hr1
  have HC1 := Aside0.mk hc1
  clear hr1 hc1
  have HB := Aside0.mk (Below.refl w.heap.size w)
  have H : ((some (([(a0) % 256] : List Int) : List Int)).bind fun y239 => (if y239.length + l1.length < 140737488355328 then (some (y239 ++ l1)) else (none))) = some r := h
  clear h
  obtain ⟨y239, hy239⟩ : ∃ y_ : List Int, y_ = (([(a0) % 256] : List Int)) := ⟨_, rfl⟩
  replace H : (if y239.length + l1.length < 140737488355328 then (some (y239 ++ l1)) else (none)) = some r := by first | (rw [hy239]; with_reducible exact H) | (have H2_ := (Option.bind_some _ _).symm.trans H; rw [hy239]; with_reducible exact H2_) | (have H2_ := (Option.bind_some _ _).symm.trans H; with_reducible exact H2_) | with_reducible exact H | (rw [hy239]; exact H) | exact H
  have Ny239 := Aside0.mk hy239
  clear hy239
  by_cases c3 : y239.length + l1.length < 140737488355328
  · rw [if_pos c3] at H
    have LMc3 := Aside0.mk c3
    clear c3
    obtain ⟨y242, hy242⟩ : ∃ y_ : List Int, y_ = (y239 ++ l1) := ⟨_, rfl⟩
    replace H : (some y242) = some r := by first | (rw [hy242]; with_reducible exact H) | (have H2_ := (Option.bind_some _ _).symm.trans H; rw [hy242]; with_reducible exact H2_) | (have H2_ := (Option.bind_some _ _).symm.trans H; with_reducible exact H2_) | with_reducible exact H | (rw [hy242]; exact H) | exact H
    have Ny242 := Aside0.mk hy242
    clear hy242
    obtain rfl := Option.some.inj H
    go_enter Try.func8, Try.ntmps8
    go_wp2_with (first | ((with_reducible refine gate_dst (N := 7) rfl ?_); refine Kd.R_lit (Kd.int .u8) _ 5 ?hg (N := 7) ?hd (xs := ([(a0) % 256] : List Int)) (inner := [.int .u8 ((a0) % 256)]) (ok := fun _ => True) (okp := fun _ => True) ?hr ?hp (fun _ hk => hk) trivial (Below.refl _ _) (Nat.le_refl _) (by simp) ?_; (case hd => rfl); (case hg => rfl); (case hr => first | (go_simp; done) | (go_simp; rfl)); (case hp => exact (Reps.one (show Kd.M (Kd.int .u8) _ _ _ ((a0) % 256) [.int .u8 ((a0) % 256)] from rfl) (Reps.none _ _))); intro v240 w4 ho5 hb hg_ hnew_; clear hg_ hnew_; (first | rw [← Ny239.out] at ho5 | (simp only [Int.reduceToNat] at ho5; rw [← Ny239.out] at ho5)); have n0_ := Aside0.mk (Kd.R_lower ho5 (below_size (by repeat first | exact HB.out | apply pw_below_drewN))); have n1_ := Aside0.mk (below_step (by repeat first | exact HB.out | apply pw_below_drewN) hb); clear HB; have HO241 := n0_; have HB := n1_; clear n0_ n1_; clear hb ho5) | ((with_reducible refine gate_builtin (b := .append) (xs := #[.tmp 7, .tmp 8]) rfl ?_); at_builtin; refine Kd.R_append_rows (Kd.int .u8) (w0 := w) w.heap.size rfl (.tmp 7) (.tmp 8) 22 5 (.int .u8 0) 1 rfl Try.underlying22 info5 rfl (by decide) (by omega) v240 y239 l1 _ _ _ (fun _ => True) (fun _ => False) rfl rfl ?aO ?aR (fun _ _ h => h) (fun _ h => h.elim) ?aF ?aB ?aS ?aL ?_; (case aR => repeat (first | exact (Kd.C_below HR1.out HB.out) | (with_reducible refine Kd.C_alloc ?_ _) | (with_reducible refine Kd.C_drewN ?_ _) | (with_reducible refine Kd.C_drew ?_))); (case aB => exact (by repeat first | exact HB.out | apply pw_below_drewN)); (case aF => exact (fun _ _ => trivial)); (case aO => exact (by (with_reducible repeat (first | apply Kd.R_alloc | apply Kd.R_drewN | apply Kd.R_drew)); exact HO241.out)); (case aS => exact (below_size (by repeat first | exact HB.out | apply pw_below_drewN))); (case aL => have := LMc3.out; omega); intro v243 w6 ho hb hg hat; rw [← Ny242.out] at ho; have n0_ := Aside0.mk (hb); have n1_ := Aside0.mk (ho); clear HB; clear HO241; have HB := n0_; have HO244 := n1_; clear n0_ n1_; clear ho hb hg hat))
    go_ret
    exact ⟨_, by first | rfl | (simp [*, errW_none, errW_some] <;> rfl), by (with_reducible repeat (first | apply Kd.R_alloc | apply Kd.R_drewN | apply Kd.R_drew)); exact HO244.out, by repeat first | exact HB.out | apply pw_below_drewN⟩
  · rw [if_neg c3] at H
    exact absurd H (by simp)

/-! ### laws_a8At: function 9 -/
def laws_a8At.f (l0 : List Int) (a1 : Int) (a2 : Int) : Option (Int) := if a2 ≤ 1 then (some 0) else (if (l0.length : Int) = 0 then (if a2 = 0 then (none) else (some (Int.tmod (wrap64 (a1 * 7)) a2))) else (if 0 ≤ (Int.tmod a1 (l0.length : Int)) then (if (Int.tmod a1 (l0.length : Int)) < (l0.length : Int) then (if 0 ≤ (Int.tmod (wrap64 (a1 + 1)) (l0.length : Int)) then (if (Int.tmod (wrap64 (a1 + 1)) (l0.length : Int)) < (l0.length : Int) then (if a2 = 0 then (none) else (some (Int.tmod (wrap64 ((wrap64 ((wrap64 ((wrap64 (rd l0 (Int.tmod a1 (l0.length : Int)))) * 31)) + (wrap64 (rd l0 (Int.tmod (wrap64 (a1 + 1)) (l0.length : Int)))))) + (wrap64 (Int.tdiv a1 (l0.length : Int))))) a2))) else (none)) else (none)) else (none)) else (none)))
set_option maxHeartbeats 8000000 in
set_option maxRecDepth 100000 in
theorem laws_a8At.calls (A0 : Option Addr) (c0 : Nat) (l0 : List Int) (a1 : Int) (a2 : Int) (r : Int) (w : World) (hr0 : Kd.C (Kd.int .u8) w A0 l0.length l0) (hc0 : l0.length ≤ c0) (h : laws_a8At.f l0 a1 a2 = some r) :
    Calls Try.prog 9 #[.slice A0 l0.length c0, .int .i64 a1, .int .i64 a2] w fun e w' => e = .returned (.int .i64 r) ∧ Drawn0 w w' := by
  have HR0 := Aside0.mk hr0
  have HC0 := Aside0.mk hc0
  clear hr0 hc0
  have H : (if a2 ≤ 1 then (some 0) else (if (l0.length : Int) = 0 then (if a2 = 0 then (none) else (some (Int.tmod (wrap64 (a1 * 7)) a2))) else (if 0 ≤ (Int.tmod a1 (l0.length : Int)) then (if (Int.tmod a1 (l0.length : Int)) < (l0.length : Int) then (if 0 ≤ (Int.tmod (wrap64 (a1 + 1)) (l0.length : Int)) then (if (Int.tmod (wrap64 (a1 + 1)) (l0.length : Int)) < (l0.length : Int) then (if a2 = 0 then (none) else (some (Int.tmod (wrap64 ((wrap64 ((wrap64 ((wrap64 (rd l0 (Int.tmod a1 (l0.length : Int)))) * 31)) + (wrap64 (rd l0 (Int.tmod (wrap64 (a1 + 1)) (l0.length : Int)))))) + (wrap64 (Int.tdiv a1 (l0.length : Int))))) a2))) else (none)) else (none)) else (none)) else (none)))) = some r := h
  clear h
  by_cases c4 : a2 ≤ 1
  · rw [if_pos c4] at H
    have c4b0 : decide (a2 ≤ 1) = true := decide_eq_true c4
    clear c4
    obtain rfl := Option.some.inj H
    go_enter Try.func9, Try.ntmps9
    go_wp2
    repeat (go_quiet (fail); try go_wp2)
    go_ret
    exact ⟨by first | rfl | (simp; done) | (simp [*]; done), by repeat (first | exact Drawn0.refl _ | apply Drawn0.step)⟩
  · rw [if_neg c4] at H
    have c4b0 : decide (a2 ≤ 1) = false := decide_eq_false c4
    clear c4
    by_cases c5 : (l0.length : Int) = 0
    · rw [if_pos c5] at H
      have c5b0 : ((l0.length : Int) == 0) = true := beq_iff_eq.mpr c5
      have c5b1 : ((l0.length : Int) != 0) = false := bne_eq_false_iff_eq.mpr c5
      clear c5
      by_cases c6 : a2 = 0
      · rw [if_pos c6] at H
        exact absurd H (by simp)
      · rw [if_neg c6] at H
        have c6b0 : (a2 == 0) = false := beq_eq_false_iff_ne.mpr c6
        have c6b1 : (a2 != 0) = true := bne_iff_ne.mpr c6
        obtain rfl := Option.some.inj H
        go_enter Try.func9, Try.ntmps9
        go_wp2
        repeat (go_quiet (fail); try go_wp2)
        go_ret
        exact ⟨by first | rfl | (simp; done) | (simp [*]; done), by repeat (first | exact Drawn0.refl _ | apply Drawn0.step)⟩
    · rw [if_neg c5] at H
      have c5b0 : ((l0.length : Int) == 0) = false := beq_eq_false_iff_ne.mpr c5
      have c5b1 : ((l0.length : Int) != 0) = true := bne_iff_ne.mpr c5
      have c5b2 : ¬ (l0 = []) := fun h_ => c5 (by rw [h_]; rfl)
      obtain ⟨ji7, hji7⟩ : ∃ j_ : Int, (Int.tmod a1 (l0.length : Int)) = j_ := ⟨_, rfl⟩
      replace H : (if 0 ≤ (ji7) then (if (ji7) < (l0.length : Int) then (if 0 ≤ (Int.tmod (wrap64 (a1 + 1)) (l0.length : Int)) then (if (Int.tmod (wrap64 (a1 + 1)) (l0.length : Int)) < (l0.length : Int) then (if a2 = 0 then (none) else (some (Int.tmod (wrap64 ((wrap64 ((wrap64 ((wrap64 (rd l0 (ji7))) * 31)) + (wrap64 (rd l0 (Int.tmod (wrap64 (a1 + 1)) (l0.length : Int)))))) + (wrap64 (Int.tdiv a1 (l0.length : Int))))) a2))) else (none)) else (none)) else (none)) else (none)) = some r := by first | (rw [hji7] at H; exact H) | (simp only [hji7] at H ⊢; exact H)
      by_cases c8 : 0 ≤ (ji7)
      · rw [if_pos c8] at H
        have c8b0 : decide (0 ≤ (ji7)) = true := decide_eq_true c8
        clear c8
        by_cases c9 : (ji7) < (l0.length : Int)
        · rw [if_pos c9] at H
          have c9b0 : decide ((ji7) < (l0.length : Int)) = true := decide_eq_true c9
          clear c9
          obtain ⟨ji10, hji10⟩ : ∃ j_ : Int, (Int.tmod (wrap64 (a1 + 1)) (l0.length : Int)) = j_ := ⟨_, rfl⟩
          replace H : (if 0 ≤ (ji10) then (if (ji10) < (l0.length : Int) then (if a2 = 0 then (none) else (some (Int.tmod (wrap64 ((wrap64 ((wrap64 ((wrap64 (rd l0 (ji7))) * 31)) + (wrap64 (rd l0 (ji10))))) + (wrap64 (Int.tdiv a1 (l0.length : Int))))) a2))) else (none)) else (none)) = some r := by first | (rw [hji10] at H; exact H) | (simp only [hji10] at H ⊢; exact H)
          by_cases c11 : 0 ≤ (ji10)
          · rw [if_pos c11] at H
            have c11b0 : decide (0 ≤ (ji10)) = true := decide_eq_true c11
            clear c11
            by_cases c12 : (ji10) < (l0.length : Int)
            · rw [if_pos c12] at H
              have c12b0 : decide ((ji10) < (l0.length : Int)) = true := decide_eq_true c12
              clear c12
              by_cases c13 : a2 = 0
              · rw [if_pos c13] at H
                exact absurd H (by simp)
              · rw [if_neg c13] at H
                have c13b0 : (a2 == 0) = false := beq_eq_false_iff_ne.mpr c13
                have c13b1 : (a2 != 0) = true := bne_iff_ne.mpr c13
                obtain rfl := Option.some.inj H
                have p245 : 0 ≤ ((ji7) : Int) := of_decide_eq_true (by assumption)
                have q245 : (ji7) < (l0.length : Int) := of_decide_eq_true (by assumption)
                obtain ⟨ad245, e245, hx245_0⟩ := Kd.at_int HR0.out (ji7) p245 q245
                cases e245
                replace p245 := eq_true p245
                replace q245 := eq_true q245
                have p246 : 0 ≤ ((ji10) : Int) := of_decide_eq_true (by assumption)
                have q246 : (ji10) < (l0.length : Int) := of_decide_eq_true (by assumption)
                obtain ⟨ad246, e246, hx246_0⟩ := Kd.at_int HR0.out (ji10) p246 q246
                obtain rfl : ad245 = ad246 := (by injection e246)
                replace p246 := eq_true p246
                replace q246 := eq_true q246
                go_enter Try.func9, Try.ntmps9
                go_wp2
                repeat (go_quiet (fail); try go_wp2)
                go_ret
                exact ⟨by first | rfl | (simp; done) | (simp only [← hji7, ← hji10] <;> (first | rfl | simp)) | (simp [*]; done), by repeat (first | exact Drawn0.refl _ | apply Drawn0.step)⟩
            · rw [if_neg c12] at H
              exact absurd H (by simp)
          · rw [if_neg c11] at H
            exact absurd H (by simp)
        · rw [if_neg c9] at H
          exact absurd H (by simp)
      · rw [if_neg c8] at H
        exact absurd H (by simp)

/-! ### laws_FnHoles: function 4 -/
mutual
def laws_FnHoles.j0 : Nat → Int → Int → List Int → List Int → Bool → Option (Bool)
  | 0, _, _, _, _, _ => none
  | k + 1, x5, x6, x8, x10, x93 => if x93 = true then (some false) else (laws_FnHoles.l0 k x5 x6 x8 x10 0)
def laws_FnHoles.l0 : Nat → Int → Int → List Int → List Int → Int → Option (Bool)
  | 0, _, _, _, _, _ => none
  | k + 1, x5, x6, x8, x10, x14 => if x14 < x5 then (if 0 ≤ x14 then (if x14 < (x8.length : Int) then (if x14 < (x10.length : Int) then (if (((rd x8 x14) == x6) == ((rd x8 x14) == (rd x10 x14))) = true then (some false) else (laws_FnHoles.l0 k x5 x6 x8 x10 (wrap64 (x14 + 1)))) else (none)) else (none)) else (none)) else (some true)
end
def laws_FnHoles.f (k : Nat) (l0 : List Int) : Option (Bool) := if (l0.length : Int) > 1048576 then (some true) else ((spec_A8Tree.f k l0).bind fun bt421 => ((laws_a8Mix.f 2 l0).bind fun t428 => ((spec_A8Rule.f t428 bt421.1 bt421.2).bind fun bt431 => ((laws_a8At.f l0 0 7).bind fun t436 => ((laws_a8At.f l0 1 (bt421.1.length : Int)).bind fun t437 => (if 0 ≤ t437 then (if t437 < (bt421.1.length : Int) then ((spec_A8Number.f k l0).bind fun t439 => ((impl_Place.f k bt421.1 bt421.2 bt431.1 bt431.2.1 bt431.2.2.1 true t439 (wrap64 (1 + t436)) ([] : List Int)).bind fun bt440 => ((impl_Place.f k bt421.1 bt421.2 bt431.1 bt431.2.1 bt431.2.2.1 true t439 (wrap64 (1 + t436)) (([(rd_T34 bt421.1 t437).f0] : List Int))).bind fun bt447 => ((impl_PlaceWhole.f k bt421.1 bt421.2 bt431.1 bt431.2.1 bt431.2.2.1 true t439 (wrap64 (1 + t436))).bind fun bt451 => (if bt440.2 = true then (if bt447.2 = true then (if bt451.2 = true then (if (bt440.1.length : Int) = (wrap64 (1 + t436)) then (if (bt447.1.length : Int) = (wrap64 (1 + t436)) then ((laws_a8Same.f k bt440.1 bt451.1).bind fun t455 => (laws_FnHoles.j0 k (wrap64 (1 + t436)) ((rd_T34 bt421.1 t437).f0) bt440.1 bt447.1 (!t455))) else (laws_FnHoles.j0 k (wrap64 (1 + t436)) ((rd_T34 bt421.1 t437).f0) bt440.1 bt447.1 true)) else (laws_FnHoles.j0 k (wrap64 (1 + t436)) ((rd_T34 bt421.1 t437).f0) bt440.1 bt447.1 true)) else (laws_FnHoles.j0 k (wrap64 (1 + t436)) ((rd_T34 bt421.1 t437).f0) bt440.1 bt447.1 true)) else (laws_FnHoles.j0 k (wrap64 (1 + t436)) ((rd_T34 bt421.1 t437).f0) bt440.1 bt447.1 true)) else (laws_FnHoles.j0 k (wrap64 (1 + t436)) ((rd_T34 bt421.1 t437).f0) bt440.1 bt447.1 true)))))) else (none)) else (none)))))))
def laws_FnHoles.T7 : Bool × List (List Nat × List Nat) := (true, [([], []), ([0], [0]), ([], []), ([], []), ([3], [3]), ([4], [4]), ([2, 5], [2, 5]), ([1, 6], [1, 6]), ([7], [7]), ([8], [8]), ([9, 6, 0, 1, 2, 3, 4, 5, 6, 7, 8, 9], [9])])
def laws_FnHoles.B7 : List Nat := [0, 1, 0, 0, 8, 24, 60, 127, 255, 511, 1023]
theorem laws_FnHoles.tab7 : rtab .any (opsOf Try.f4 7) = laws_FnHoles.T7 := by kernel_rfl
theorem laws_FnHoles.bits7 : waitsOk laws_FnHoles.T7.2 laws_FnHoles.B7 = true := by kernel_rfl
def laws_FnHoles.T17 : Bool × List (List Nat × List Nat) := (true, [([], []), ([], []), ([0, 1], [0, 1]), ([2], [2]), ([], []), ([3, 4], [3, 4]), ([], []), ([], []), ([6, 7], [6, 7]), ([8], [8]), ([], []), ([], []), ([10, 11], [10, 11]), ([12], [12]), ([9, 13], [9, 13]), ([5, 14], [5, 14])])
def laws_FnHoles.B17 : List Nat := [0, 0, 3, 7, 0, 31, 0, 0, 192, 448, 0, 0, 3072, 7168, 16320, 32767]
theorem laws_FnHoles.tab17 : rtab .any (opsOf Try.f4 17) = laws_FnHoles.T17 := by kernel_rfl
theorem laws_FnHoles.bits17 : waitsOk laws_FnHoles.T17.2 laws_FnHoles.B17 = true := by kernel_rfl
def az_z4 (n m : Nat) : Array Bool := (List.replicate n true ++ List.replicate m false).toArray
def mz4_0 : Array Bool := az_z4 0 11
def mz4_1 : Array Bool := az_z4 1 10
def mz4_2 : Array Bool := #[true, false, true, false, false, false, false, false, false, false, false]
def mz4_3 : Array Bool := #[true, false, true, true, false, false, false, false, false, false, false]
def mz4_4 : Array Bool := az_z4 4 7
def mz4_5 : Array Bool := az_z4 5 6
def mz4_6 : Array Bool := az_z4 6 5
def mz4_7 : Array Bool := az_z4 7 4
def mz4_8 : Array Bool := az_z4 8 3
def mz4_9 : Array Bool := az_z4 9 2
def mz4_10 : Array Bool := az_z4 10 1
def mz4_11 : Array Bool := az_z4 11 0
def mz4_12 : Array Bool := az_z4 0 16
def mz4_13 : Array Bool := az_z4 1 15
def mz4_14 : Array Bool := az_z4 2 14
def mz4_15 : Array Bool := az_z4 3 13
def mz4_16 : Array Bool := #[true, true, true, false, true, false, false, false, false, false, false, false, false, false, false, false]
def mz4_17 : Array Bool := #[true, true, true, false, true, false, true, false, false, false, false, false, false, false, false, false]
def mz4_18 : Array Bool := #[true, true, true, false, true, false, true, true, false, false, false, false, false, false, false, false]
def mz4_19 : Array Bool := #[true, true, true, false, true, false, true, true, true, false, false, false, false, false, false, false]
def mz4_20 : Array Bool := #[true, true, true, false, true, false, true, true, true, false, true, false, false, false, false, false]
def mz4_21 : Array Bool := #[true, true, true, false, true, false, true, true, true, false, true, true, false, false, false, false]
def mz4_22 : Array Bool := #[true, true, true, false, true, false, true, true, true, false, true, true, true, false, false, false]
def mz4_23 : Array Bool := #[true, true, true, true, true, false, true, true, true, false, true, true, true, false, false, false]
def mz4_24 : Array Bool := #[true, true, true, true, true, true, true, true, true, false, true, true, true, false, false, false]
def mz4_25 : Array Bool := az_z4 13 3
def mz4_26 : Array Bool := az_z4 14 2
def mz4_27 : Array Bool := az_z4 15 1
def mz4_28 : Array Bool := az_z4 16 0
theorem pu_z4 {P : Program} {ops : Array Oper} {Q : Exit → Act → World → Prop} {md : Region.Mode} {S : World → Prop} {ds : List Nat} {oi : Oper} {fuel : Nat} {l : Array Bool} {a : Act} {w : World} (i : Nat) (N : Option Tmp) (v : Value) (l' : Array Bool) (hi : ops[i]? = some oi) (hN : oi.dst = N) (hc : anyB md ops l l' i = true)
    (hQ : ∀ c a w, Q (.panic c) (a.put oi.dst v) w → Q (.panic c) a w) (hy : Yields P ops oi v a) (a' : Act) (ha : a.put N v = a')
    (h : wpAnyLast P md ops Q S ds fuel l' a' w) : wpAnyLast P md ops Q S ds (fuel + 1) l a w := pure_ l' hi hN hc hQ hy ha h
theorem pq_z4 : (∀ (l : List Value) (i : Nat) (v : Value), l.toArray.setIfInBounds i v = (l.set i v).toArray) ∧ (∀ (x v : Value) (xs : List Value), (x :: xs).set 0 v = v :: xs) ∧ (∀ (x v : Value) (xs : List Value) (n : Nat), (x :: xs).set (n + 1) v = x :: xs.set n v) ∧ (∀ n : Int, IntKind.i64.wrap n = Go.RowKit.wrap64 n) ∧ (∀ n : Int, IntKind.i32.wrap n = Go.RowKit.wrap32 n) :=
  ⟨fun l i v => List.setIfInBounds_toArray l i v, fun _ _ _ => rfl, fun _ _ _ _ => rfl, i64_w, i32_w⟩
set_option maxHeartbeats 8000000 in
set_option maxRecDepth 100000 in
theorem laws_FnHoles.calls (k : Nat) (A0 : Option Addr) (c0 : Nat) (l0 : List Int) (r : Bool) (w : World) (hr0 : Kd.C (Kd.int .u8) w A0 l0.length l0) (hc0 : l0.length ≤ c0) (h : laws_FnHoles.f k l0 = some r) :
  Calls Try.prog 4 #[.slice A0 l0.length c0] w fun e w' => e = .returned (.bool r) ∧ Below w.heap.size w w' := by
 have hu26 := Try.underlying26
 have hu29 := Try.underlying29
 have HR0 := Aside0.mk hr0
 have HC0 := Aside0.mk hc0
 clear hr0 hc0
 have HB := Aside0.mk (Below.refl w.heap.size w)
 have H : (if (l0.length : Int) > 1048576 then (some true) else ((spec_A8Tree.f k l0).bind fun bt421 => ((laws_a8Mix.f 2 l0).bind fun t428 => ((spec_A8Rule.f t428 bt421.1 bt421.2).bind fun bt431 => ((laws_a8At.f l0 0 7).bind fun t436 => ((laws_a8At.f l0 1 (bt421.1.length : Int)).bind fun t437 => (if 0 ≤ t437 then (if t437 < (bt421.1.length : Int) then ((spec_A8Number.f k l0).bind fun t439 => ((impl_Place.f k bt421.1 bt421.2 bt431.1 bt431.2.1 bt431.2.2.1 true t439 (wrap64 (1 + t436)) ([] : List Int)).bind fun bt440 => ((impl_Place.f k bt421.1 bt421.2 bt431.1 bt431.2.1 bt431.2.2.1 true t439 (wrap64 (1 + t436)) (([(rd_T34 bt421.1 t437).f0] : List Int))).bind fun bt447 => ((impl_PlaceWhole.f k bt421.1 bt421.2 bt431.1 bt431.2.1 bt431.2.2.1 true t439 (wrap64 (1 + t436))).bind fun bt451 => (if bt440.2 = true then (if bt447.2 = true then (if bt451.2 = true then (if (bt440.1.length : Int) = (wrap64 (1 + t436)) then (if (bt447.1.length : Int) = (wrap64 (1 + t436)) then ((laws_a8Same.f k bt440.1 bt451.1).bind fun t455 => (laws_FnHoles.j0 k (wrap64 (1 + t436)) ((rd_T34 bt421.1 t437).f0) bt440.1 bt447.1 (!t455))) else (laws_FnHoles.j0 k (wrap64 (1 + t436)) ((rd_T34 bt421.1 t437).f0) bt440.1 bt447.1 true)) else (laws_FnHoles.j0 k (wrap64 (1 + t436)) ((rd_T34 bt421.1 t437).f0) bt440.1 bt447.1 true)) else (laws_FnHoles.j0 k (wrap64 (1 + t436)) ((rd_T34 bt421.1 t437).f0) bt440.1 bt447.1 true)) else (laws_FnHoles.j0 k (wrap64 (1 + t436)) ((rd_T34 bt421.1 t437).f0) bt440.1 bt447.1 true)) else (laws_FnHoles.j0 k (wrap64 (1 + t436)) ((rd_T34 bt421.1 t437).f0) bt440.1 bt447.1 true)))))) else (none)) else (none)))))))) = some r := h
 clear h
 by_cases c2 : (l0.length : Int) > 1048576
 ·rw [if_pos c2] at H
  have c2b0 : decide (1048576 < (l0.length : Int)) = true := decide_eq_true c2
  have c2b1 : decide (1048576 < l0.length) = true := decide_eq_true (by omega)
  clear c2
  obtain rfl := Option.some.inj H
  go_enter Try.func4, Try.ntmps4
  go_wp2
  go_ret
  exact ⟨by first | rfl | (simp [*, errW_none, errW_some] <;> rfl), by repeat first | exact HB.out | apply below_alloc | apply pw_below_drewN | apply below_drew1⟩
 ·rw [if_neg c2] at H
  have c2b0 : decide (1048576 < (l0.length : Int)) = false := decide_eq_false c2
  have c2b1 : decide (1048576 < l0.length) = false := decide_eq_false (by omega)
  clear c2
  replace H := Option.bind_eq_some_iff.mp H
  obtain ⟨⟨t421, t424⟩, A30, H⟩ := H
  replace H : ((laws_a8Mix.f 2 l0).bind fun t428 => ((spec_A8Rule.f t428 t421 t424).bind fun bt431 => ((laws_a8At.f l0 0 7).bind fun t436 => ((laws_a8At.f l0 1 (t421.length : Int)).bind fun t437 => (if 0 ≤ t437 then (if t437 < (t421.length : Int) then ((spec_A8Number.f k l0).bind fun t439 => ((impl_Place.f k t421 t424 bt431.1 bt431.2.1 bt431.2.2.1 true t439 (wrap64 (1 + t436)) ([] : List Int)).bind fun bt440 => ((impl_Place.f k t421 t424 bt431.1 bt431.2.1 bt431.2.2.1 true t439 (wrap64 (1 + t436)) (([(rd_T34 t421 t437).f0] : List Int))).bind fun bt447 => ((impl_PlaceWhole.f k t421 t424 bt431.1 bt431.2.1 bt431.2.2.1 true t439 (wrap64 (1 + t436))).bind fun bt451 => (if bt440.2 = true then (if bt447.2 = true then (if bt451.2 = true then (if (bt440.1.length : Int) = (wrap64 (1 + t436)) then (if (bt447.1.length : Int) = (wrap64 (1 + t436)) then ((laws_a8Same.f k bt440.1 bt451.1).bind fun t455 => (laws_FnHoles.j0 k (wrap64 (1 + t436)) ((rd_T34 t421 t437).f0) bt440.1 bt447.1 (!t455))) else (laws_FnHoles.j0 k (wrap64 (1 + t436)) ((rd_T34 t421 t437).f0) bt440.1 bt447.1 true)) else (laws_FnHoles.j0 k (wrap64 (1 + t436)) ((rd_T34 t421 t437).f0) bt440.1 bt447.1 true)) else (laws_FnHoles.j0 k (wrap64 (1 + t436)) ((rd_T34 t421 t437).f0) bt440.1 bt447.1 true)) else (laws_FnHoles.j0 k (wrap64 (1 + t436)) ((rd_T34 t421 t437).f0) bt440.1 bt447.1 true)) else (laws_FnHoles.j0 k (wrap64 (1 + t436)) ((rd_T34 t421 t437).f0) bt440.1 bt447.1 true)))))) else (none)) else (none)))))) = some r := H
  have A3 := Aside0.mk A30
  clear A30
  replace H := Option.bind_eq_some_iff.mp H
  obtain ⟨t428, A40, H⟩ := H
  replace H : ((spec_A8Rule.f t428 t421 t424).bind fun bt431 => ((laws_a8At.f l0 0 7).bind fun t436 => ((laws_a8At.f l0 1 (t421.length : Int)).bind fun t437 => (if 0 ≤ t437 then (if t437 < (t421.length : Int) then ((spec_A8Number.f k l0).bind fun t439 => ((impl_Place.f k t421 t424 bt431.1 bt431.2.1 bt431.2.2.1 true t439 (wrap64 (1 + t436)) ([] : List Int)).bind fun bt440 => ((impl_Place.f k t421 t424 bt431.1 bt431.2.1 bt431.2.2.1 true t439 (wrap64 (1 + t436)) (([(rd_T34 t421 t437).f0] : List Int))).bind fun bt447 => ((impl_PlaceWhole.f k t421 t424 bt431.1 bt431.2.1 bt431.2.2.1 true t439 (wrap64 (1 + t436))).bind fun bt451 => (if bt440.2 = true then (if bt447.2 = true then (if bt451.2 = true then (if (bt440.1.length : Int) = (wrap64 (1 + t436)) then (if (bt447.1.length : Int) = (wrap64 (1 + t436)) then ((laws_a8Same.f k bt440.1 bt451.1).bind fun t455 => (laws_FnHoles.j0 k (wrap64 (1 + t436)) ((rd_T34 t421 t437).f0) bt440.1 bt447.1 (!t455))) else (laws_FnHoles.j0 k (wrap64 (1 + t436)) ((rd_T34 t421 t437).f0) bt440.1 bt447.1 true)) else (laws_FnHoles.j0 k (wrap64 (1 + t436)) ((rd_T34 t421 t437).f0) bt440.1 bt447.1 true)) else (laws_FnHoles.j0 k (wrap64 (1 + t436)) ((rd_T34 t421 t437).f0) bt440.1 bt447.1 true)) else (laws_FnHoles.j0 k (wrap64 (1 + t436)) ((rd_T34 t421 t437).f0) bt440.1 bt447.1 true)) else (laws_FnHoles.j0 k (wrap64 (1 + t436)) ((rd_T34 t421 t437).f0) bt440.1 bt447.1 true)))))) else (none)) else (none))))) = some r := H
  have A4 := Aside0.mk A40
  clear A40
  replace H := Option.bind_eq_some_iff.mp H
  obtain ⟨⟨t431, t432, t433, t434⟩, A50, H⟩ := H
  replace H : ((laws_a8At.f l0 0 7).bind fun t436 => ((laws_a8At.f l0 1 (t421.length : Int)).bind fun t437 => (if 0 ≤ t437 then (if t437 < (t421.length : Int) then ((spec_A8Number.f k l0).bind fun t439 => ((impl_Place.f k t421 t424 t431 t432 t433 true t439 (wrap64 (1 + t436)) ([] : List Int)).bind fun bt440 => ((impl_Place.f k t421 t424 t431 t432 t433 true t439 (wrap64 (1 + t436)) (([(rd_T34 t421 t437).f0] : List Int))).bind fun bt447 => ((impl_PlaceWhole.f k t421 t424 t431 t432 t433 true t439 (wrap64 (1 + t436))).bind fun bt451 => (if bt440.2 = true then (if bt447.2 = true then (if bt451.2 = true then (if (bt440.1.length : Int) = (wrap64 (1 + t436)) then (if (bt447.1.length : Int) = (wrap64 (1 + t436)) then ((laws_a8Same.f k bt440.1 bt451.1).bind fun t455 => (laws_FnHoles.j0 k (wrap64 (1 + t436)) ((rd_T34 t421 t437).f0) bt440.1 bt447.1 (!t455))) else (laws_FnHoles.j0 k (wrap64 (1 + t436)) ((rd_T34 t421 t437).f0) bt440.1 bt447.1 true)) else (laws_FnHoles.j0 k (wrap64 (1 + t436)) ((rd_T34 t421 t437).f0) bt440.1 bt447.1 true)) else (laws_FnHoles.j0 k (wrap64 (1 + t436)) ((rd_T34 t421 t437).f0) bt440.1 bt447.1 true)) else (laws_FnHoles.j0 k (wrap64 (1 + t436)) ((rd_T34 t421 t437).f0) bt440.1 bt447.1 true)) else (laws_FnHoles.j0 k (wrap64 (1 + t436)) ((rd_T34 t421 t437).f0) bt440.1 bt447.1 true)))))) else (none)) else (none)))) = some r := H
  have A5 := Aside0.mk A50
  clear A50
  replace H := Option.bind_eq_some_iff.mp H
  obtain ⟨t436, A60, H⟩ := H
  replace H : ((laws_a8At.f l0 1 (t421.length : Int)).bind fun t437 => (if 0 ≤ t437 then (if t437 < (t421.length : Int) then ((spec_A8Number.f k l0).bind fun t439 => ((impl_Place.f k t421 t424 t431 t432 t433 true t439 (wrap64 (1 + t436)) ([] : List Int)).bind fun bt440 => ((impl_Place.f k t421 t424 t431 t432 t433 true t439 (wrap64 (1 + t436)) (([(rd_T34 t421 t437).f0] : List Int))).bind fun bt447 => ((impl_PlaceWhole.f k t421 t424 t431 t432 t433 true t439 (wrap64 (1 + t436))).bind fun bt451 => (if bt440.2 = true then (if bt447.2 = true then (if bt451.2 = true then (if (bt440.1.length : Int) = (wrap64 (1 + t436)) then (if (bt447.1.length : Int) = (wrap64 (1 + t436)) then ((laws_a8Same.f k bt440.1 bt451.1).bind fun t455 => (laws_FnHoles.j0 k (wrap64 (1 + t436)) ((rd_T34 t421 t437).f0) bt440.1 bt447.1 (!t455))) else (laws_FnHoles.j0 k (wrap64 (1 + t436)) ((rd_T34 t421 t437).f0) bt440.1 bt447.1 true)) else (laws_FnHoles.j0 k (wrap64 (1 + t436)) ((rd_T34 t421 t437).f0) bt440.1 bt447.1 true)) else (laws_FnHoles.j0 k (wrap64 (1 + t436)) ((rd_T34 t421 t437).f0) bt440.1 bt447.1 true)) else (laws_FnHoles.j0 k (wrap64 (1 + t436)) ((rd_T34 t421 t437).f0) bt440.1 bt447.1 true)) else (laws_FnHoles.j0 k (wrap64 (1 + t436)) ((rd_T34 t421 t437).f0) bt440.1 bt447.1 true)))))) else (none)) else (none))) = some r := H
  have A6 := Aside0.mk A60
  clear A60
  replace H := Option.bind_eq_some_iff.mp H
  obtain ⟨t437, A70, H⟩ := H
  replace H : (if 0 ≤ t437 then (if t437 < (t421.length : Int) then ((spec_A8Number.f k l0).bind fun t439 => ((impl_Place.f k t421 t424 t431 t432 t433 true t439 (wrap64 (1 + t436)) ([] : List Int)).bind fun bt440 => ((impl_Place.f k t421 t424 t431 t432 t433 true t439 (wrap64 (1 + t436)) (([(rd_T34 t421 t437).f0] : List Int))).bind fun bt447 => ((impl_PlaceWhole.f k t421 t424 t431 t432 t433 true t439 (wrap64 (1 + t436))).bind fun bt451 => (if bt440.2 = true then (if bt447.2 = true then (if bt451.2 = true then (if (bt440.1.length : Int) = (wrap64 (1 + t436)) then (if (bt447.1.length : Int) = (wrap64 (1 + t436)) then ((laws_a8Same.f k bt440.1 bt451.1).bind fun t455 => (laws_FnHoles.j0 k (wrap64 (1 + t436)) ((rd_T34 t421 t437).f0) bt440.1 bt447.1 (!t455))) else (laws_FnHoles.j0 k (wrap64 (1 + t436)) ((rd_T34 t421 t437).f0) bt440.1 bt447.1 true)) else (laws_FnHoles.j0 k (wrap64 (1 + t436)) ((rd_T34 t421 t437).f0) bt440.1 bt447.1 true)) else (laws_FnHoles.j0 k (wrap64 (1 + t436)) ((rd_T34 t421 t437).f0) bt440.1 bt447.1 true)) else (laws_FnHoles.j0 k (wrap64 (1 + t436)) ((rd_T34 t421 t437).f0) bt440.1 bt447.1 true)) else (laws_FnHoles.j0 k (wrap64 (1 + t436)) ((rd_T34 t421 t437).f0) bt440.1 bt447.1 true)))))) else (none)) else (none)) = some r := H
  have A7 := Aside0.mk A70
  clear A70
  by_cases c8 : 0 ≤ t437
  ·rw [if_pos c8] at H
   have c8b0 : decide (0 ≤ t437) = true := decide_eq_true c8
   clear c8
   by_cases c9 : t437 < (t421.length : Int)
   ·rw [if_pos c9] at H
    have c9b0 : decide (t437 < (t421.length : Int)) = true := decide_eq_true c9
    clear c9
    replace H := Option.bind_eq_some_iff.mp H
    obtain ⟨t439, A100, H⟩ := H
    replace H : ((impl_Place.f k t421 t424 t431 t432 t433 true t439 (wrap64 (1 + t436)) ([] : List Int)).bind fun bt440 => ((impl_Place.f k t421 t424 t431 t432 t433 true t439 (wrap64 (1 + t436)) (([(rd_T34 t421 t437).f0] : List Int))).bind fun bt447 => ((impl_PlaceWhole.f k t421 t424 t431 t432 t433 true t439 (wrap64 (1 + t436))).bind fun bt451 => (if bt440.2 = true then (if bt447.2 = true then (if bt451.2 = true then (if (bt440.1.length : Int) = (wrap64 (1 + t436)) then (if (bt447.1.length : Int) = (wrap64 (1 + t436)) then ((laws_a8Same.f k bt440.1 bt451.1).bind fun t455 => (laws_FnHoles.j0 k (wrap64 (1 + t436)) ((rd_T34 t421 t437).f0) bt440.1 bt447.1 (!t455))) else (laws_FnHoles.j0 k (wrap64 (1 + t436)) ((rd_T34 t421 t437).f0) bt440.1 bt447.1 true)) else (laws_FnHoles.j0 k (wrap64 (1 + t436)) ((rd_T34 t421 t437).f0) bt440.1 bt447.1 true)) else (laws_FnHoles.j0 k (wrap64 (1 + t436)) ((rd_T34 t421 t437).f0) bt440.1 bt447.1 true)) else (laws_FnHoles.j0 k (wrap64 (1 + t436)) ((rd_T34 t421 t437).f0) bt440.1 bt447.1 true)) else (laws_FnHoles.j0 k (wrap64 (1 + t436)) ((rd_T34 t421 t437).f0) bt440.1 bt447.1 true))))) = some r := H
    have A10 := Aside0.mk A100
    clear A100
    replace H := Option.bind_eq_some_iff.mp H
    obtain ⟨⟨t440, t443⟩, A110, H⟩ := H
    replace H : ((impl_Place.f k t421 t424 t431 t432 t433 true t439 (wrap64 (1 + t436)) (([(rd_T34 t421 t437).f0] : List Int))).bind fun bt447 => ((impl_PlaceWhole.f k t421 t424 t431 t432 t433 true t439 (wrap64 (1 + t436))).bind fun bt451 => (if t443 = true then (if bt447.2 = true then (if bt451.2 = true then (if (t440.length : Int) = (wrap64 (1 + t436)) then (if (bt447.1.length : Int) = (wrap64 (1 + t436)) then ((laws_a8Same.f k t440 bt451.1).bind fun t455 => (laws_FnHoles.j0 k (wrap64 (1 + t436)) ((rd_T34 t421 t437).f0) t440 bt447.1 (!t455))) else (laws_FnHoles.j0 k (wrap64 (1 + t436)) ((rd_T34 t421 t437).f0) t440 bt447.1 true)) else (laws_FnHoles.j0 k (wrap64 (1 + t436)) ((rd_T34 t421 t437).f0) t440 bt447.1 true)) else (laws_FnHoles.j0 k (wrap64 (1 + t436)) ((rd_T34 t421 t437).f0) t440 bt447.1 true)) else (laws_FnHoles.j0 k (wrap64 (1 + t436)) ((rd_T34 t421 t437).f0) t440 bt447.1 true)) else (laws_FnHoles.j0 k (wrap64 (1 + t436)) ((rd_T34 t421 t437).f0) t440 bt447.1 true)))) = some r := H
    have A11 := Aside0.mk A110
    clear A110
    obtain ⟨y444, hy444⟩ : ∃ y_ : List Int, y_ = (([(rd_T34 t421 t437).f0] : List Int)) := ⟨_, rfl⟩
    replace H : ((impl_Place.f k t421 t424 t431 t432 t433 true t439 (wrap64 (1 + t436)) y444).bind fun bt447 => ((impl_PlaceWhole.f k t421 t424 t431 t432 t433 true t439 (wrap64 (1 + t436))).bind fun bt451 => (if t443 = true then (if bt447.2 = true then (if bt451.2 = true then (if (t440.length : Int) = (wrap64 (1 + t436)) then (if (bt447.1.length : Int) = (wrap64 (1 + t436)) then ((laws_a8Same.f k t440 bt451.1).bind fun t455 => (laws_FnHoles.j0 k (wrap64 (1 + t436)) ((rd_T34 t421 t437).f0) t440 bt447.1 (!t455))) else (laws_FnHoles.j0 k (wrap64 (1 + t436)) ((rd_T34 t421 t437).f0) t440 bt447.1 true)) else (laws_FnHoles.j0 k (wrap64 (1 + t436)) ((rd_T34 t421 t437).f0) t440 bt447.1 true)) else (laws_FnHoles.j0 k (wrap64 (1 + t436)) ((rd_T34 t421 t437).f0) t440 bt447.1 true)) else (laws_FnHoles.j0 k (wrap64 (1 + t436)) ((rd_T34 t421 t437).f0) t440 bt447.1 true)) else (laws_FnHoles.j0 k (wrap64 (1 + t436)) ((rd_T34 t421 t437).f0) t440 bt447.1 true)))) = some r := by first | (rw [hy444]; with_reducible exact H) | (have H2_ := (Option.bind_some _ _).symm.trans H; rw [hy444]; with_reducible exact H2_) | (have H2_ := (Option.bind_some _ _).symm.trans H; with_reducible exact H2_) | with_reducible exact H | (rw [hy444]; exact H) | exact H
    have Ny444 := Aside0.mk hy444
    clear hy444
    replace H := Option.bind_eq_some_iff.mp H
    obtain ⟨⟨t447, t450⟩, A120, H⟩ := H
    replace H : ((impl_PlaceWhole.f k t421 t424 t431 t432 t433 true t439 (wrap64 (1 + t436))).bind fun bt451 => (if t443 = true then (if t450 = true then (if bt451.2 = true then (if (t440.length : Int) = (wrap64 (1 + t436)) then (if (t447.length : Int) = (wrap64 (1 + t436)) then ((laws_a8Same.f k t440 bt451.1).bind fun t455 => (laws_FnHoles.j0 k (wrap64 (1 + t436)) ((rd_T34 t421 t437).f0) t440 t447 (!t455))) else (laws_FnHoles.j0 k (wrap64 (1 + t436)) ((rd_T34 t421 t437).f0) t440 t447 true)) else (laws_FnHoles.j0 k (wrap64 (1 + t436)) ((rd_T34 t421 t437).f0) t440 t447 true)) else (laws_FnHoles.j0 k (wrap64 (1 + t436)) ((rd_T34 t421 t437).f0) t440 t447 true)) else (laws_FnHoles.j0 k (wrap64 (1 + t436)) ((rd_T34 t421 t437).f0) t440 t447 true)) else (laws_FnHoles.j0 k (wrap64 (1 + t436)) ((rd_T34 t421 t437).f0) t440 t447 true))) = some r := H
    have A12 := Aside0.mk A120
    clear A120
    replace H := Option.bind_eq_some_iff.mp H
    obtain ⟨⟨t451, t454⟩, A130, H⟩ := H
    replace H : (if t443 = true then (if t450 = true then (if t454 = true then (if (t440.length : Int) = (wrap64 (1 + t436)) then (if (t447.length : Int) = (wrap64 (1 + t436)) then ((laws_a8Same.f k t440 t451).bind fun t455 => (laws_FnHoles.j0 k (wrap64 (1 + t436)) ((rd_T34 t421 t437).f0) t440 t447 (!t455))) else (laws_FnHoles.j0 k (wrap64 (1 + t436)) ((rd_T34 t421 t437).f0) t440 t447 true)) else (laws_FnHoles.j0 k (wrap64 (1 + t436)) ((rd_T34 t421 t437).f0) t440 t447 true)) else (laws_FnHoles.j0 k (wrap64 (1 + t436)) ((rd_T34 t421 t437).f0) t440 t447 true)) else (laws_FnHoles.j0 k (wrap64 (1 + t436)) ((rd_T34 t421 t437).f0) t440 t447 true)) else (laws_FnHoles.j0 k (wrap64 (1 + t436)) ((rd_T34 t421 t437).f0) t440 t447 true)) = some r := H
    have A13 := Aside0.mk A130
    clear A130
    have HC14 := Aside0.mk H
    clear H
    go_enter Try.func4, Try.ntmps4
    try go_wp2_with (first | ((with_reducible refine gate_callee (f := 6) rfl ?_); refine goesL_ (some 19) rfl rfl Try.func6 (by kernel_rfl) rfl #[.slice A0 l0.length c0] rfl (by (try simp only [List.map_toArray, List.map_cons, List.map_nil]); first | done | rfl | (simp only [List.length_drop, List.length_take]; rfl)) ?_; (with_reducible refine (spec_A8Tree.calls k _ _ l0 t421 t424 _ ?side1 ?side2 A3.out).mono ?_); (case side1 => repeat (first | exact HR0.out | (with_reducible refine Kd.C_alloc ?_ _) | (with_reducible refine Kd.C_drewN ?_ _) | (with_reducible refine Kd.C_drew ?_))); (case side2 => exact HC0.out); rintro e w15 ⟨v422, v425, rfl, ho0, ho1, hb⟩; refine ⟨_, rfl, ?_⟩; have n0_ := Aside0.mk (Kd.R_lower ho0 (below_size (by repeat first | exact HB.out | apply below_alloc | apply pw_below_drewN | apply below_drew1))); have n1_ := Aside0.mk (Kd.S_lower ho1 (below_size (by repeat first | exact HB.out | apply below_alloc | apply pw_below_drewN | apply below_drew1))); have n2_ := Aside0.mk (below_step (by repeat first | exact HB.out | apply below_alloc | apply pw_below_drewN | apply below_drew1) hb); clear HB; have HO423 := n0_; have HO426 := n1_; have HB := n2_; clear n0_ n1_ n2_; (try clear hb); (try clear hb2); (try clear hk); (try clear hi); (try clear ho0); (try clear ho1)) | ((with_reducible refine gate_dst (N := 3) rfl ?_); refine box_event ?hg (N := 3) ?hd (cs := #[.slice none 0 0, .slice none 0 0]) (t := 26) ?hr ?_; (case hd => rfl); (case hg => rfl); (case hr => first | (go_simp; done) | (go_simp; rfl)); intro gb427 hg w16 hbox hb; have n0_ := Aside0.mk (Kd.R_below (by (with_reducible repeat (first | apply Kd.R_alloc | apply Kd.R_drewN | apply Kd.R_drew)); exact HO423.out) hb); have n1_ := Aside0.mk (Kd.S_below (by (with_reducible repeat (first | apply Kd.S_alloc | apply Kd.S_drewN | apply Kd.S_drew)); exact HO426.out) hb); have n2_ := Aside0.mk (below_step (by repeat first | exact HB.out | apply below_alloc | apply pw_below_drewN | apply below_drew1) hb); have n3_ := Aside0.mk (hbox); have n4_ := Aside0.mk ((by rw [hg]; exact (below_size (by repeat first | exact HB.out | apply below_alloc | apply pw_below_drewN | apply below_drew1)) : w.heap.size ≤ gb427)); have n5_ := Aside0.mk ((by rw [hg]; exact (below_size (by repeat first | exact HB.out | apply below_alloc | apply pw_below_drewN | apply below_drew1)) : w.heap.size ≤ gb427)); clear HO423; clear HO426; clear HB; have HO423 := n0_; have HO426 := n1_; have HB := n2_; have BK427 := n3_; have GW427 := n4_; have GE427 := n5_; clear n0_ n1_ n2_ n3_ n4_ n5_; clear hb hbox hg; obtain ⟨Ao17, co17, eo17⟩ := Kd.R_slice HO423.out; subst eo17; have hcz18_0 : w16.cell? ⟨gb427, 0, none⟩ = some (.slice none 0 0) := (blk_cell BK427.out 0).trans rfl; have hcz18_1 : w16.cell? ⟨gb427, 1, none⟩ = some (.slice none 0 0) := (blk_cell BK427.out 1).trans rfl; have hfz18_0 := blk_frozen BK427.out 0; have hfz18_1 := blk_frozen BK427.out 1; obtain ⟨Ao19, co19, eo19⟩ := Kd.S_slice HO426.out; subst eo19))
    have n0_ : Aside0 (Kd.R k34 34 ((w16.setCell ⟨gb427, 0, none⟩ (.slice Ao17 t421.length co17)).setCell ⟨gb427, 1, none⟩ (.slice Ao19 t424.length co19)) w.heap.size (fun _ => True) (.slice Ao17 t421.length co17) t421) := ⟨by (with_reducible repeat (first | apply Kd.R_alloc | apply Kd.R_drewN | apply Kd.R_drew)); exact Kd.R_mono (Kd.R_far (p := ⟨gb427, 1, none⟩) (Kd.R_far (p := ⟨gb427, 0, none⟩) (Kd.R_types HO423.out BK427.out (by decide)) (fun _ hk => hk.2) (.slice Ao17 t421.length co17)) (fun _ hk => hk.2) (.slice Ao19 t424.length co19)) (fun _ hk => trivial)⟩
    have n1_ : Aside0 (Kd.S k70 70 ((w16.setCell ⟨gb427, 0, none⟩ (.slice Ao17 t421.length co17)).setCell ⟨gb427, 1, none⟩ (.slice Ao19 t424.length co19)) w.heap.size (fun _ => True) (.slice Ao19 t424.length co19) t424) := ⟨by (with_reducible repeat (first | apply Kd.S_alloc | apply Kd.S_drewN | apply Kd.S_drew)); exact Kd.S_mono (Kd.S_far (p := ⟨gb427, 1, none⟩) (Kd.S_far (p := ⟨gb427, 0, none⟩) (Kd.S_types HO426.out BK427.out (by decide)) (fun _ hk => hk.2) (.slice Ao17 t421.length co17)) (fun _ hk => hk.2) (.slice Ao19 t424.length co19)) (fun _ hk => trivial)⟩
    have n2_ : Aside0 (((w16.setCell ⟨gb427, 0, none⟩ (.slice Ao17 t421.length co17)).setCell ⟨gb427, 1, none⟩ (.slice Ao19 t424.length co19)).heap[gb427]? = some (.cells #[.slice Ao17 t421.length co17, .slice Ao19 t424.length co19] 26 (0, 0))) := ⟨by (with_reducible repeat first | apply blk_drewN | apply blk_drew | apply blk_alloc); refine blk_put (cs := #[.slice Ao17 t421.length co17, .slice none 0 0]) ?_ 1 _ rfl; (with_reducible repeat first | apply blk_drewN | apply blk_drew | apply blk_alloc); refine blk_put (cs := #[.slice none 0 0, .slice none 0 0]) ?_ 0 _ rfl; (with_reducible repeat first | apply blk_drewN | apply blk_drew | apply blk_alloc); exact BK427.out⟩
    have n3_ : Aside0 (Below w.heap.size w ((w16.setCell ⟨gb427, 0, none⟩ (.slice Ao17 t421.length co17)).setCell ⟨gb427, 1, none⟩ (.slice Ao19 t424.length co19))) := ⟨by repeat (first | (with_reducible first | exact HB.out | apply below_alloc | apply pw_below_drewN | apply below_drew1 | refine below_set ?_ GE427.out) | exact HB.out)⟩
    (try clear HO423)
    (try clear HO426)
    (try clear BK427)
    (try clear HB)
    generalize ((w16.setCell ⟨gb427, 0, none⟩ (.slice Ao17 t421.length co17)).setCell ⟨gb427, 1, none⟩ (.slice Ao19 t424.length co19)) = w20 at n0_ n1_ n2_ n3_ ⊢
    have HO423 := n0_
    have HO426 := n1_
    have BK427 := n2_
    have HB := n3_
    clear n0_ n1_ n2_ n3_
    have n0_ := Aside0.mk (Kd.R_drew HO423.out)
    have n1_ := Aside0.mk (Kd.S_drew HO426.out)
    have n2_ := Aside0.mk (blk_drew BK427.out)
    have n3_ := Aside0.mk (below_drew1 HB.out)
    clear HO423
    clear HO426
    clear BK427
    clear HB
    have HO423 := n0_
    have HO426 := n1_
    have BK427 := n2_
    have HB := n3_
    clear n0_ n1_ n2_ n3_
    refine start_ (n := 6) (S := fun w' => w'.cell? ⟨gb427, 0, none⟩ = some (.slice Ao17 t421.length co17) ∧ w'.cell? ⟨gb427, 1, none⟩ = some (.slice Ao19 t424.length co19)) (ds := []) #[false, false, false, false, false, false] (by kernel_rfl) rfl rfl ⟨(blk_cell BK427.out 0).trans rfl, (blk_cell BK427.out 1).trans rfl⟩ (fun hHeld => ?_)
    generalize w20.drew = w21 at HO423 HO426 BK427 HB hHeld ⊢
    refine pu_z4 0 (some 20) ?_ #[true, false, false, false, false, false] rfl rfl (by kernel_rfl) (fun _ _ _ h => h) (Or.inl ⟨by rfl, ?_⟩) ?_ ?_ ?_
    (rotate_left; ·(intro w'; go_simp; with_reducible rfl)); (rotate_left; ·(simp only [Act.put, pq_z4]; rfl))
    refine take_ (i := 2) (N := some 22) (v := ?_) (a' := ?_) #[true, false, true, false, false, false] rfl rfl (by kernel_rfl) (fun _ _ _ h => h) (Or.inl ⟨by rfl, ?_⟩) hHeld ?_ ?_
    (rotate_left; ·(rintro w' ⟨s0, s1⟩; go_simp; with_reducible rfl)); (rotate_left; ·(simp only [Act.put, pq_z4]; rfl))
    refine join_ (σ := Value × Nat) 1 #[true, true, true, true, true, false] (fun s_ => [(21, s_.1), (23, .agg #[.int .i64 t431, .int .i64 t432, .int .i64 t433, .bool t434]), (4, .pointer (some ⟨s_.2, 0, none⟩))]) (fun s_ w' => (w'.cell? ⟨gb427, 0, none⟩ = some (.slice Ao17 t421.length co17) ∧ w'.cell? ⟨gb427, 1, none⟩ = some (.slice Ao19 t424.length co19)) ∧ (Kd.R k34 34 w' w.heap.size (fun _ => True) (.slice Ao17 t421.length co17) t421) ∧ (Kd.S k70 70 w' w.heap.size (fun _ => True) (.slice Ao19 t424.length co19) t424) ∧ (Kd.R (Kd.int .u8) 5 w' w.heap.size (fun _ => True) s_.1 t428) ∧ (w'.heap[gb427]? = some (.cells #[.slice Ao17 t421.length co17, .slice Ao19 t424.length co19] 26 (0, 0))) ∧ (w'.heap[s_.2]? = some (.cells #[.int .i64 0, .int .i64 0, .int .i64 0, .bool false] 29 (0, 0))) ∧ (w.heap.size ≤ s_.2) ∧ (w.heap.size ≤ s_.2) ∧ (gb427 ≠ s_.2) ∧ (s_.2 ≠ gb427) ∧ (Below w.heap.size w w')) ?_ ?_
    rotate_left
    ·intro hCont
     refine two_ (i := 1) (j := 4) (Ni := some 21) (Nj := some 4) #[true, true, true, false, false, false] #[true, false, true, false, true, false] rfl rfl rfl rfl (by kernel_rfl) (by decide) (by decide) (fun K hK => ?_) (fun K hK => ?_)
     ·skip
      refine goes_ Try.func8 (by kernel_rfl) rfl #[.int .i64 2, .slice A0 l0.length c0] (by rfl) rfl rfl (by (try simp only [List.map_toArray, List.map_cons, List.map_nil]); first | done | rfl | (simp only [List.length_drop, List.length_take]; rfl)) ?_
      with_reducible refine (laws_a8Mix.calls 2 _ _ l0 t428 _ ?side1 ?side2 A4.out).mono ?_
      (case side1 => repeat (first | exact (Kd.C_below HR0.out HB.out) | (with_reducible refine Kd.C_alloc ?_ _) | (with_reducible refine Kd.C_drewN ?_ _) | (with_reducible refine Kd.C_drew ?_)))
      (case side2 => exact HC0.out)
      rintro e w22 ⟨v429, rfl, ho0, hb⟩
      refine ⟨_, rfl, ?_⟩
      have n0_ := Aside0.mk (Kd.R_below (by (with_reducible repeat (first | apply Kd.R_alloc | apply Kd.R_drewN | apply Kd.R_drew)); exact HO423.out) hb)
      have n1_ := Aside0.mk (Kd.S_below (by (with_reducible repeat (first | apply Kd.S_alloc | apply Kd.S_drewN | apply Kd.S_drew)); exact HO426.out) hb)
      have n2_ := Aside0.mk (Kd.R_lower ho0 (below_size (by repeat (first | (with_reducible first | exact HB.out | apply below_alloc | apply pw_below_drewN | apply below_drew1 | refine below_set ?_ GE427.out) | exact HB.out))))
      have n3_ := Aside0.mk (blk_below (g := gb427) (o := .cells #[.slice Ao17 t421.length co17, .slice Ao19 t424.length co19] 26 (0, 0)) (by (with_reducible repeat first | apply blk_drewN | apply blk_drew | apply blk_alloc); exact BK427.out) hb)
      have n4_ := Aside0.mk (below_step (by repeat (first | (with_reducible first | exact HB.out | apply below_alloc | apply pw_below_drewN | apply below_drew1 | refine below_set ?_ GE427.out) | exact HB.out)) hb)
      clear HO423
      clear HO426
      clear BK427
      clear HB
      have HO423 := n0_
      have HO426 := n1_
      have HO430 := n2_
      have BK427 := n3_
      have HB := n4_
      clear n0_ n1_ n2_ n3_ n4_
      (try clear hb)
      (try clear hb2)
      (try clear hk)
      (try clear hi)
      (try clear ho0)
      obtain ⟨Ao23, co23, eo23⟩ := Kd.R_slice HO430.out
      (first | subst eo23 | (injection eo23 with f1_ f2_ f3_; have f4_ := f1_.symm; have f5_ := f3_.symm; clear f1_ f2_ f3_; subst f4_; subst f5_))
      refine hK.out _ _ ⟨(blk_cell BK427.out 0).trans rfl, (blk_cell BK427.out 1).trans rfl⟩ (fun hHeld => ?_)
      clear hK K
      refine norm_ (a' := ?_) ?_ ?_
      (rotate_left; ·(show Act.put _ (some 21) _ = _; simp only [Act.put, pq_z4]; rfl))
      refine two_ (i := 3) (j := 4) (Ni := some 23) (Nj := some 4) #[true, true, true, true, false, false] #[true, true, true, false, true, false] rfl rfl rfl rfl (by kernel_rfl) (by decide) (by decide) (fun K hK => ?_) (fun K hK => ?_)
      ·skip
       refine goes_ Try.func7 (by kernel_rfl) rfl #[.slice Ao23 t428.length co23, .agg #[.slice Ao17 t421.length co17, .slice Ao19 t424.length co19]] (by rfl) rfl rfl (by (try simp only [List.map_toArray, List.map_cons, List.map_nil]); first | done | rfl | (simp only [List.length_drop, List.length_take]; rfl)) ?_
       with_reducible refine (spec_A8Rule.calls _ _ t428 _ _ t421 _ _ t424 t431 t432 t433 t434 _ ?side1 ?side2 ?side3 ?side4 ?side5 ?side6 A5.out).mono ?_
       (case side1 => repeat (first | exact (Kd.R_reads' HO430.out).2.2 | (with_reducible refine Kd.C_alloc ?_ _) | (with_reducible refine Kd.C_drewN ?_ _) | (with_reducible refine Kd.C_drew ?_)))
       (case side2 => exact (Kd.R_reads' HO430.out).2.1)
       (case side3 => repeat (first | exact (Kd.R_reads' HO423.out).2.2 | (with_reducible refine Kd.C_alloc ?_ _) | (with_reducible refine Kd.C_drewN ?_ _) | (with_reducible refine Kd.C_drew ?_)))
       (case side4 => exact (Kd.R_reads' HO423.out).2.1)
       (case side5 => repeat (first | exact (Kd.S_reads' HO426.out).2.2 | (with_reducible refine Kd.C_alloc ?_ _) | (with_reducible refine Kd.C_drewN ?_ _) | (with_reducible refine Kd.C_drew ?_)))
       (case side6 => exact (Kd.S_reads' HO426.out).2.1)
       rintro e w24 ⟨rfl, hb⟩
       refine ⟨_, rfl, ?_⟩
       have n0_ := Aside0.mk (Kd.R_below (by (with_reducible repeat (first | apply Kd.R_alloc | apply Kd.R_drewN | apply Kd.R_drew)); exact HO423.out) hb)
       have n1_ := Aside0.mk (Kd.S_below (by (with_reducible repeat (first | apply Kd.S_alloc | apply Kd.S_drewN | apply Kd.S_drew)); exact HO426.out) hb)
       have n2_ := Aside0.mk (Kd.R_below (by (with_reducible repeat (first | apply Kd.R_alloc | apply Kd.R_drewN | apply Kd.R_drew)); exact HO430.out) hb)
       have n3_ := Aside0.mk (blk_below (g := gb427) (o := .cells #[.slice Ao17 t421.length co17, .slice Ao19 t424.length co19] 26 (0, 0)) (by (with_reducible repeat first | apply blk_drewN | apply blk_drew | apply blk_alloc); exact BK427.out) hb)
       have n4_ := Aside0.mk (below_step (by repeat (first | (with_reducible first | exact HB.out | apply below_alloc | apply pw_below_drewN | apply below_drew1 | refine below_set ?_ GE427.out) | exact HB.out)) hb)
       clear HO423
       clear HO426
       clear HO430
       clear BK427
       clear HB
       have HO423 := n0_
       have HO426 := n1_
       have HO430 := n2_
       have BK427 := n3_
       have HB := n4_
       clear n0_ n1_ n2_ n3_ n4_
       (try clear hb)
       (try clear hb2)
       (try clear hk)
       (try clear hi)
       refine hK.out _ _ ⟨(blk_cell BK427.out 0).trans rfl, (blk_cell BK427.out 1).trans rfl⟩ (fun hHeld => ?_)
       clear hK K
       refine norm_ (a' := ?_) ?_ ?_
       (rotate_left; ·(show Act.put _ (some 23) _ = _; simp only [Act.put, pq_z4]; rfl))
       refine one_ (i := 4) (N := some 4) #[true, true, true, true, true, false] rfl rfl (by kernel_rfl) (by decide) (fun K hK => ?_)
       refine box_step ?hg (N := 4) ?hd (cs := #[.int .i64 0, .int .i64 0, .int .i64 0, .bool false]) (t := 29) ?hr ?_; (case hd => rfl); (case hg => rfl); (case hr => first | (go_simp; done) | (go_simp; rfl))
       intro gb435 hg w25 hbox hb
       have n0_ := Aside0.mk (Kd.R_below (by (with_reducible repeat (first | apply Kd.R_alloc | apply Kd.R_drewN | apply Kd.R_drew)); exact HO423.out) hb)
       have n1_ := Aside0.mk (Kd.S_below (by (with_reducible repeat (first | apply Kd.S_alloc | apply Kd.S_drewN | apply Kd.S_drew)); exact HO426.out) hb)
       have n2_ := Aside0.mk (Kd.R_below (by (with_reducible repeat (first | apply Kd.R_alloc | apply Kd.R_drewN | apply Kd.R_drew)); exact HO430.out) hb)
       have n3_ := Aside0.mk (blk_below (g := gb427) (o := .cells #[.slice Ao17 t421.length co17, .slice Ao19 t424.length co19] 26 (0, 0)) (by (with_reducible repeat first | apply blk_drewN | apply blk_drew | apply blk_alloc); exact BK427.out) hb)
       have n4_ := Aside0.mk (below_step (by repeat (first | (with_reducible first | exact HB.out | apply below_alloc | apply pw_below_drewN | apply below_drew1 | refine below_set ?_ GE427.out) | exact HB.out)) hb)
       have n5_ := Aside0.mk (hbox)
       have n6_ := Aside0.mk ((by rw [hg]; exact (below_size (by repeat (first | (with_reducible first | exact HB.out | apply below_alloc | apply pw_below_drewN | apply below_drew1 | refine below_set ?_ GE427.out) | exact HB.out))) : w.heap.size ≤ gb435))
       have n7_ := Aside0.mk ((by rw [hg]; exact (below_size (by repeat (first | (with_reducible first | exact HB.out | apply below_alloc | apply pw_below_drewN | apply below_drew1 | refine below_set ?_ GE427.out) | exact HB.out))) : w.heap.size ≤ gb435))
       have n8_ := Aside0.mk ((by rw [hg]; exact Nat.ne_of_lt (blk_lt (g := gb427) (o := .cells #[.slice Ao17 t421.length co17, .slice Ao19 t424.length co19] 26 (0, 0)) (by (with_reducible repeat first | apply blk_drewN | apply blk_drew | apply blk_alloc); exact BK427.out)) : gb427 ≠ gb435))
       have n9_ := Aside0.mk ((by rw [hg]; exact Nat.ne_of_gt (blk_lt (g := gb427) (o := .cells #[.slice Ao17 t421.length co17, .slice Ao19 t424.length co19] 26 (0, 0)) (by (with_reducible repeat first | apply blk_drewN | apply blk_drew | apply blk_alloc); exact BK427.out)) : gb435 ≠ gb427))
       clear HO423
       clear HO426
       clear HO430
       clear BK427
       clear HB
       have HO423 := n0_
       have HO426 := n1_
       have HO430 := n2_
       have BK427 := n3_
       have HB := n4_
       have BK435 := n5_
       have GW435 := n6_
       have GE435 := n7_
       have NB427_435 := n8_
       have NB435_427 := n9_
       clear n0_ n1_ n2_ n3_ n4_ n5_ n6_ n7_ n8_ n9_
       clear hb hbox hg
       refine hK.out _ _ ⟨(blk_cell BK427.out 0).trans rfl, (blk_cell BK427.out 1).trans rfl⟩ (fun hHeld => ?_)
       clear hK K
       refine norm_ (a' := ?_) ?_ ?_
       (rotate_left; ·(show Act.put _ (some 4) _ = _; simp only [Act.put, pq_z4]; rfl))
       exact norm_ (by simp only [putAll, Act.put, List.setIfInBounds_toArray, List.set_cons_zero, List.set_cons_succ]) (hCont (.slice Ao23 t428.length co23, gb435) _ ⟨hHeld, (by (with_reducible repeat (first | apply Kd.R_alloc | apply Kd.R_drewN | apply Kd.R_drew)); exact HO423.out), (by (with_reducible repeat (first | apply Kd.S_alloc | apply Kd.S_drewN | apply Kd.S_drew)); exact HO426.out), (by (with_reducible repeat (first | apply Kd.R_alloc | apply Kd.R_drewN | apply Kd.R_drew)); exact HO430.out), (by (with_reducible repeat first | apply blk_drewN | apply blk_drew | apply blk_alloc); exact BK427.out), (by (with_reducible repeat first | apply blk_drewN | apply blk_drew | apply blk_alloc); exact BK435.out), GW435.out, GE435.out, NB427_435.out, NB435_427.out, (by repeat (first | (with_reducible first | exact HB.out | apply below_alloc | apply pw_below_drewN | apply below_drew1 | refine below_set ?_ GE427.out | refine below_set ?_ GE435.out) | exact HB.out))⟩)
      ·skip
       refine box_step ?hg (N := 4) ?hd (cs := #[.int .i64 0, .int .i64 0, .int .i64 0, .bool false]) (t := 29) ?hr ?_; (case hd => rfl); (case hg => rfl); (case hr => first | (go_simp; done) | (go_simp; rfl))
       intro gb435 hg w23 hbox hb
       have n0_ := Aside0.mk (Kd.R_below (by (with_reducible repeat (first | apply Kd.R_alloc | apply Kd.R_drewN | apply Kd.R_drew)); exact HO423.out) hb)
       have n1_ := Aside0.mk (Kd.S_below (by (with_reducible repeat (first | apply Kd.S_alloc | apply Kd.S_drewN | apply Kd.S_drew)); exact HO426.out) hb)
       have n2_ := Aside0.mk (Kd.R_below (by (with_reducible repeat (first | apply Kd.R_alloc | apply Kd.R_drewN | apply Kd.R_drew)); exact HO430.out) hb)
       have n3_ := Aside0.mk (blk_below (g := gb427) (o := .cells #[.slice Ao17 t421.length co17, .slice Ao19 t424.length co19] 26 (0, 0)) (by (with_reducible repeat first | apply blk_drewN | apply blk_drew | apply blk_alloc); exact BK427.out) hb)
       have n4_ := Aside0.mk (below_step (by repeat (first | (with_reducible first | exact HB.out | apply below_alloc | apply pw_below_drewN | apply below_drew1 | refine below_set ?_ GE427.out) | exact HB.out)) hb)
       have n5_ := Aside0.mk (hbox)
       have n6_ := Aside0.mk ((by rw [hg]; exact (below_size (by repeat (first | (with_reducible first | exact HB.out | apply below_alloc | apply pw_below_drewN | apply below_drew1 | refine below_set ?_ GE427.out) | exact HB.out))) : w.heap.size ≤ gb435))
       have n7_ := Aside0.mk ((by rw [hg]; exact (below_size (by repeat (first | (with_reducible first | exact HB.out | apply below_alloc | apply pw_below_drewN | apply below_drew1 | refine below_set ?_ GE427.out) | exact HB.out))) : w.heap.size ≤ gb435))
       have n8_ := Aside0.mk ((by rw [hg]; exact Nat.ne_of_lt (blk_lt (g := gb427) (o := .cells #[.slice Ao17 t421.length co17, .slice Ao19 t424.length co19] 26 (0, 0)) (by (with_reducible repeat first | apply blk_drewN | apply blk_drew | apply blk_alloc); exact BK427.out)) : gb427 ≠ gb435))
       have n9_ := Aside0.mk ((by rw [hg]; exact Nat.ne_of_gt (blk_lt (g := gb427) (o := .cells #[.slice Ao17 t421.length co17, .slice Ao19 t424.length co19] 26 (0, 0)) (by (with_reducible repeat first | apply blk_drewN | apply blk_drew | apply blk_alloc); exact BK427.out)) : gb435 ≠ gb427))
       clear HO423
       clear HO426
       clear HO430
       clear BK427
       clear HB
       have HO423 := n0_
       have HO426 := n1_
       have HO430 := n2_
       have BK427 := n3_
       have HB := n4_
       have BK435 := n5_
       have GW435 := n6_
       have GE435 := n7_
       have NB427_435 := n8_
       have NB435_427 := n9_
       clear n0_ n1_ n2_ n3_ n4_ n5_ n6_ n7_ n8_ n9_
       clear hb hbox hg
       obtain ⟨Ao24, co24, eo24⟩ := Kd.R_slice HO430.out
       (first | subst eo24 | (injection eo24 with f1_ f2_ f3_; have f4_ := f1_.symm; have f5_ := f3_.symm; clear f1_ f2_ f3_; subst f4_; subst f5_))
       refine hK.out _ _ ⟨(blk_cell BK427.out 0).trans rfl, (blk_cell BK427.out 1).trans rfl⟩ (fun hHeld => ?_)
       clear hK K
       refine norm_ (a' := ?_) ?_ ?_
       (rotate_left; ·(show Act.put _ (some 4) _ = _; simp only [Act.put, pq_z4]; rfl))
       refine one_ (i := 3) (N := some 23) #[true, true, true, true, true, false] rfl rfl (by kernel_rfl) (by decide) (fun K hK => ?_)
       refine goes_ Try.func7 (by kernel_rfl) rfl #[.slice Ao24 t428.length co24, .agg #[.slice Ao17 t421.length co17, .slice Ao19 t424.length co19]] (by rfl) rfl rfl (by (try simp only [List.map_toArray, List.map_cons, List.map_nil]); first | done | rfl | (simp only [List.length_drop, List.length_take]; rfl)) ?_
       with_reducible refine (spec_A8Rule.calls _ _ t428 _ _ t421 _ _ t424 t431 t432 t433 t434 _ ?side1 ?side2 ?side3 ?side4 ?side5 ?side6 A5.out).mono ?_
       (case side1 => repeat (first | exact (Kd.R_reads' HO430.out).2.2 | (with_reducible refine Kd.C_alloc ?_ _) | (with_reducible refine Kd.C_drewN ?_ _) | (with_reducible refine Kd.C_drew ?_)))
       (case side2 => exact (Kd.R_reads' HO430.out).2.1)
       (case side3 => repeat (first | exact (Kd.R_reads' HO423.out).2.2 | (with_reducible refine Kd.C_alloc ?_ _) | (with_reducible refine Kd.C_drewN ?_ _) | (with_reducible refine Kd.C_drew ?_)))
       (case side4 => exact (Kd.R_reads' HO423.out).2.1)
       (case side5 => repeat (first | exact (Kd.S_reads' HO426.out).2.2 | (with_reducible refine Kd.C_alloc ?_ _) | (with_reducible refine Kd.C_drewN ?_ _) | (with_reducible refine Kd.C_drew ?_)))
       (case side6 => exact (Kd.S_reads' HO426.out).2.1)
       rintro e w25 ⟨rfl, hb⟩
       refine ⟨_, rfl, ?_⟩
       have n0_ := Aside0.mk (Kd.R_below (by (with_reducible repeat (first | apply Kd.R_alloc | apply Kd.R_drewN | apply Kd.R_drew)); exact HO423.out) hb)
       have n1_ := Aside0.mk (Kd.S_below (by (with_reducible repeat (first | apply Kd.S_alloc | apply Kd.S_drewN | apply Kd.S_drew)); exact HO426.out) hb)
       have n2_ := Aside0.mk (Kd.R_below (by (with_reducible repeat (first | apply Kd.R_alloc | apply Kd.R_drewN | apply Kd.R_drew)); exact HO430.out) hb)
       have n3_ := Aside0.mk (blk_below (g := gb427) (o := .cells #[.slice Ao17 t421.length co17, .slice Ao19 t424.length co19] 26 (0, 0)) (by (with_reducible repeat first | apply blk_drewN | apply blk_drew | apply blk_alloc); exact BK427.out) hb)
       have n4_ := Aside0.mk (blk_below (g := gb435) (o := .cells #[.int .i64 0, .int .i64 0, .int .i64 0, .bool false] 29 (0, 0)) (by (with_reducible repeat first | apply blk_drewN | apply blk_drew | apply blk_alloc); exact BK435.out) hb)
       have n5_ := Aside0.mk (below_step (by repeat (first | (with_reducible first | exact HB.out | apply below_alloc | apply pw_below_drewN | apply below_drew1 | refine below_set ?_ GE427.out | refine below_set ?_ GE435.out) | exact HB.out)) hb)
       clear HO423
       clear HO426
       clear HO430
       clear BK427
       clear BK435
       clear HB
       have HO423 := n0_
       have HO426 := n1_
       have HO430 := n2_
       have BK427 := n3_
       have BK435 := n4_
       have HB := n5_
       clear n0_ n1_ n2_ n3_ n4_ n5_
       (try clear hb)
       (try clear hb2)
       (try clear hk)
       (try clear hi)
       refine hK.out _ _ ⟨(blk_cell BK427.out 0).trans rfl, (blk_cell BK427.out 1).trans rfl⟩ (fun hHeld => ?_)
       clear hK K
       refine norm_ (a' := ?_) ?_ ?_
       (rotate_left; ·(show Act.put _ (some 23) _ = _; simp only [Act.put, pq_z4]; rfl))
       exact norm_ (by simp only [putAll, Act.put, List.setIfInBounds_toArray, List.set_cons_zero, List.set_cons_succ]) (hCont (.slice Ao24 t428.length co24, gb435) _ ⟨hHeld, (by (with_reducible repeat (first | apply Kd.R_alloc | apply Kd.R_drewN | apply Kd.R_drew)); exact HO423.out), (by (with_reducible repeat (first | apply Kd.S_alloc | apply Kd.S_drewN | apply Kd.S_drew)); exact HO426.out), (by (with_reducible repeat (first | apply Kd.R_alloc | apply Kd.R_drewN | apply Kd.R_drew)); exact HO430.out), (by (with_reducible repeat first | apply blk_drewN | apply blk_drew | apply blk_alloc); exact BK427.out), (by (with_reducible repeat first | apply blk_drewN | apply blk_drew | apply blk_alloc); exact BK435.out), GW435.out, GE435.out, NB427_435.out, NB435_427.out, (by repeat (first | (with_reducible first | exact HB.out | apply below_alloc | apply pw_below_drewN | apply below_drew1 | refine below_set ?_ GE427.out | refine below_set ?_ GE435.out) | exact HB.out))⟩)
     ·skip
      refine box_step ?hg (N := 4) ?hd (cs := #[.int .i64 0, .int .i64 0, .int .i64 0, .bool false]) (t := 29) ?hr ?_; (case hd => rfl); (case hg => rfl); (case hr => first | (go_simp; done) | (go_simp; rfl))
      intro gb435 hg w22 hbox hb
      have n0_ := Aside0.mk (Kd.R_below (by (with_reducible repeat (first | apply Kd.R_alloc | apply Kd.R_drewN | apply Kd.R_drew)); exact HO423.out) hb)
      have n1_ := Aside0.mk (Kd.S_below (by (with_reducible repeat (first | apply Kd.S_alloc | apply Kd.S_drewN | apply Kd.S_drew)); exact HO426.out) hb)
      have n2_ := Aside0.mk (blk_below (g := gb427) (o := .cells #[.slice Ao17 t421.length co17, .slice Ao19 t424.length co19] 26 (0, 0)) (by (with_reducible repeat first | apply blk_drewN | apply blk_drew | apply blk_alloc); exact BK427.out) hb)
      have n3_ := Aside0.mk (below_step (by repeat (first | (with_reducible first | exact HB.out | apply below_alloc | apply pw_below_drewN | apply below_drew1 | refine below_set ?_ GE427.out) | exact HB.out)) hb)
      have n4_ := Aside0.mk (hbox)
      have n5_ := Aside0.mk ((by rw [hg]; exact (below_size (by repeat (first | (with_reducible first | exact HB.out | apply below_alloc | apply pw_below_drewN | apply below_drew1 | refine below_set ?_ GE427.out) | exact HB.out))) : w.heap.size ≤ gb435))
      have n6_ := Aside0.mk ((by rw [hg]; exact (below_size (by repeat (first | (with_reducible first | exact HB.out | apply below_alloc | apply pw_below_drewN | apply below_drew1 | refine below_set ?_ GE427.out) | exact HB.out))) : w.heap.size ≤ gb435))
      have n7_ := Aside0.mk ((by rw [hg]; exact Nat.ne_of_lt (blk_lt (g := gb427) (o := .cells #[.slice Ao17 t421.length co17, .slice Ao19 t424.length co19] 26 (0, 0)) (by (with_reducible repeat first | apply blk_drewN | apply blk_drew | apply blk_alloc); exact BK427.out)) : gb427 ≠ gb435))
      have n8_ := Aside0.mk ((by rw [hg]; exact Nat.ne_of_gt (blk_lt (g := gb427) (o := .cells #[.slice Ao17 t421.length co17, .slice Ao19 t424.length co19] 26 (0, 0)) (by (with_reducible repeat first | apply blk_drewN | apply blk_drew | apply blk_alloc); exact BK427.out)) : gb435 ≠ gb427))
      clear HO423
      clear HO426
      clear BK427
      clear HB
      have HO423 := n0_
      have HO426 := n1_
      have BK427 := n2_
      have HB := n3_
      have BK435 := n4_
      have GW435 := n5_
      have GE435 := n6_
      have NB427_435 := n7_
      have NB435_427 := n8_
      clear n0_ n1_ n2_ n3_ n4_ n5_ n6_ n7_ n8_
      clear hb hbox hg
      refine hK.out _ _ ⟨(blk_cell BK427.out 0).trans rfl, (blk_cell BK427.out 1).trans rfl⟩ (fun hHeld => ?_)
      clear hK K
      refine norm_ (a' := ?_) ?_ ?_
      (rotate_left; ·(show Act.put _ (some 4) _ = _; simp only [Act.put, pq_z4]; rfl))
      refine one_ (i := 1) (N := some 21) #[true, true, true, false, true, false] rfl rfl (by kernel_rfl) (by decide) (fun K hK => ?_)
      refine goes_ Try.func8 (by kernel_rfl) rfl #[.int .i64 2, .slice A0 l0.length c0] (by rfl) rfl rfl (by (try simp only [List.map_toArray, List.map_cons, List.map_nil]); first | done | rfl | (simp only [List.length_drop, List.length_take]; rfl)) ?_
      with_reducible refine (laws_a8Mix.calls 2 _ _ l0 t428 _ ?side1 ?side2 A4.out).mono ?_
      (case side1 => repeat (first | exact (Kd.C_below HR0.out HB.out) | (with_reducible refine Kd.C_alloc ?_ _) | (with_reducible refine Kd.C_drewN ?_ _) | (with_reducible refine Kd.C_drew ?_)))
      (case side2 => exact HC0.out)
      rintro e w23 ⟨v429, rfl, ho0, hb⟩
      refine ⟨_, rfl, ?_⟩
      have n0_ := Aside0.mk (Kd.R_below (by (with_reducible repeat (first | apply Kd.R_alloc | apply Kd.R_drewN | apply Kd.R_drew)); exact HO423.out) hb)
      have n1_ := Aside0.mk (Kd.S_below (by (with_reducible repeat (first | apply Kd.S_alloc | apply Kd.S_drewN | apply Kd.S_drew)); exact HO426.out) hb)
      have n2_ := Aside0.mk (Kd.R_lower ho0 (below_size (by repeat (first | (with_reducible first | exact HB.out | apply below_alloc | apply pw_below_drewN | apply below_drew1 | refine below_set ?_ GE427.out | refine below_set ?_ GE435.out) | exact HB.out))))
      have n3_ := Aside0.mk (blk_below (g := gb427) (o := .cells #[.slice Ao17 t421.length co17, .slice Ao19 t424.length co19] 26 (0, 0)) (by (with_reducible repeat first | apply blk_drewN | apply blk_drew | apply blk_alloc); exact BK427.out) hb)
      have n4_ := Aside0.mk (blk_below (g := gb435) (o := .cells #[.int .i64 0, .int .i64 0, .int .i64 0, .bool false] 29 (0, 0)) (by (with_reducible repeat first | apply blk_drewN | apply blk_drew | apply blk_alloc); exact BK435.out) hb)
      have n5_ := Aside0.mk (below_step (by repeat (first | (with_reducible first | exact HB.out | apply below_alloc | apply pw_below_drewN | apply below_drew1 | refine below_set ?_ GE427.out | refine below_set ?_ GE435.out) | exact HB.out)) hb)
      clear HO423
      clear HO426
      clear BK427
      clear BK435
      clear HB
      have HO423 := n0_
      have HO426 := n1_
      have HO430 := n2_
      have BK427 := n3_
      have BK435 := n4_
      have HB := n5_
      clear n0_ n1_ n2_ n3_ n4_ n5_
      (try clear hb)
      (try clear hb2)
      (try clear hk)
      (try clear hi)
      (try clear ho0)
      obtain ⟨Ao24, co24, eo24⟩ := Kd.R_slice HO430.out
      (first | subst eo24 | (injection eo24 with f1_ f2_ f3_; have f4_ := f1_.symm; have f5_ := f3_.symm; clear f1_ f2_ f3_; subst f4_; subst f5_))
      refine hK.out _ _ ⟨(blk_cell BK427.out 0).trans rfl, (blk_cell BK427.out 1).trans rfl⟩ (fun hHeld => ?_)
      clear hK K
      refine norm_ (a' := ?_) ?_ ?_
      (rotate_left; ·(show Act.put _ (some 21) _ = _; simp only [Act.put, pq_z4]; rfl))
      refine one_ (i := 3) (N := some 23) #[true, true, true, true, true, false] rfl rfl (by kernel_rfl) (by decide) (fun K hK => ?_)
      refine goes_ Try.func7 (by kernel_rfl) rfl #[.slice Ao24 t428.length co24, .agg #[.slice Ao17 t421.length co17, .slice Ao19 t424.length co19]] (by rfl) rfl rfl (by (try simp only [List.map_toArray, List.map_cons, List.map_nil]); first | done | rfl | (simp only [List.length_drop, List.length_take]; rfl)) ?_
      with_reducible refine (spec_A8Rule.calls _ _ t428 _ _ t421 _ _ t424 t431 t432 t433 t434 _ ?side1 ?side2 ?side3 ?side4 ?side5 ?side6 A5.out).mono ?_
      (case side1 => repeat (first | exact (Kd.R_reads' HO430.out).2.2 | (with_reducible refine Kd.C_alloc ?_ _) | (with_reducible refine Kd.C_drewN ?_ _) | (with_reducible refine Kd.C_drew ?_)))
      (case side2 => exact (Kd.R_reads' HO430.out).2.1)
      (case side3 => repeat (first | exact (Kd.R_reads' HO423.out).2.2 | (with_reducible refine Kd.C_alloc ?_ _) | (with_reducible refine Kd.C_drewN ?_ _) | (with_reducible refine Kd.C_drew ?_)))
      (case side4 => exact (Kd.R_reads' HO423.out).2.1)
      (case side5 => repeat (first | exact (Kd.S_reads' HO426.out).2.2 | (with_reducible refine Kd.C_alloc ?_ _) | (with_reducible refine Kd.C_drewN ?_ _) | (with_reducible refine Kd.C_drew ?_)))
      (case side6 => exact (Kd.S_reads' HO426.out).2.1)
      rintro e w25 ⟨rfl, hb⟩
      refine ⟨_, rfl, ?_⟩
      have n0_ := Aside0.mk (Kd.R_below (by (with_reducible repeat (first | apply Kd.R_alloc | apply Kd.R_drewN | apply Kd.R_drew)); exact HO423.out) hb)
      have n1_ := Aside0.mk (Kd.S_below (by (with_reducible repeat (first | apply Kd.S_alloc | apply Kd.S_drewN | apply Kd.S_drew)); exact HO426.out) hb)
      have n2_ := Aside0.mk (Kd.R_below (by (with_reducible repeat (first | apply Kd.R_alloc | apply Kd.R_drewN | apply Kd.R_drew)); exact HO430.out) hb)
      have n3_ := Aside0.mk (blk_below (g := gb427) (o := .cells #[.slice Ao17 t421.length co17, .slice Ao19 t424.length co19] 26 (0, 0)) (by (with_reducible repeat first | apply blk_drewN | apply blk_drew | apply blk_alloc); exact BK427.out) hb)
      have n4_ := Aside0.mk (blk_below (g := gb435) (o := .cells #[.int .i64 0, .int .i64 0, .int .i64 0, .bool false] 29 (0, 0)) (by (with_reducible repeat first | apply blk_drewN | apply blk_drew | apply blk_alloc); exact BK435.out) hb)
      have n5_ := Aside0.mk (below_step (by repeat (first | (with_reducible first | exact HB.out | apply below_alloc | apply pw_below_drewN | apply below_drew1 | refine below_set ?_ GE427.out | refine below_set ?_ GE435.out) | exact HB.out)) hb)
      clear HO423
      clear HO426
      clear HO430
      clear BK427
      clear BK435
      clear HB
      have HO423 := n0_
      have HO426 := n1_
      have HO430 := n2_
      have BK427 := n3_
      have BK435 := n4_
      have HB := n5_
      clear n0_ n1_ n2_ n3_ n4_ n5_
      (try clear hb)
      (try clear hb2)
      (try clear hk)
      (try clear hi)
      refine hK.out _ _ ⟨(blk_cell BK427.out 0).trans rfl, (blk_cell BK427.out 1).trans rfl⟩ (fun hHeld => ?_)
      clear hK K
      refine norm_ (a' := ?_) ?_ ?_
      (rotate_left; ·(show Act.put _ (some 23) _ = _; simp only [Act.put, pq_z4]; rfl))
      exact norm_ (by simp only [putAll, Act.put, List.setIfInBounds_toArray, List.set_cons_zero, List.set_cons_succ]) (hCont (.slice Ao24 t428.length co24, gb435) _ ⟨hHeld, (by (with_reducible repeat (first | apply Kd.R_alloc | apply Kd.R_drewN | apply Kd.R_drew)); exact HO423.out), (by (with_reducible repeat (first | apply Kd.S_alloc | apply Kd.S_drewN | apply Kd.S_drew)); exact HO426.out), (by (with_reducible repeat (first | apply Kd.R_alloc | apply Kd.R_drewN | apply Kd.R_drew)); exact HO430.out), (by (with_reducible repeat first | apply blk_drewN | apply blk_drew | apply blk_alloc); exact BK427.out), (by (with_reducible repeat first | apply blk_drewN | apply blk_drew | apply blk_alloc); exact BK435.out), GW435.out, GE435.out, NB427_435.out, NB435_427.out, (by repeat (first | (with_reducible first | exact HB.out | apply below_alloc | apply pw_below_drewN | apply below_drew1 | refine below_set ?_ GE427.out | refine below_set ?_ GE435.out) | exact HB.out))⟩)
    rintro ⟨v429, gb435⟩ w26 ⟨hS_, h0_, h1_, h2_, h3_, h4_, h5_, h6_, h7_, h8_, h9_⟩
    have n0_ : Aside0 (Kd.R k34 34 w26 w.heap.size (fun _ => True) (.slice Ao17 t421.length co17) t421) := ⟨h0_⟩
    have n1_ : Aside0 (Kd.S k70 70 w26 w.heap.size (fun _ => True) (.slice Ao19 t424.length co19) t424) := ⟨h1_⟩
    have n2_ : Aside0 (Kd.R (Kd.int .u8) 5 w26 w.heap.size (fun _ => True) v429 t428) := ⟨h2_⟩
    have n3_ : Aside0 (w26.heap[gb427]? = some (.cells #[.slice Ao17 t421.length co17, .slice Ao19 t424.length co19] 26 (0, 0))) := ⟨h3_⟩
    have n4_ : Aside0 (w26.heap[gb435]? = some (.cells #[.int .i64 0, .int .i64 0, .int .i64 0, .bool false] 29 (0, 0))) := ⟨h4_⟩
    have n5_ : Aside0 (w.heap.size ≤ gb435) := ⟨h5_⟩
    have n6_ : Aside0 (w.heap.size ≤ gb435) := ⟨h6_⟩
    have n7_ : Aside0 (gb427 ≠ gb435) := ⟨h7_⟩
    have n8_ : Aside0 (gb435 ≠ gb427) := ⟨h8_⟩
    have n9_ : Aside0 (Below w.heap.size w w26) := ⟨h9_⟩
    clear HO423
    clear HO426
    clear BK427
    clear HB
    clear h0_ h1_ h2_ h3_ h4_ h5_ h6_ h7_ h8_ h9_
    have HO423 := n0_
    have HO426 := n1_
    have HO430 := n2_
    have BK427 := n3_
    have BK435 := n4_
    have GW435 := n5_
    have GE435 := n6_
    have NB427_435 := n7_
    have NB435_427 := n8_
    have HB := n9_
    clear n0_ n1_ n2_ n3_ n4_ n5_ n6_ n7_ n8_ n9_
    have hHeld : w26.cell? ⟨gb427, 0, none⟩ = some (.slice Ao17 t421.length co17) ∧ w26.cell? ⟨gb427, 1, none⟩ = some (.slice Ao19 t424.length co19) := hS_
    refine norm_ (a' := ?_) ?_ ?_
    rotate_left
    ·simp only [putAll, Act.put, List.setIfInBounds_toArray, List.set_cons_zero, List.set_cons_succ]
     rfl
    refine one_ (i := 5) (N := none) #[true, true, true, true, true, true] rfl rfl (by kernel_rfl) (by decide) (fun K hK => ?_)
    have hs27 : w26.cell? ⟨gb435, 0, none⟩ = some (.int .i64 0) := (blk_cell BK435.out 0).trans rfl
    have hfs27 := blk_frozen BK435.out 0
    have hns27_0 := NB427_435.out
    have hms27_0 := NB435_427.out
    have hs28 : w26.cell? ⟨gb435, 1, none⟩ = some (.int .i64 0) := (blk_cell BK435.out 1).trans rfl
    have hfs28 := blk_frozen BK435.out 1
    have hns28_0 := NB427_435.out
    have hms28_0 := NB435_427.out
    have hs29 : w26.cell? ⟨gb435, 2, none⟩ = some (.int .i64 0) := (blk_cell BK435.out 2).trans rfl
    have hfs29 := blk_frozen BK435.out 2
    have hns29_0 := NB427_435.out
    have hms29_0 := NB435_427.out
    have hs30 : w26.cell? ⟨gb435, 3, none⟩ = some (.bool false) := (blk_cell BK435.out 3).trans rfl
    have hfs30 := blk_frozen BK435.out 3
    have hns30_0 := NB427_435.out
    have hms30_0 := NB435_427.out
    refine skip_ (w1 := ?_) (by rfl) rfl ?_ ?_
    rotate_left
    ·go_simp
     rfl
    refine hK.out _ _ ⟨((cell_far (p := ⟨gb435, _, none⟩) NB427_435.out _).trans (((cell_far (p := ⟨gb435, _, none⟩) NB427_435.out _).trans (((cell_far (p := ⟨gb435, _, none⟩) NB427_435.out _).trans (((cell_far (p := ⟨gb435, _, none⟩) NB427_435.out _).trans (hHeld.1)))))))), ((cell_far (p := ⟨gb435, _, none⟩) NB427_435.out _).trans (((cell_far (p := ⟨gb435, _, none⟩) NB427_435.out _).trans (((cell_far (p := ⟨gb435, _, none⟩) NB427_435.out _).trans (((cell_far (p := ⟨gb435, _, none⟩) NB427_435.out _).trans (hHeld.2))))))))⟩ (fun hHeld => ?_)
    clear hK K
    refine done_ (by kernel_rfl) ?_
    have hnb31 := NB435_427.out
    have hnc31 := NB427_435.out
    have hcz32_0 : w26.cell? ⟨gb435, 0, none⟩ = some (.int .i64 0) := (blk_cell BK435.out 0).trans rfl
    have hcz32_1 : w26.cell? ⟨gb435, 1, none⟩ = some (.int .i64 0) := (blk_cell BK435.out 1).trans rfl
    have hcz32_2 : w26.cell? ⟨gb435, 2, none⟩ = some (.int .i64 0) := (blk_cell BK435.out 2).trans rfl
    have hcz32_3 : w26.cell? ⟨gb435, 3, none⟩ = some (.bool false) := (blk_cell BK435.out 3).trans rfl
    have hfz32_0 := blk_frozen BK435.out 0
    have hfz32_1 := blk_frozen BK435.out 1
    have hfz32_2 := blk_frozen BK435.out 2
    have hfz32_3 := blk_frozen BK435.out 3
    try go_wp2_with (first | ((with_reducible refine gate_callee (f := 9) rfl ?_); refine goesL_ (some 26) rfl rfl Try.func9 (by kernel_rfl) rfl #[.slice A0 l0.length c0, .int .i64 0, .int .i64 7] rfl (by (try simp only [List.map_toArray, List.map_cons, List.map_nil]); first | done | rfl | (simp only [List.length_drop, List.length_take]; rfl)) ?_; (with_reducible refine (laws_a8At.calls _ _ l0 0 7 t436 _ ?side1 ?side2 A6.out).mono ?_); (case side1 => exact Kd.C_below HR0.out (by repeat (first | (with_reducible first | exact HB.out | apply below_alloc | apply pw_below_drewN | apply below_drew1 | refine below_set ?_ GE427.out | refine below_set ?_ GE435.out) | exact HB.out))); (case side2 => exact HC0.out); rintro e w' ⟨rfl, ⟨nd, rfl⟩⟩; refine ⟨_, rfl, ?_⟩))
    have n0_ : Aside0 (Kd.R k34 34 (((((w26.setCell ⟨gb435, 0, none⟩ (.int .i64 t431)).setCell ⟨gb435, 1, none⟩ (.int .i64 t432)).setCell ⟨gb435, 2, none⟩ (.int .i64 t433)).setCell ⟨gb435, 3, none⟩ (.bool t434)).setCell ⟨gb435, 3, none⟩ (.bool true)) w.heap.size (fun _ => True) (.slice Ao17 t421.length co17) t421) := ⟨by (with_reducible repeat (first | apply Kd.R_alloc | apply Kd.R_drewN | apply Kd.R_drew)); exact Kd.R_mono (Kd.R_far (p := ⟨gb435, 3, none⟩) (Kd.R_far (p := ⟨gb435, 3, none⟩) (Kd.R_far (p := ⟨gb435, 2, none⟩) (Kd.R_far (p := ⟨gb435, 1, none⟩) (Kd.R_far (p := ⟨gb435, 0, none⟩) (Kd.R_types HO423.out BK435.out (by decide)) (fun _ hk => hk.2) (.int .i64 t431)) (fun _ hk => hk.2) (.int .i64 t432)) (fun _ hk => hk.2) (.int .i64 t433)) (fun _ hk => hk.2) (.bool t434)) (fun _ hk => hk.2) (.bool true)) (fun _ hk => trivial)⟩
    have n1_ : Aside0 (Kd.S k70 70 (((((w26.setCell ⟨gb435, 0, none⟩ (.int .i64 t431)).setCell ⟨gb435, 1, none⟩ (.int .i64 t432)).setCell ⟨gb435, 2, none⟩ (.int .i64 t433)).setCell ⟨gb435, 3, none⟩ (.bool t434)).setCell ⟨gb435, 3, none⟩ (.bool true)) w.heap.size (fun _ => True) (.slice Ao19 t424.length co19) t424) := ⟨by (with_reducible repeat (first | apply Kd.S_alloc | apply Kd.S_drewN | apply Kd.S_drew)); exact Kd.S_mono (Kd.S_far (p := ⟨gb435, 3, none⟩) (Kd.S_far (p := ⟨gb435, 3, none⟩) (Kd.S_far (p := ⟨gb435, 2, none⟩) (Kd.S_far (p := ⟨gb435, 1, none⟩) (Kd.S_far (p := ⟨gb435, 0, none⟩) (Kd.S_types HO426.out BK435.out (by decide)) (fun _ hk => hk.2) (.int .i64 t431)) (fun _ hk => hk.2) (.int .i64 t432)) (fun _ hk => hk.2) (.int .i64 t433)) (fun _ hk => hk.2) (.bool t434)) (fun _ hk => hk.2) (.bool true)) (fun _ hk => trivial)⟩
    have n2_ : Aside0 (Kd.R (Kd.int .u8) 5 (((((w26.setCell ⟨gb435, 0, none⟩ (.int .i64 t431)).setCell ⟨gb435, 1, none⟩ (.int .i64 t432)).setCell ⟨gb435, 2, none⟩ (.int .i64 t433)).setCell ⟨gb435, 3, none⟩ (.bool t434)).setCell ⟨gb435, 3, none⟩ (.bool true)) w.heap.size (fun _ => True) v429 t428) := ⟨by (with_reducible repeat (first | apply Kd.R_alloc | apply Kd.R_drewN | apply Kd.R_drew)); exact Kd.R_mono (Kd.R_far (p := ⟨gb435, 3, none⟩) (Kd.R_far (p := ⟨gb435, 3, none⟩) (Kd.R_far (p := ⟨gb435, 2, none⟩) (Kd.R_far (p := ⟨gb435, 1, none⟩) (Kd.R_far (p := ⟨gb435, 0, none⟩) (Kd.R_types HO430.out BK435.out (by decide)) (fun _ hk => hk.2) (.int .i64 t431)) (fun _ hk => hk.2) (.int .i64 t432)) (fun _ hk => hk.2) (.int .i64 t433)) (fun _ hk => hk.2) (.bool t434)) (fun _ hk => hk.2) (.bool true)) (fun _ hk => trivial)⟩
    have n3_ : Aside0 ((((((w26.setCell ⟨gb435, 0, none⟩ (.int .i64 t431)).setCell ⟨gb435, 1, none⟩ (.int .i64 t432)).setCell ⟨gb435, 2, none⟩ (.int .i64 t433)).setCell ⟨gb435, 3, none⟩ (.bool t434)).setCell ⟨gb435, 3, none⟩ (.bool true)).heap[gb427]? = some (.cells #[.slice Ao17 t421.length co17, .slice Ao19 t424.length co19] 26 (0, 0))) := ⟨by (with_reducible repeat first | apply blk_drewN | apply blk_drew | apply blk_alloc); refine blk_far ?_ NB427_435.out _; (with_reducible repeat first | apply blk_drewN | apply blk_drew | apply blk_alloc); refine blk_far ?_ NB427_435.out _; (with_reducible repeat first | apply blk_drewN | apply blk_drew | apply blk_alloc); refine blk_far ?_ NB427_435.out _; (with_reducible repeat first | apply blk_drewN | apply blk_drew | apply blk_alloc); refine blk_far ?_ NB427_435.out _; (with_reducible repeat first | apply blk_drewN | apply blk_drew | apply blk_alloc); refine blk_far ?_ NB427_435.out _; (with_reducible repeat first | apply blk_drewN | apply blk_drew | apply blk_alloc); exact BK427.out⟩
    have n4_ : Aside0 ((((((w26.setCell ⟨gb435, 0, none⟩ (.int .i64 t431)).setCell ⟨gb435, 1, none⟩ (.int .i64 t432)).setCell ⟨gb435, 2, none⟩ (.int .i64 t433)).setCell ⟨gb435, 3, none⟩ (.bool t434)).setCell ⟨gb435, 3, none⟩ (.bool true)).heap[gb435]? = some (.cells #[.int .i64 t431, .int .i64 t432, .int .i64 t433, .bool true] 29 (0, 0))) := ⟨by (with_reducible repeat first | apply blk_drewN | apply blk_drew | apply blk_alloc); refine blk_put (cs := #[.int .i64 t431, .int .i64 t432, .int .i64 t433, .bool t434]) ?_ 3 _ rfl; (with_reducible repeat first | apply blk_drewN | apply blk_drew | apply blk_alloc); refine blk_put (cs := #[.int .i64 t431, .int .i64 t432, .int .i64 t433, .bool false]) ?_ 3 _ rfl; (with_reducible repeat first | apply blk_drewN | apply blk_drew | apply blk_alloc); refine blk_put (cs := #[.int .i64 t431, .int .i64 t432, .int .i64 0, .bool false]) ?_ 2 _ rfl; (with_reducible repeat first | apply blk_drewN | apply blk_drew | apply blk_alloc); refine blk_put (cs := #[.int .i64 t431, .int .i64 0, .int .i64 0, .bool false]) ?_ 1 _ rfl; (with_reducible repeat first | apply blk_drewN | apply blk_drew | apply blk_alloc); refine blk_put (cs := #[.int .i64 0, .int .i64 0, .int .i64 0, .bool false]) ?_ 0 _ rfl; (with_reducible repeat first | apply blk_drewN | apply blk_drew | apply blk_alloc); exact BK435.out⟩
    have n5_ : Aside0 (Below w.heap.size w (((((w26.setCell ⟨gb435, 0, none⟩ (.int .i64 t431)).setCell ⟨gb435, 1, none⟩ (.int .i64 t432)).setCell ⟨gb435, 2, none⟩ (.int .i64 t433)).setCell ⟨gb435, 3, none⟩ (.bool t434)).setCell ⟨gb435, 3, none⟩ (.bool true))) := ⟨by repeat (first | (with_reducible first | exact HB.out | apply below_alloc | apply pw_below_drewN | apply below_drew1 | refine below_set ?_ GE427.out | refine below_set ?_ GE435.out) | exact HB.out)⟩
    (try clear HO423)
    (try clear HO426)
    (try clear HO430)
    (try clear BK427)
    (try clear BK435)
    (try clear HB)
    generalize (((((w26.setCell ⟨gb435, 0, none⟩ (.int .i64 t431)).setCell ⟨gb435, 1, none⟩ (.int .i64 t432)).setCell ⟨gb435, 2, none⟩ (.int .i64 t433)).setCell ⟨gb435, 3, none⟩ (.bool t434)).setCell ⟨gb435, 3, none⟩ (.bool true)) = w33 at n0_ n1_ n2_ n3_ n4_ n5_ ⊢
    have HO423 := n0_
    have HO426 := n1_
    have HO430 := n2_
    have BK427 := n3_
    have BK435 := n4_
    have HB := n5_
    clear n0_ n1_ n2_ n3_ n4_ n5_
    (try (rw [drewN_self w33]; generalize hq_ : World.drewN w33 _ = w33; have n0_ : Aside0 (Kd.R k34 34 w33 w.heap.size (fun _ => True) (.slice Ao17 t421.length co17) t421) := ⟨by rw [← hq_]; exact (by (with_reducible repeat (first | apply Kd.R_alloc | apply Kd.R_drewN | apply Kd.R_drew)); exact HO423.out)⟩; have n1_ : Aside0 (Kd.S k70 70 w33 w.heap.size (fun _ => True) (.slice Ao19 t424.length co19) t424) := ⟨by rw [← hq_]; exact (by (with_reducible repeat (first | apply Kd.S_alloc | apply Kd.S_drewN | apply Kd.S_drew)); exact HO426.out)⟩; have n2_ : Aside0 (Kd.R (Kd.int .u8) 5 w33 w.heap.size (fun _ => True) v429 t428) := ⟨by rw [← hq_]; exact (by (with_reducible repeat (first | apply Kd.R_alloc | apply Kd.R_drewN | apply Kd.R_drew)); exact HO430.out)⟩; have n3_ : Aside0 (w33.heap[gb427]? = some (.cells #[.slice Ao17 t421.length co17, .slice Ao19 t424.length co19] 26 (0, 0))) := ⟨by rw [← hq_]; exact (by (with_reducible repeat first | apply blk_drewN | apply blk_drew | apply blk_alloc); exact BK427.out)⟩; have n4_ : Aside0 (w33.heap[gb435]? = some (.cells #[.int .i64 t431, .int .i64 t432, .int .i64 t433, .bool true] 29 (0, 0))) := ⟨by rw [← hq_]; exact (by (with_reducible repeat first | apply blk_drewN | apply blk_drew | apply blk_alloc); exact BK435.out)⟩; have n5_ : Aside0 (Below w.heap.size w w33) := ⟨by rw [← hq_]; exact (by repeat (first | (with_reducible first | exact HB.out | apply below_alloc | apply pw_below_drewN | apply below_drew1 | refine below_set ?_ GE427.out | refine below_set ?_ GE435.out) | exact HB.out))⟩; clear HO423 HO426 HO430 BK427 BK435 HB hq_; have HO423 := n0_; have HO426 := n1_; have HO430 := n2_; have BK427 := n3_; have BK435 := n4_; have HB := n5_; clear n0_ n1_ n2_ n3_ n4_ n5_))
    have n0_ := Aside0.mk (Kd.R_drew HO423.out)
    have n1_ := Aside0.mk (Kd.S_drew HO426.out)
    have n2_ := Aside0.mk (Kd.R_drew HO430.out)
    have n3_ := Aside0.mk (blk_drew BK427.out)
    have n4_ := Aside0.mk (blk_drew BK435.out)
    have n5_ := Aside0.mk (below_drew1 HB.out)
    clear HO423
    clear HO426
    clear HO430
    clear BK427
    clear BK435
    clear HB
    have HO423 := n0_
    have HO426 := n1_
    have HO430 := n2_
    have BK427 := n3_
    have BK435 := n4_
    have HB := n5_
    clear n0_ n1_ n2_ n3_ n4_ n5_
    have p438 : 0 ≤ (t437 : Int) := of_decide_eq_true (by assumption)
    have q438 : t437 < (t421.length : Int) := of_decide_eq_true (by assumption)
    obtain ⟨ad438, e438, hx438_0, hx438_1⟩ := at_T34 (Kd.R_reads' HO423.out).2.2 t437 p438 q438
    cases e438
    replace p438 := eq_true p438
    replace q438 := eq_true q438
    refine start_ (n := 11) (S := fun w' => w'.cell? ⟨gb427, 0, none⟩ = some (.slice (some ad438) t421.length co17) ∧ w'.cell? ⟨gb427, 1, none⟩ = some (.slice Ao19 t424.length co19) ∧ w'.cell? (ad438.add ((t437).toNat * 2)) = some (.int .i64 ((rd_T34 t421 t437).f0)) ∧ w'.cell? ⟨(ad438.add ((t437).toNat * 2)).block, (ad438.add ((t437).toNat * 2)).off + 1, none⟩ = some (.int .i64 ((rd_T34 t421 t437).f1))) (ds := []) mz4_0 (by kernel_rfl) rfl rfl ⟨(blk_cell BK427.out 0).trans rfl, (blk_cell BK427.out 1).trans rfl, hx438_0, hx438_1⟩ (fun hHeld => ?_); refine with_tabW laws_FnHoles.tab7 laws_FnHoles.bits7 (fun HT_ HW_ => ?_)
    generalize w33.drew = w34 at HO423 HO426 HO430 BK427 BK435 HB hx438_0 hx438_1 hHeld ⊢
    refine pu_z4 0 (some 28) ?_ mz4_1 rfl rfl (any_of HT_.out (by kernel_rfl)) (fun _ _ _ h => h) (Or.inl ⟨by rfl, ?_⟩) ?_ ?_ ?_
    (rotate_left; ·(intro w'; go_simp; with_reducible rfl)); (rotate_left; ·(simp only [Act.put, pq_z4]; rfl))
    refine pu_z4 2 (some 30) ?_ mz4_2 rfl rfl (any_of HT_.out (by kernel_rfl)) (fun _ _ _ h => h) (Or.inl ⟨by rfl, ?_⟩) ?_ ?_ ?_
    (rotate_left; ·(intro w'; go_simp; with_reducible rfl)); (rotate_left; ·(simp only [Act.put, pq_z4]; rfl))
    refine pu_z4 3 (some 31) ?_ mz4_3 rfl rfl (any_of HT_.out (by kernel_rfl)) (fun _ _ _ h => h) (Or.inl ⟨by rfl, ?_⟩) ?_ ?_ ?_
    (rotate_left; ·(intro w'; go_simp; with_reducible rfl)); (rotate_left; ·(simp only [Act.put, pq_z4]; rfl))
    refine take_ (i := 1) (N := some 29) (v := ?_) (a' := ?_) mz4_4 rfl rfl (take_ofW HT_.out HW_.out (by kernel_rfl)) (fun _ _ _ h => h) (Or.inl ⟨by rfl, ?_⟩) hHeld ?_ ?_
    (rotate_left; ·(rintro w' ⟨s0, s1, s2, s3⟩; go_simp; with_reducible rfl)); (rotate_left; ·(simp only [Act.put, pq_z4]; rfl))
    refine take_ (i := 4) (N := some 32) (v := ?_) (a' := ?_) mz4_5 rfl rfl (take_ofW HT_.out HW_.out (by kernel_rfl)) (fun _ _ _ h => h) (Or.inl ⟨by rfl, ?_⟩) hHeld ?_ ?_
    (rotate_left; ·(rintro w' ⟨s0, s1, s2, s3⟩; go_simp; with_reducible rfl)); (rotate_left; ·(simp only [Act.put, pq_z4]; rfl))
    refine pu_z4 5 (some 33) ?_ mz4_6 rfl rfl (any_of HT_.out (by kernel_rfl)) (fun _ _ _ h => h) (Or.inl ⟨by rfl, ?_⟩) ?_ ?_ ?_
    (rotate_left; ·(intro w'; go_simp; with_reducible rfl)); (rotate_left; ·(simp only [Act.put, pq_z4]; rfl))
    refine one_ (i := 6) (N := some 34) mz4_7 rfl rfl (one_of HT_.out (by kernel_rfl)) (by decide) (fun K hK => ?_)
    refine goes_ Try.func9 (by kernel_rfl) rfl #[.slice A0 l0.length c0, .int .i64 1, .int .i64 (t421.length : Int)] (by rfl) rfl rfl (by (try simp only [List.map_toArray, List.map_cons, List.map_nil]); first | done | rfl | (simp only [List.length_drop, List.length_take]; rfl)) ?_
    with_reducible refine (laws_a8At.calls _ _ l0 1 (t421.length : Int) t437 _ ?side1 ?side2 A7.out).mono ?_
    (case side1 => repeat (first | exact (Kd.C_below HR0.out HB.out) | (with_reducible refine Kd.C_alloc ?_ _) | (with_reducible refine Kd.C_drewN ?_ _) | (with_reducible refine Kd.C_drew ?_)))
    (case side2 => exact HC0.out)
    rintro e w' ⟨rfl, ⟨nd, rfl⟩⟩
    refine ⟨_, rfl, ?_⟩
    refine hK.out _ _ ⟨(blk_cell BK427.out 0).trans rfl, (blk_cell BK427.out 1).trans rfl, hHeld.2.2.1, hHeld.2.2.2⟩ (fun hHeld => ?_)
    clear hK K
    refine norm_ (a' := ?_) ?_ ?_
    (rotate_left; ·(show Act.put _ (some 34) _ = _; simp only [Act.put, pq_z4]; rfl))
    refine pu_z4 7 (some 35) ?_ mz4_8 rfl rfl (any_of HT_.out (by kernel_rfl)) (fun _ _ _ h => h) (Or.inl ⟨by rfl, ?_⟩) ?_ ?_ ?_
    (rotate_left; ·(intro w'; go_simp; with_reducible rfl)); (rotate_left; ·(simp only [Act.put, pq_z4]; rfl))
    refine pu_z4 8 (some 36) ?_ mz4_9 rfl rfl (any_of HT_.out (by kernel_rfl)) (fun _ _ _ h => h) (Or.inl ⟨by rfl, ?_⟩) ?_ ?_ ?_
    (rotate_left; ·(intro w'; go_simp; with_reducible rfl)); (rotate_left; ·(simp only [Act.put, pq_z4]; rfl))
    refine take_ (i := 9) (N := some 37) (v := ?_) (a' := ?_) mz4_10 rfl rfl (take_ofW HT_.out HW_.out (by kernel_rfl)) (fun _ _ _ h => h) (Or.inl ⟨by rfl, ?_⟩) hHeld ?_ ?_
    (rotate_left; ·(rintro w' ⟨s0, s1, s2, s3⟩; go_simp; with_reducible rfl)); (rotate_left; ·(simp only [Act.put, pq_z4]; rfl))
    refine pu_z4 10 (some 6) ?_ mz4_11 rfl rfl (any_of HT_.out (by kernel_rfl)) (fun _ _ _ h => h) (Or.inl ⟨by rfl, ?_⟩) ?_ ?_ ?_
    (rotate_left; ·(intro w'; go_simp; with_reducible rfl)); (rotate_left; ·(simp only [Act.put, pq_z4]; rfl))
    refine done_ (done_of HT_.out (by kernel_rfl)) ?_
    go_upto_region 12 with (first | ((with_reducible refine gate_callee (f := 10) rfl ?_); refine goesL_ (some 39) rfl rfl Try.func10 (by kernel_rfl) rfl #[.slice A0 l0.length c0] rfl (by (try simp only [List.map_toArray, List.map_cons, List.map_nil]); first | done | rfl | (simp only [List.length_drop, List.length_take]; rfl)) ?_; (with_reducible refine (spec_A8Number.calls k _ _ l0 t439 _ ?side1 ?side2 A10.out).mono ?_); (case side1 => repeat (first | exact (Kd.C_below HR0.out (by repeat (first | (with_reducible first | exact HB.out | apply below_alloc | apply pw_below_drewN | apply below_drew1 | refine below_set ?_ GE427.out | refine below_set ?_ GE435.out) | exact HB.out))) | (with_reducible refine Kd.C_alloc ?_ _) | (with_reducible refine Kd.C_drewN ?_ _) | (with_reducible refine Kd.C_drew ?_))); (case side2 => exact HC0.out); rintro e w35 ⟨rfl, hb⟩; refine ⟨_, rfl, ?_⟩; have n0_ := Aside0.mk (Kd.R_below (by (with_reducible repeat (first | apply Kd.R_alloc | apply Kd.R_drewN | apply Kd.R_drew)); exact HO423.out) hb); have n1_ := Aside0.mk (Kd.S_below (by (with_reducible repeat (first | apply Kd.S_alloc | apply Kd.S_drewN | apply Kd.S_drew)); exact HO426.out) hb); have n2_ := Aside0.mk (Kd.R_below (by (with_reducible repeat (first | apply Kd.R_alloc | apply Kd.R_drewN | apply Kd.R_drew)); exact HO430.out) hb); have n3_ := Aside0.mk (blk_below (g := gb427) (o := .cells #[.slice (some ad438) t421.length co17, .slice Ao19 t424.length co19] 26 (0, 0)) (by (with_reducible repeat first | apply blk_drewN | apply blk_drew | apply blk_alloc); exact BK427.out) hb); have n4_ := Aside0.mk (blk_below (g := gb435) (o := .cells #[.int .i64 t431, .int .i64 t432, .int .i64 t433, .bool true] 29 (0, 0)) (by (with_reducible repeat first | apply blk_drewN | apply blk_drew | apply blk_alloc); exact BK435.out) hb); have n5_ := Aside0.mk (below_step (by repeat (first | (with_reducible first | exact HB.out | apply below_alloc | apply pw_below_drewN | apply below_drew1 | refine below_set ?_ GE427.out | refine below_set ?_ GE435.out) | exact HB.out)) hb); clear HO423; clear HO426; clear HO430; clear BK427; clear BK435; clear HB; have HO423 := n0_; have HO426 := n1_; have HO430 := n2_; have BK427 := n3_; have BK435 := n4_; have HB := n5_; clear n0_ n1_ n2_ n3_ n4_ n5_; (try clear hb); (try clear hb2); (try clear hk); (try clear hi); have hcz36_0 : w35.cell? ⟨gb427, 0, none⟩ = some (.slice (some ad438) t421.length co17) := (blk_cell BK427.out 0).trans rfl; have hcz36_1 : w35.cell? ⟨gb427, 1, none⟩ = some (.slice Ao19 t424.length co19) := (blk_cell BK427.out 1).trans rfl; have hfz36_0 := blk_frozen BK427.out 0; have hfz36_1 := blk_frozen BK427.out 1; have hcz37_0 : w35.cell? ⟨gb435, 0, none⟩ = some (.int .i64 t431) := (blk_cell BK435.out 0).trans rfl; have hcz37_1 : w35.cell? ⟨gb435, 1, none⟩ = some (.int .i64 t432) := (blk_cell BK435.out 1).trans rfl; have hcz37_2 : w35.cell? ⟨gb435, 2, none⟩ = some (.int .i64 t433) := (blk_cell BK435.out 2).trans rfl; have hcz37_3 : w35.cell? ⟨gb435, 3, none⟩ = some (.bool true) := (blk_cell BK435.out 3).trans rfl; have hfz37_0 := blk_frozen BK435.out 0; have hfz37_1 := blk_frozen BK435.out 1; have hfz37_2 := blk_frozen BK435.out 2; have hfz37_3 := blk_frozen BK435.out 3) | ((with_reducible refine gate_callee (f := 11) rfl ?_); refine goesL_ (some 45) rfl rfl Try.func11 (by kernel_rfl) rfl #[.agg #[.slice (some ad438) t421.length co17, .slice Ao19 t424.length co19], .agg #[.int .i64 t431, .int .i64 t432, .int .i64 t433, .bool true], .int .i64 t439, .int .i64 (wrap64 (1 + t436)), .slice none 0 0] rfl (by (try simp only [List.map_toArray, List.map_cons, List.map_nil]); first | done | rfl | (simp only [List.length_drop, List.length_take]; rfl)) ?_; (refine (impl_Place.calls k _ _ t421 _ _ t424 t431 t432 t433 true t439 (wrap64 (1 + t436)) _ _ ([] : List Int) t440 t443 _ ?side1 ?side2 ?side3 ?side4 ?side5 ?side6 A11.out).mono ?_); (case side1 => repeat (first | exact (Kd.R_reads' HO423.out).2.2 | (with_reducible refine Kd.C_alloc ?_ _) | (with_reducible refine Kd.C_drewN ?_ _) | (with_reducible refine Kd.C_drew ?_))); (case side2 => exact (Kd.R_reads' HO423.out).2.1); (case side3 => repeat (first | exact (Kd.S_reads' HO426.out).2.2 | (with_reducible refine Kd.C_alloc ?_ _) | (with_reducible refine Kd.C_drewN ?_ _) | (with_reducible refine Kd.C_drew ?_))); (case side4 => exact (Kd.S_reads' HO426.out).2.1); (case side5 => exact Kd.C_nil _ _); (case side6 => exact Nat.le_refl _); rintro e w38 ⟨v441, rfl, ho0, hb⟩; refine ⟨_, rfl, ?_⟩; have n0_ := Aside0.mk (Kd.R_below (by (with_reducible repeat (first | apply Kd.R_alloc | apply Kd.R_drewN | apply Kd.R_drew)); exact HO423.out) hb); have n1_ := Aside0.mk (Kd.S_elder' (by (with_reducible repeat (first | apply Kd.S_alloc | apply Kd.S_drewN | apply Kd.S_drew)); exact HO426.out) (Kd.R_base ho0) hb); have n2_ := Aside0.mk (Kd.R_below (by (with_reducible repeat (first | apply Kd.R_alloc | apply Kd.R_drewN | apply Kd.R_drew)); exact HO430.out) hb); have n3_ := Aside0.mk (Kd.R_lower ho0 (below_size (by repeat (first | (with_reducible first | exact HB.out | apply below_alloc | apply pw_below_drewN | apply below_drew1 | refine below_set ?_ GE427.out | refine below_set ?_ GE435.out) | exact HB.out)))); have n4_ := Aside0.mk (blk_below (g := gb427) (o := .cells #[.slice (some ad438) t421.length co17, .slice Ao19 t424.length co19] 26 (0, 0)) (by (with_reducible repeat first | apply blk_drewN | apply blk_drew | apply blk_alloc); exact BK427.out) hb); have n5_ := Aside0.mk (blk_below (g := gb435) (o := .cells #[.int .i64 t431, .int .i64 t432, .int .i64 t433, .bool true] 29 (0, 0)) (by (with_reducible repeat first | apply blk_drewN | apply blk_drew | apply blk_alloc); exact BK435.out) hb); have n6_ := Aside0.mk (below_step (by repeat (first | (with_reducible first | exact HB.out | apply below_alloc | apply pw_below_drewN | apply below_drew1 | refine below_set ?_ GE427.out | refine below_set ?_ GE435.out) | exact HB.out)) hb); clear HO423; clear HO426; clear HO430; clear BK427; clear BK435; clear HB; have HO423 := n0_; have HO426 := n1_; have HO430 := n2_; have HO442 := n3_; have BK427 := n4_; have BK435 := n5_; have HB := n6_; clear n0_ n1_ n2_ n3_ n4_ n5_ n6_; (try clear hb); (try clear hb2); (try clear hk); (try clear hi); (try clear ho0); have hcz39_0 : w38.cell? ⟨gb427, 0, none⟩ = some (.slice (some ad438) t421.length co17) := (blk_cell BK427.out 0).trans rfl; have hcz39_1 : w38.cell? ⟨gb427, 1, none⟩ = some (.slice Ao19 t424.length co19) := (blk_cell BK427.out 1).trans rfl; have hfz39_0 := blk_frozen BK427.out 0; have hfz39_1 := blk_frozen BK427.out 1; have hcz40_0 : w38.cell? ⟨gb435, 0, none⟩ = some (.int .i64 t431) := (blk_cell BK435.out 0).trans rfl; have hcz40_1 : w38.cell? ⟨gb435, 1, none⟩ = some (.int .i64 t432) := (blk_cell BK435.out 1).trans rfl; have hcz40_2 : w38.cell? ⟨gb435, 2, none⟩ = some (.int .i64 t433) := (blk_cell BK435.out 2).trans rfl; have hcz40_3 : w38.cell? ⟨gb435, 3, none⟩ = some (.bool true) := (blk_cell BK435.out 3).trans rfl; have hfz40_0 := blk_frozen BK435.out 0; have hfz40_1 := blk_frozen BK435.out 1; have hfz40_2 := blk_frozen BK435.out 2; have hfz40_3 := blk_frozen BK435.out 3) | ((with_reducible refine gate_dst (N := 54) rfl ?_); refine Kd.R_lit (Kd.int .i64) _ 2 ?hg (N := 54) ?hd (xs := ([(rd_T34 t421 t437).f0] : List Int)) (inner := [.int .i64 ((rd_T34 t421 t437).f0)]) (ok := fun _ => True) (okp := fun _ => True) ?hr ?hp (fun _ hk => hk) trivial (Below.refl _ _) (Nat.le_refl _) (by simp) ?_; (case hd => rfl); (case hg => rfl); (case hr => first | (go_simp; done) | (go_simp; rfl)); (case hp => exact (Reps.one (show Kd.M (Kd.int .i64) _ _ _ ((rd_T34 t421 t437).f0) [.int .i64 ((rd_T34 t421 t437).f0)] from rfl) (Reps.none _ _))); intro v445 w41 ho42 hb hg_ hnew_; clear hg_ hnew_; (first | rw [← Ny444.out] at ho42 | (simp only [Int.reduceToNat] at ho42; rw [← Ny444.out] at ho42)); have n0_ := Aside0.mk (Kd.R_below (by (with_reducible repeat (first | apply Kd.R_alloc | apply Kd.R_drewN | apply Kd.R_drew)); exact HO423.out) hb); have n1_ := Aside0.mk (Kd.S_elder' (by (with_reducible repeat (first | apply Kd.S_alloc | apply Kd.S_drewN | apply Kd.S_drew)); exact HO426.out) (Kd.R_base ho42) hb); have n2_ := Aside0.mk (Kd.R_below (by (with_reducible repeat (first | apply Kd.R_alloc | apply Kd.R_drewN | apply Kd.R_drew)); exact HO430.out) hb); have n3_ := Aside0.mk (Kd.R_elder' (by (with_reducible repeat (first | apply Kd.R_alloc | apply Kd.R_drewN | apply Kd.R_drew)); exact HO442.out) (Kd.R_base ho42) hb); have n4_ := Aside0.mk (Kd.R_lower (Kd.R_new' ho42 (Kd.R_lt (by (with_reducible repeat (first | apply Kd.R_alloc | apply Kd.R_drewN | apply Kd.R_drew)); exact HO442.out))) (below_size (by repeat (first | (with_reducible first | exact HB.out | apply below_alloc | apply pw_below_drewN | apply below_drew1 | refine below_set ?_ GE427.out | refine below_set ?_ GE435.out) | exact HB.out)))); have n5_ := Aside0.mk (blk_below (g := gb427) (o := .cells #[.slice (some ad438) t421.length co17, .slice Ao19 t424.length co19] 26 (0, 0)) (by (with_reducible repeat first | apply blk_drewN | apply blk_drew | apply blk_alloc); exact BK427.out) hb); have n6_ := Aside0.mk (blk_below (g := gb435) (o := .cells #[.int .i64 t431, .int .i64 t432, .int .i64 t433, .bool true] 29 (0, 0)) (by (with_reducible repeat first | apply blk_drewN | apply blk_drew | apply blk_alloc); exact BK435.out) hb); have n7_ := Aside0.mk (below_step (by repeat (first | (with_reducible first | exact HB.out | apply below_alloc | apply pw_below_drewN | apply below_drew1 | refine below_set ?_ GE427.out | refine below_set ?_ GE435.out) | exact HB.out)) hb); clear HO423; clear HO426; clear HO430; clear HO442; clear BK427; clear BK435; clear HB; have HO423 := n0_; have HO426 := n1_; have HO430 := n2_; have HO442 := n3_; have HO446 := n4_; have BK427 := n5_; have BK435 := n6_; have HB := n7_; clear n0_ n1_ n2_ n3_ n4_ n5_ n6_ n7_; clear hb ho42; obtain ⟨Ao43, co43, eo43⟩ := Kd.R_slice HO446.out; subst eo43) | ((with_reducible refine gate_callee (f := 11) rfl ?_); refine goesL_ (some 55) rfl rfl Try.func11 (by kernel_rfl) rfl #[.agg #[.slice (some ad438) t421.length co17, .slice Ao19 t424.length co19], .agg #[.int .i64 t431, .int .i64 t432, .int .i64 t433, .bool true], .int .i64 t439, .int .i64 (wrap64 (1 + t436)), .slice Ao43 y444.length co43] rfl (by (try simp only [List.map_toArray, List.map_cons, List.map_nil]); first | done | rfl | (simp only [List.length_drop, List.length_take]; rfl)) ?_; (with_reducible refine (impl_Place.calls k _ _ t421 _ _ t424 t431 t432 t433 true t439 (wrap64 (1 + t436)) _ _ y444 t447 t450 _ ?side1 ?side2 ?side3 ?side4 ?side5 ?side6 A12.out).mono ?_); (case side1 => repeat (first | exact (Kd.R_reads' HO423.out).2.2 | (with_reducible refine Kd.C_alloc ?_ _) | (with_reducible refine Kd.C_drewN ?_ _) | (with_reducible refine Kd.C_drew ?_))); (case side2 => exact (Kd.R_reads' HO423.out).2.1); (case side3 => repeat (first | exact (Kd.S_reads' HO426.out).2.2 | (with_reducible refine Kd.C_alloc ?_ _) | (with_reducible refine Kd.C_drewN ?_ _) | (with_reducible refine Kd.C_drew ?_))); (case side4 => exact (Kd.S_reads' HO426.out).2.1); (case side5 => repeat (first | exact (Kd.R_reads' HO446.out).2.2 | (with_reducible refine Kd.C_alloc ?_ _) | (with_reducible refine Kd.C_drewN ?_ _) | (with_reducible refine Kd.C_drew ?_))); (case side6 => exact (Kd.R_reads' HO446.out).2.1); rintro e w44 ⟨v448, rfl, ho0, hb⟩; refine ⟨_, rfl, ?_⟩; have n0_ := Aside0.mk (Kd.R_below (by (with_reducible repeat (first | apply Kd.R_alloc | apply Kd.R_drewN | apply Kd.R_drew)); exact HO423.out) hb); have n1_ := Aside0.mk (Kd.S_elder' (by (with_reducible repeat (first | apply Kd.S_alloc | apply Kd.S_drewN | apply Kd.S_drew)); exact HO426.out) (Kd.R_base ho0) hb); have n2_ := Aside0.mk (Kd.R_below (by (with_reducible repeat (first | apply Kd.R_alloc | apply Kd.R_drewN | apply Kd.R_drew)); exact HO430.out) hb); have n3_ := Aside0.mk (Kd.R_elder' (by (with_reducible repeat (first | apply Kd.R_alloc | apply Kd.R_drewN | apply Kd.R_drew)); exact HO442.out) (Kd.R_base ho0) hb); have n4_ := Aside0.mk (Kd.R_elder' (by (with_reducible repeat (first | apply Kd.R_alloc | apply Kd.R_drewN | apply Kd.R_drew)); exact HO446.out) (Kd.R_base ho0) hb); have n5_ := Aside0.mk (Kd.R_lower (Kd.R_new' (Kd.R_new' ho0 (Kd.R_lt (by (with_reducible repeat (first | apply Kd.R_alloc | apply Kd.R_drewN | apply Kd.R_drew)); exact HO442.out))) (Kd.R_lt (by (with_reducible repeat (first | apply Kd.R_alloc | apply Kd.R_drewN | apply Kd.R_drew)); exact HO446.out))) (below_size (by repeat (first | (with_reducible first | exact HB.out | apply below_alloc | apply pw_below_drewN | apply below_drew1 | refine below_set ?_ GE427.out | refine below_set ?_ GE435.out) | exact HB.out)))); have n6_ := Aside0.mk (blk_below (g := gb427) (o := .cells #[.slice (some ad438) t421.length co17, .slice Ao19 t424.length co19] 26 (0, 0)) (by (with_reducible repeat first | apply blk_drewN | apply blk_drew | apply blk_alloc); exact BK427.out) hb); have n7_ := Aside0.mk (blk_below (g := gb435) (o := .cells #[.int .i64 t431, .int .i64 t432, .int .i64 t433, .bool true] 29 (0, 0)) (by (with_reducible repeat first | apply blk_drewN | apply blk_drew | apply blk_alloc); exact BK435.out) hb); have n8_ := Aside0.mk (below_step (by repeat (first | (with_reducible first | exact HB.out | apply below_alloc | apply pw_below_drewN | apply below_drew1 | refine below_set ?_ GE427.out | refine below_set ?_ GE435.out) | exact HB.out)) hb); clear HO423; clear HO426; clear HO430; clear HO442; clear HO446; clear BK427; clear BK435; clear HB; have HO423 := n0_; have HO426 := n1_; have HO430 := n2_; have HO442 := n3_; have HO446 := n4_; have HO449 := n5_; have BK427 := n6_; have BK435 := n7_; have HB := n8_; clear n0_ n1_ n2_ n3_ n4_ n5_ n6_ n7_ n8_; (try clear hb); (try clear hb2); (try clear hk); (try clear hi); (try clear ho0); have hcz45_0 : w44.cell? ⟨gb427, 0, none⟩ = some (.slice (some ad438) t421.length co17) := (blk_cell BK427.out 0).trans rfl; have hcz45_1 : w44.cell? ⟨gb427, 1, none⟩ = some (.slice Ao19 t424.length co19) := (blk_cell BK427.out 1).trans rfl; have hfz45_0 := blk_frozen BK427.out 0; have hfz45_1 := blk_frozen BK427.out 1; have hcz46_0 : w44.cell? ⟨gb435, 0, none⟩ = some (.int .i64 t431) := (blk_cell BK435.out 0).trans rfl; have hcz46_1 : w44.cell? ⟨gb435, 1, none⟩ = some (.int .i64 t432) := (blk_cell BK435.out 1).trans rfl; have hcz46_2 : w44.cell? ⟨gb435, 2, none⟩ = some (.int .i64 t433) := (blk_cell BK435.out 2).trans rfl; have hcz46_3 : w44.cell? ⟨gb435, 3, none⟩ = some (.bool true) := (blk_cell BK435.out 3).trans rfl; have hfz46_0 := blk_frozen BK435.out 0; have hfz46_1 := blk_frozen BK435.out 1; have hfz46_2 := blk_frozen BK435.out 2; have hfz46_3 := blk_frozen BK435.out 3) | ((with_reducible refine gate_callee (f := 13) rfl ?_); refine goesL_ (some 63) rfl rfl Try.func13 (by kernel_rfl) rfl #[.agg #[.slice (some ad438) t421.length co17, .slice Ao19 t424.length co19], .agg #[.int .i64 t431, .int .i64 t432, .int .i64 t433, .bool true], .int .i64 t439, .int .i64 (wrap64 (1 + t436))] rfl (by (try simp only [List.map_toArray, List.map_cons, List.map_nil]); first | done | rfl | (simp only [List.length_drop, List.length_take]; rfl)) ?_; (with_reducible refine (impl_PlaceWhole.calls k _ _ t421 _ _ t424 t431 t432 t433 true t439 (wrap64 (1 + t436)) t451 t454 _ ?side1 ?side2 ?side3 ?side4 A13.out).mono ?_); (case side1 => repeat (first | exact (Kd.R_reads' HO423.out).2.2 | (with_reducible refine Kd.C_alloc ?_ _) | (with_reducible refine Kd.C_drewN ?_ _) | (with_reducible refine Kd.C_drew ?_))); (case side2 => exact (Kd.R_reads' HO423.out).2.1); (case side3 => repeat (first | exact (Kd.S_reads' HO426.out).2.2 | (with_reducible refine Kd.C_alloc ?_ _) | (with_reducible refine Kd.C_drewN ?_ _) | (with_reducible refine Kd.C_drew ?_))); (case side4 => exact (Kd.S_reads' HO426.out).2.1); rintro e w47 ⟨v452, rfl, ho0, hb⟩; refine ⟨_, rfl, ?_⟩; have n0_ := Aside0.mk (Kd.R_below (by (with_reducible repeat (first | apply Kd.R_alloc | apply Kd.R_drewN | apply Kd.R_drew)); exact HO423.out) hb); have n1_ := Aside0.mk (Kd.S_elder' (by (with_reducible repeat (first | apply Kd.S_alloc | apply Kd.S_drewN | apply Kd.S_drew)); exact HO426.out) (Kd.R_base ho0) hb); have n2_ := Aside0.mk (Kd.R_below (by (with_reducible repeat (first | apply Kd.R_alloc | apply Kd.R_drewN | apply Kd.R_drew)); exact HO430.out) hb); have n3_ := Aside0.mk (Kd.R_elder' (by (with_reducible repeat (first | apply Kd.R_alloc | apply Kd.R_drewN | apply Kd.R_drew)); exact HO442.out) (Kd.R_base ho0) hb); have n4_ := Aside0.mk (Kd.R_elder' (by (with_reducible repeat (first | apply Kd.R_alloc | apply Kd.R_drewN | apply Kd.R_drew)); exact HO446.out) (Kd.R_base ho0) hb); have n5_ := Aside0.mk (Kd.R_elder' (by (with_reducible repeat (first | apply Kd.R_alloc | apply Kd.R_drewN | apply Kd.R_drew)); exact HO449.out) (Kd.R_base ho0) hb); have n6_ := Aside0.mk (Kd.R_lower (Kd.R_new' (Kd.R_new' (Kd.R_new' ho0 (Kd.R_lt (by (with_reducible repeat (first | apply Kd.R_alloc | apply Kd.R_drewN | apply Kd.R_drew)); exact HO442.out))) (Kd.R_lt (by (with_reducible repeat (first | apply Kd.R_alloc | apply Kd.R_drewN | apply Kd.R_drew)); exact HO446.out))) (Kd.R_lt (by (with_reducible repeat (first | apply Kd.R_alloc | apply Kd.R_drewN | apply Kd.R_drew)); exact HO449.out))) (below_size (by repeat (first | (with_reducible first | exact HB.out | apply below_alloc | apply pw_below_drewN | apply below_drew1 | refine below_set ?_ GE427.out | refine below_set ?_ GE435.out) | exact HB.out)))); have n7_ := Aside0.mk (blk_below (g := gb427) (o := .cells #[.slice (some ad438) t421.length co17, .slice Ao19 t424.length co19] 26 (0, 0)) (by (with_reducible repeat first | apply blk_drewN | apply blk_drew | apply blk_alloc); exact BK427.out) hb); have n8_ := Aside0.mk (blk_below (g := gb435) (o := .cells #[.int .i64 t431, .int .i64 t432, .int .i64 t433, .bool true] 29 (0, 0)) (by (with_reducible repeat first | apply blk_drewN | apply blk_drew | apply blk_alloc); exact BK435.out) hb); have n9_ := Aside0.mk (below_step (by repeat (first | (with_reducible first | exact HB.out | apply below_alloc | apply pw_below_drewN | apply below_drew1 | refine below_set ?_ GE427.out | refine below_set ?_ GE435.out) | exact HB.out)) hb); clear HO423; clear HO426; clear HO430; clear HO442; clear HO446; clear HO449; clear BK427; clear BK435; clear HB; have HO423 := n0_; have HO426 := n1_; have HO430 := n2_; have HO442 := n3_; have HO446 := n4_; have HO449 := n5_; have HO453 := n6_; have BK427 := n7_; have BK435 := n8_; have HB := n9_; clear n0_ n1_ n2_ n3_ n4_ n5_ n6_ n7_ n8_ n9_; (try clear hb); (try clear hb2); (try clear hk); (try clear hi); (try clear ho0)))
    (try simp only [Act.put, List.setIfInBounds_toArray, List.set_cons_zero, List.set_cons_succ])
    go_cut [93] (fun v93 wc => ∃ (kq : Nat) (x93_13 : Bool), v93 = .bool x93_13 ∧ Aside0 (laws_FnHoles.j0 kq (wrap64 (1 + t436)) ((rd_T34 t421 t437).f0) t440 t447 x93_13 = some r) ∧ Aside0 (kq ≤ k) ∧ Aside0 (Kd.R (Kd.int .i64) 2 wc w.heap.size (fun k_ => some k_ ≠ (v448 : Value).ownBlock) v441 t440) ∧ Aside0 (Kd.R (Kd.int .i64) 2 wc w.heap.size (fun k_ => some k_ ≠ (v441 : Value).ownBlock) v448 t447) ∧ Aside0 (Kd.R k34 34 wc w.heap.size (fun _ => True) (.slice (some ad438) t421.length co17) t421) ∧ Aside0 (Kd.S k70 70 wc w.heap.size (fun k_ => some k_ ≠ (v441 : Value).ownBlock ∧ some k_ ≠ (v448 : Value).ownBlock) (.slice Ao19 t424.length co19) t424) ∧ Aside0 (wc.heap[gb427]? = some (.cells #[(.slice (some ad438) t421.length co17), (.slice Ao19 t424.length co19)] 26 (0, 0))) ∧ Aside0 (wc.heap[gb435]? = some (.cells #[.int .i64 t431, .int .i64 t432, .int .i64 t433, .bool true] 29 (0, 0))) ∧ Aside0 (Below w.heap.size w wc))
    case first =>
     have H := HC14.out
     clear HC14
     by_cases c48 : t443 = true
     ·subst c48
      have H1 : (if t450 = true then (if t454 = true then (if (t440.length : Int) = (wrap64 (1 + t436)) then (if (t447.length : Int) = (wrap64 (1 + t436)) then ((laws_a8Same.f k t440 t451).bind fun t455 => (laws_FnHoles.j0 k (wrap64 (1 + t436)) ((rd_T34 t421 t437).f0) t440 t447 (!t455))) else (laws_FnHoles.j0 k (wrap64 (1 + t436)) ((rd_T34 t421 t437).f0) t440 t447 true)) else (laws_FnHoles.j0 k (wrap64 (1 + t436)) ((rd_T34 t421 t437).f0) t440 t447 true)) else (laws_FnHoles.j0 k (wrap64 (1 + t436)) ((rd_T34 t421 t437).f0) t440 t447 true)) else (laws_FnHoles.j0 k (wrap64 (1 + t436)) ((rd_T34 t421 t437).f0) t440 t447 true)) = some r := by rw [if_pos rfl] at H; exact H
      clear H
      have H := H1
      clear H1
      by_cases c49 : t450 = true
      ·subst c49
       have H1 : (if t454 = true then (if (t440.length : Int) = (wrap64 (1 + t436)) then (if (t447.length : Int) = (wrap64 (1 + t436)) then ((laws_a8Same.f k t440 t451).bind fun t455 => (laws_FnHoles.j0 k (wrap64 (1 + t436)) ((rd_T34 t421 t437).f0) t440 t447 (!t455))) else (laws_FnHoles.j0 k (wrap64 (1 + t436)) ((rd_T34 t421 t437).f0) t440 t447 true)) else (laws_FnHoles.j0 k (wrap64 (1 + t436)) ((rd_T34 t421 t437).f0) t440 t447 true)) else (laws_FnHoles.j0 k (wrap64 (1 + t436)) ((rd_T34 t421 t437).f0) t440 t447 true)) = some r := by rw [if_pos rfl] at H; exact H
       clear H
       have H := H1
       clear H1
       by_cases c50 : t454 = true
       ·subst c50
        have H1 : (if (t440.length : Int) = (wrap64 (1 + t436)) then (if (t447.length : Int) = (wrap64 (1 + t436)) then ((laws_a8Same.f k t440 t451).bind fun t455 => (laws_FnHoles.j0 k (wrap64 (1 + t436)) ((rd_T34 t421 t437).f0) t440 t447 (!t455))) else (laws_FnHoles.j0 k (wrap64 (1 + t436)) ((rd_T34 t421 t437).f0) t440 t447 true)) else (laws_FnHoles.j0 k (wrap64 (1 + t436)) ((rd_T34 t421 t437).f0) t440 t447 true)) = some r := by rw [if_pos rfl] at H; exact H
        clear H
        have H := H1
        clear H1
        by_cases c51 : (t440.length : Int) = (wrap64 (1 + t436))
        ·rw [if_pos c51] at H
         have c51b0 : ((t440.length : Int) == (wrap64 (1 + t436))) = true := beq_iff_eq.mpr c51
         have c51b1 : ((t440.length : Int) != (wrap64 (1 + t436))) = false := bne_eq_false_iff_eq.mpr c51
         clear c51
         (first | rw [c51b0] | (simp only [i64_w, i32_w]; rw [c51b0]) | skip)
         by_cases c52 : (t447.length : Int) = (wrap64 (1 + t436))
         ·rw [if_pos c52] at H
          have c52b0 : ((t447.length : Int) == (wrap64 (1 + t436))) = true := beq_iff_eq.mpr c52
          have c52b1 : ((t447.length : Int) != (wrap64 (1 + t436))) = false := bne_eq_false_iff_eq.mpr c52
          clear c52
          replace H := Option.bind_eq_some_iff.mp H
          obtain ⟨t455, A530, H⟩ := H
          replace H : (laws_FnHoles.j0 k (wrap64 (1 + t436)) ((rd_T34 t421 t437).f0) t440 t447 (!t455)) = some r := H
          have A53 := Aside0.mk A530
          clear A530
          have H' := Aside0.mk H
          clear H
          obtain ⟨Ao54, co54, eo54⟩ := Kd.R_slice HO442.out
          subst eo54
          obtain ⟨Ao55, co55, eo55⟩ := Kd.R_slice HO449.out
          subst eo55
          obtain ⟨Ao56, co56, eo56⟩ := Kd.R_slice HO453.out
          subst eo56
          go_wp2_with (first | (go_at_call 14; (with_reducible refine (laws_a8Same.calls k _ _ t440 _ _ t451 t455 _ ?side1 ?side2 ?side3 ?side4 A53.out).mono ?_); (case side1 => repeat (first | exact (Kd.R_reads' HO442.out).2.2 | (with_reducible refine Kd.C_alloc ?_ _) | (with_reducible refine Kd.C_drewN ?_ _) | (with_reducible refine Kd.C_drew ?_))); (case side2 => exact (Kd.R_reads' HO442.out).2.1); (case side3 => repeat (first | exact (Kd.R_reads' HO453.out).2.2 | (with_reducible refine Kd.C_alloc ?_ _) | (with_reducible refine Kd.C_drewN ?_ _) | (with_reducible refine Kd.C_drew ?_))); (case side4 => exact (Kd.R_reads' HO453.out).2.1); rintro e w' ⟨rfl, ⟨nd, rfl⟩⟩))
          go_meet
          case rel => exact ⟨_, (!t455), (by first | rfl | (simp; done) | (simp [*]; done)), H', ⟨by first | omega | exact Nat.le_refl _⟩, ⟨by (with_reducible repeat (first | apply Kd.R_alloc | apply Kd.R_drewN | apply Kd.R_drew)); exact Kd.R_mono HO442.out (fun _ hk => hk.1.2)⟩, ⟨by (with_reducible repeat (first | apply Kd.R_alloc | apply Kd.R_drewN | apply Kd.R_drew)); exact Kd.R_mono HO449.out (fun _ hk => hk.1.1.2)⟩, ⟨by (with_reducible repeat (first | apply Kd.R_alloc | apply Kd.R_drewN | apply Kd.R_drew)); exact HO423.out⟩, ⟨by (with_reducible repeat (first | apply Kd.S_alloc | apply Kd.S_drewN | apply Kd.S_drew)); exact Kd.S_mono HO426.out (fun _ hk => ⟨hk.1.1.1.2, hk.1.2⟩)⟩, ⟨by (with_reducible repeat first | apply blk_drewN | apply blk_drew | apply blk_alloc); exact BK427.out⟩, ⟨by (with_reducible repeat first | apply blk_drewN | apply blk_drew | apply blk_alloc); exact BK435.out⟩, ⟨by repeat (first | (with_reducible first | exact HB.out | apply below_alloc | apply pw_below_drewN | apply below_drew1 | refine below_set ?_ GE427.out | refine below_set ?_ GE435.out) | exact HB.out)⟩⟩
         ·rw [if_neg c52] at H
          have c52b0 : ((t447.length : Int) == (wrap64 (1 + t436))) = false := beq_eq_false_iff_ne.mpr c52
          have c52b1 : ((t447.length : Int) != (wrap64 (1 + t436))) = true := bne_iff_ne.mpr c52
          have H' := Aside0.mk H
          clear H
          obtain ⟨Ao57, co57, eo57⟩ := Kd.R_slice HO442.out
          subst eo57
          obtain ⟨Ao58, co58, eo58⟩ := Kd.R_slice HO449.out
          subst eo58
          go_wp2
          go_meet
          case rel => exact ⟨_, (true), (by first | rfl | (simp; done) | (simp [*]; done)), H', ⟨by first | omega | exact Nat.le_refl _⟩, ⟨by (with_reducible repeat (first | apply Kd.R_alloc | apply Kd.R_drewN | apply Kd.R_drew)); exact Kd.R_mono HO442.out (fun _ hk => hk.1.2)⟩, ⟨by (with_reducible repeat (first | apply Kd.R_alloc | apply Kd.R_drewN | apply Kd.R_drew)); exact Kd.R_mono HO449.out (fun _ hk => hk.1.1.2)⟩, ⟨by (with_reducible repeat (first | apply Kd.R_alloc | apply Kd.R_drewN | apply Kd.R_drew)); exact HO423.out⟩, ⟨by (with_reducible repeat (first | apply Kd.S_alloc | apply Kd.S_drewN | apply Kd.S_drew)); exact Kd.S_mono HO426.out (fun _ hk => ⟨hk.1.1.1.2, hk.1.2⟩)⟩, ⟨by (with_reducible repeat first | apply blk_drewN | apply blk_drew | apply blk_alloc); exact BK427.out⟩, ⟨by (with_reducible repeat first | apply blk_drewN | apply blk_drew | apply blk_alloc); exact BK435.out⟩, ⟨by repeat (first | (with_reducible first | exact HB.out | apply below_alloc | apply pw_below_drewN | apply below_drew1 | refine below_set ?_ GE427.out | refine below_set ?_ GE435.out) | exact HB.out)⟩⟩
        ·rw [if_neg c51] at H
         have c51b0 : ((t440.length : Int) == (wrap64 (1 + t436))) = false := beq_eq_false_iff_ne.mpr c51
         have c51b1 : ((t440.length : Int) != (wrap64 (1 + t436))) = true := bne_iff_ne.mpr c51
         (first | rw [c51b0] | (simp only [i64_w, i32_w]; rw [c51b0]) | skip)
         have H' := Aside0.mk H
         clear H
         obtain ⟨Ao59, co59, eo59⟩ := Kd.R_slice HO442.out
         subst eo59
         go_wp2
         go_meet
         case rel => exact ⟨_, (true), (by first | rfl | (simp; done) | (simp [*]; done)), H', ⟨by first | omega | exact Nat.le_refl _⟩, ⟨by (with_reducible repeat (first | apply Kd.R_alloc | apply Kd.R_drewN | apply Kd.R_drew)); exact Kd.R_mono HO442.out (fun _ hk => hk.1.2)⟩, ⟨by (with_reducible repeat (first | apply Kd.R_alloc | apply Kd.R_drewN | apply Kd.R_drew)); exact Kd.R_mono HO449.out (fun _ hk => hk.1.1.2)⟩, ⟨by (with_reducible repeat (first | apply Kd.R_alloc | apply Kd.R_drewN | apply Kd.R_drew)); exact HO423.out⟩, ⟨by (with_reducible repeat (first | apply Kd.S_alloc | apply Kd.S_drewN | apply Kd.S_drew)); exact Kd.S_mono HO426.out (fun _ hk => ⟨hk.1.1.1.2, hk.1.2⟩)⟩, ⟨by (with_reducible repeat first | apply blk_drewN | apply blk_drew | apply blk_alloc); exact BK427.out⟩, ⟨by (with_reducible repeat first | apply blk_drewN | apply blk_drew | apply blk_alloc); exact BK435.out⟩, ⟨by repeat (first | (with_reducible first | exact HB.out | apply below_alloc | apply pw_below_drewN | apply below_drew1 | refine below_set ?_ GE427.out | refine below_set ?_ GE435.out) | exact HB.out)⟩⟩
       ·replace c50 := Bool.eq_false_iff.mpr c50
        subst c50
        have H1 : (laws_FnHoles.j0 k (wrap64 (1 + t436)) ((rd_T34 t421 t437).f0) t440 t447 true) = some r := by rw [if_neg (show ¬ (false = true) by decide)] at H; exact H
        clear H
        have H := H1
        clear H1
        have H' := Aside0.mk H
        clear H
        go_wp2
        go_meet
        case rel => exact ⟨_, (true), (by first | rfl | (simp; done) | (simp [*]; done)), H', ⟨by first | omega | exact Nat.le_refl _⟩, ⟨by (with_reducible repeat (first | apply Kd.R_alloc | apply Kd.R_drewN | apply Kd.R_drew)); exact Kd.R_mono HO442.out (fun _ hk => hk.1.2)⟩, ⟨by (with_reducible repeat (first | apply Kd.R_alloc | apply Kd.R_drewN | apply Kd.R_drew)); exact Kd.R_mono HO449.out (fun _ hk => hk.1.1.2)⟩, ⟨by (with_reducible repeat (first | apply Kd.R_alloc | apply Kd.R_drewN | apply Kd.R_drew)); exact HO423.out⟩, ⟨by (with_reducible repeat (first | apply Kd.S_alloc | apply Kd.S_drewN | apply Kd.S_drew)); exact Kd.S_mono HO426.out (fun _ hk => ⟨hk.1.1.1.2, hk.1.2⟩)⟩, ⟨by (with_reducible repeat first | apply blk_drewN | apply blk_drew | apply blk_alloc); exact BK427.out⟩, ⟨by (with_reducible repeat first | apply blk_drewN | apply blk_drew | apply blk_alloc); exact BK435.out⟩, ⟨by repeat (first | (with_reducible first | exact HB.out | apply below_alloc | apply pw_below_drewN | apply below_drew1 | refine below_set ?_ GE427.out | refine below_set ?_ GE435.out) | exact HB.out)⟩⟩
      ·replace c49 := Bool.eq_false_iff.mpr c49
       subst c49
       have H1 : (laws_FnHoles.j0 k (wrap64 (1 + t436)) ((rd_T34 t421 t437).f0) t440 t447 true) = some r := by rw [if_neg (show ¬ (false = true) by decide)] at H; exact H
       clear H
       have H := H1
       clear H1
       have H' := Aside0.mk H
       clear H
       go_wp2
       go_meet
       case rel => exact ⟨_, (true), (by first | rfl | (simp; done) | (simp [*]; done)), H', ⟨by first | omega | exact Nat.le_refl _⟩, ⟨by (with_reducible repeat (first | apply Kd.R_alloc | apply Kd.R_drewN | apply Kd.R_drew)); exact Kd.R_mono HO442.out (fun _ hk => hk.1.2)⟩, ⟨by (with_reducible repeat (first | apply Kd.R_alloc | apply Kd.R_drewN | apply Kd.R_drew)); exact Kd.R_mono HO449.out (fun _ hk => hk.1.1.2)⟩, ⟨by (with_reducible repeat (first | apply Kd.R_alloc | apply Kd.R_drewN | apply Kd.R_drew)); exact HO423.out⟩, ⟨by (with_reducible repeat (first | apply Kd.S_alloc | apply Kd.S_drewN | apply Kd.S_drew)); exact Kd.S_mono HO426.out (fun _ hk => ⟨hk.1.1.1.2, hk.1.2⟩)⟩, ⟨by (with_reducible repeat first | apply blk_drewN | apply blk_drew | apply blk_alloc); exact BK427.out⟩, ⟨by (with_reducible repeat first | apply blk_drewN | apply blk_drew | apply blk_alloc); exact BK435.out⟩, ⟨by repeat (first | (with_reducible first | exact HB.out | apply below_alloc | apply pw_below_drewN | apply below_drew1 | refine below_set ?_ GE427.out | refine below_set ?_ GE435.out) | exact HB.out)⟩⟩
     ·replace c48 := Bool.eq_false_iff.mpr c48
      subst c48
      have H1 : (laws_FnHoles.j0 k (wrap64 (1 + t436)) ((rd_T34 t421 t437).f0) t440 t447 true) = some r := by rw [if_neg (show ¬ (false = true) by decide)] at H; exact H
      clear H
      have H := H1
      clear H1
      have H' := Aside0.mk H
      clear H
      go_wp2
      go_meet
      case rel => exact ⟨_, (true), (by first | rfl | (simp; done) | (simp [*]; done)), H', ⟨by first | omega | exact Nat.le_refl _⟩, ⟨by (with_reducible repeat (first | apply Kd.R_alloc | apply Kd.R_drewN | apply Kd.R_drew)); exact Kd.R_mono HO442.out (fun _ hk => hk.1.2)⟩, ⟨by (with_reducible repeat (first | apply Kd.R_alloc | apply Kd.R_drewN | apply Kd.R_drew)); exact Kd.R_mono HO449.out (fun _ hk => hk.1.1.2)⟩, ⟨by (with_reducible repeat (first | apply Kd.R_alloc | apply Kd.R_drewN | apply Kd.R_drew)); exact HO423.out⟩, ⟨by (with_reducible repeat (first | apply Kd.S_alloc | apply Kd.S_drewN | apply Kd.S_drew)); exact Kd.S_mono HO426.out (fun _ hk => ⟨hk.1.1.1.2, hk.1.2⟩)⟩, ⟨by (with_reducible repeat first | apply blk_drewN | apply blk_drew | apply blk_alloc); exact BK427.out⟩, ⟨by (with_reducible repeat first | apply blk_drewN | apply blk_drew | apply blk_alloc); exact BK435.out⟩, ⟨by repeat (first | (with_reducible first | exact HB.out | apply below_alloc | apply pw_below_drewN | apply below_drew1 | refine below_set ?_ GE427.out | refine below_set ?_ GE435.out) | exact HB.out)⟩⟩
    case rest =>
     clear HC14
     try clear c1
     try clear p2
     try clear c3
     try clear c4
     try clear p4
     try clear q4
     try clear hx4
     try clear c5
     try clear p6
     try clear c7
     try clear c8
     try clear c9
     try clear c10
     try clear c11
     try clear c13
     try clear c31
     try clear p43
     try clear q43
     try clear hx43
     try clear c48
     try clear c49
     try clear c50
     try clear c51
     try clear c51b0
     try clear c51b1
     try clear c52
     try clear c52b0
     try clear c52b1
     try clear hcz32_0
     try clear hcz32_1
     try clear hcz32_2
     try clear hcz32_3
     try clear hcz36_0
     try clear hcz36_1
     try clear hcz37_0
     try clear hcz37_1
     try clear hcz37_2
     try clear hcz37_3
     try clear hcz39_0
     try clear hcz39_1
     try clear hcz40_0
     try clear hcz40_1
     try clear hcz40_2
     try clear hcz40_3
     try clear hcz45_0
     try clear hcz45_1
     try clear hcz46_0
     try clear hcz46_1
     try clear hcz46_2
     try clear hcz46_3
     try clear hfz32_0
     try clear hfz32_1
     try clear hfz32_2
     try clear hfz32_3
     try clear hfz36_0
     try clear hfz36_1
     try clear hfz37_0
     try clear hfz37_1
     try clear hfz37_2
     try clear hfz37_3
     try clear hfz39_0
     try clear hfz39_1
     try clear hfz40_0
     try clear hfz40_1
     try clear hfz40_2
     try clear hfz40_3
     try clear hfz45_0
     try clear hfz45_1
     try clear hfz46_0
     try clear hfz46_1
     try clear hfz46_2
     try clear hfz46_3
     try clear hx438_0
     try clear hx438_1
     try clear p438
     try clear q438
     obtain ⟨kq, x93_13, rfl, HA, HJ13, HO_8, HO_10, HO_428000, HO_428001, BK427, BK435, HB⟩ := hcut
     cases kq with
     | zero => exact absurd HA.out (by simp [laws_FnHoles.j0])
     | succ kj13 =>
      have H := HA.out
      clear HA
      simp only [laws_FnHoles.j0] at H
      by_cases c60 : x93_13 = true
      ·subst c60
       have H1 : (some false) = some r := by rw [if_pos rfl] at H; exact H
       clear H
       have H := H1
       clear H1
       obtain rfl := Option.some.inj H
       go_wp2
       go_ret
       exact ⟨by first | rfl | (simp [*, errW_none, errW_some] <;> rfl), by repeat (first | (with_reducible first | exact HB.out | apply below_alloc | apply pw_below_drewN | apply below_drew1 | refine below_set ?_ GE427.out | refine below_set ?_ GE435.out) | exact HB.out)⟩
      ·replace c60 := Bool.eq_false_iff.mpr c60
       subst c60
       have H1 : (laws_FnHoles.l0 kj13 (wrap64 (1 + t436)) ((rd_T34 t421 t437).f0) t440 t447 0) = some r := by rw [if_neg (show ¬ (false = true) by decide)] at H; exact H
       clear H
       have H := H1
       clear H1
       have H' := Aside0.mk H
       clear H
       go_wp2
       go_loopg [14] kj13 (fun kq v14 w' => ∃ (x14_2 : Int), v14 = .int .i64 x14_2 ∧ Aside0 (laws_FnHoles.l0 kq (wrap64 (1 + t436)) ((rd_T34 t421 t437).f0) t440 t447 x14_2 = some r) ∧ Aside0 (kq ≤ kj13) ∧ Aside0 (Kd.R (Kd.int .i64) 2 w' w.heap.size (fun k_ => some k_ ≠ (v448 : Value).ownBlock) v441 t440) ∧ Aside0 (Kd.R (Kd.int .i64) 2 w' w.heap.size (fun k_ => some k_ ≠ (v441 : Value).ownBlock) v448 t447) ∧ Aside0 (Kd.R k34 34 w' w.heap.size (fun _ => True) (.slice (some ad438) t421.length co17) t421) ∧ Aside0 (Kd.S k70 70 w' w.heap.size (fun k_ => some k_ ≠ (v441 : Value).ownBlock ∧ some k_ ≠ (v448 : Value).ownBlock) (.slice Ao19 t424.length co19) t424) ∧ Aside0 (w'.heap[gb427]? = some (.cells #[(.slice (some ad438) t421.length co17), (.slice Ao19 t424.length co19)] 26 (0, 0))) ∧ Aside0 (w'.heap[gb435]? = some (.cells #[.int .i64 t431, .int .i64 t432, .int .i64 t433, .bool true] 29 (0, 0))) ∧ Aside0 (Below w.heap.size w w'))
       case atStart => exact ⟨(0), (by first | rfl | (simp; done) | (simp [*]; done)), H', ⟨Nat.le_refl _⟩, ⟨by (with_reducible repeat (first | apply Kd.R_alloc | apply Kd.R_drewN | apply Kd.R_drew)); exact HO_8.out⟩, ⟨by (with_reducible repeat (first | apply Kd.R_alloc | apply Kd.R_drewN | apply Kd.R_drew)); exact HO_10.out⟩, ⟨by (with_reducible repeat (first | apply Kd.R_alloc | apply Kd.R_drewN | apply Kd.R_drew)); exact HO_428000.out⟩, ⟨by (with_reducible repeat (first | apply Kd.S_alloc | apply Kd.S_drewN | apply Kd.S_drew)); exact HO_428001.out⟩, ⟨by (with_reducible repeat first | apply blk_drewN | apply blk_drew | apply blk_alloc); exact BK427.out⟩, ⟨by (with_reducible repeat first | apply blk_drewN | apply blk_drew | apply blk_alloc); exact BK435.out⟩, ⟨by repeat (first | (with_reducible first | exact HB.out | apply below_alloc | apply pw_below_drewN | apply below_drew1 | refine below_set ?_ GE427.out | refine below_set ?_ GE435.out) | exact HB.out)⟩⟩
       case round =>
        clear H'
        try clear c1
        try clear p2
        try clear c3
        try clear c4
        try clear p4
        try clear q4
        try clear hx4
        try clear c5
        try clear c6
        try clear p6
        try clear c7
        try clear c8
        try clear c9
        try clear c10
        try clear c11
        try clear c13
        try clear c31
        try clear p43
        try clear q43
        try clear hx43
        try clear c48
        try clear c49
        try clear c50
        try clear c51
        try clear c51b0
        try clear c51b1
        try clear c52
        try clear c52b0
        try clear c52b1
        try clear c60
        try clear hcz32_0
        try clear hcz32_1
        try clear hcz32_2
        try clear hcz32_3
        try clear hcz36_0
        try clear hcz36_1
        try clear hcz37_0
        try clear hcz37_1
        try clear hcz37_2
        try clear hcz37_3
        try clear hcz39_0
        try clear hcz39_1
        try clear hcz40_0
        try clear hcz40_1
        try clear hcz40_2
        try clear hcz40_3
        try clear hcz45_0
        try clear hcz45_1
        try clear hcz46_0
        try clear hcz46_1
        try clear hcz46_2
        try clear hcz46_3
        try clear hfz32_0
        try clear hfz32_1
        try clear hfz32_2
        try clear hfz32_3
        try clear hfz36_0
        try clear hfz36_1
        try clear hfz37_0
        try clear hfz37_1
        try clear hfz37_2
        try clear hfz37_3
        try clear hfz39_0
        try clear hfz39_1
        try clear hfz40_0
        try clear hfz40_1
        try clear hfz40_2
        try clear hfz40_3
        try clear hfz45_0
        try clear hfz45_1
        try clear hfz46_0
        try clear hfz46_1
        try clear hfz46_2
        try clear hfz46_3
        try clear hx438_0
        try clear hx438_1
        try clear p2
        try clear p4
        try clear p43
        try clear p438
        try clear p6
        try clear q4
        try clear q43
        try clear q438
        obtain ⟨x14_2, rfl, HA, HK2, HO_8, HO_10, HO_428000, HO_428001, BK427, BK435, HB⟩ := hrel
        cases gk with
        | zero => exact absurd HA.out (by simp [laws_FnHoles.l0])
        | succ k2 =>
         have H := HA.out
         clear HA
         simp only [laws_FnHoles.l0] at H
         by_cases c61 : x14_2 < (wrap64 (1 + t436))
         ·rw [if_pos c61] at H
          have c61b0 : decide (x14_2 < (wrap64 (1 + t436))) = true := decide_eq_true c61
          clear c61
          by_cases c62 : 0 ≤ x14_2
          ·rw [if_pos c62] at H
           have c62b0 : decide (0 ≤ x14_2) = true := decide_eq_true c62
           clear c62
           by_cases c63 : x14_2 < (t440.length : Int)
           ·rw [if_pos c63] at H
            have c63b0 : decide (x14_2 < (t440.length : Int)) = true := decide_eq_true c63
            clear c63
            by_cases c64 : x14_2 < (t447.length : Int)
            ·rw [if_pos c64] at H
             have c64b0 : decide (x14_2 < (t447.length : Int)) = true := decide_eq_true c64
             clear c64
             by_cases c65 : (((rd t440 x14_2) == ((rd_T34 t421 t437).f0)) == ((rd t440 x14_2) == (rd t447 x14_2))) = true
             ·rw [if_pos c65] at H
              have c65b0 : (((rd t440 x14_2) == ((rd_T34 t421 t437).f0)) == ((rd t440 x14_2) == (rd t447 x14_2))) = true := c65
              (try (have c65b1 : decide (((rd t440 x14_2) == ((rd_T34 t421 t437).f0)) = ((rd t440 x14_2) == (rd t447 x14_2))) = true := by simpa using c65))
              (try (have c65b2 : (((rd t440 x14_2) == ((rd_T34 t421 t437).f0)) == ((rd t440 x14_2) == (rd t447 x14_2))) = true := by simpa using c65))
              clear c65
              obtain rfl := Option.some.inj H
              try go_wp2
              have n0_ := Aside0.mk (Kd.R_drew HO_8.out)
              have n1_ := Aside0.mk (Kd.R_drew HO_10.out)
              have n2_ := Aside0.mk (Kd.R_drew HO_428000.out)
              have n3_ := Aside0.mk (Kd.S_drew HO_428001.out)
              have n4_ := Aside0.mk (blk_drew BK427.out)
              have n5_ := Aside0.mk (blk_drew BK435.out)
              have n6_ := Aside0.mk (below_drew1 HB.out)
              clear HO_8
              clear HO_10
              clear HO_428000
              clear HO_428001
              clear BK427
              clear BK435
              clear HB
              have HO_8 := n0_
              have HO_10 := n1_
              have HO_428000 := n2_
              have HO_428001 := n3_
              have BK427 := n4_
              have BK435 := n5_
              have HB := n6_
              clear n0_ n1_ n2_ n3_ n4_ n5_ n6_
              obtain ⟨Ao67, co67, eo67⟩ := Kd.R_slice HO_8.out
              (first | subst eo67 | (injection eo67 with f1_ f2_ f3_; have f4_ := f1_.symm; have f5_ := f3_.symm; clear f1_ f2_ f3_; subst f4_; subst f5_))
              have p456 : 0 ≤ (x14_2 : Int) := of_decide_eq_true (by assumption)
              have q456 : x14_2 < (t440.length : Int) := of_decide_eq_true (by assumption)
              obtain ⟨ad456, e456, hx456_0⟩ := Kd.at_int (Kd.R_reads' HO_8.out).2.2 x14_2 p456 q456
              cases e456
              replace p456 := eq_true p456
              replace q456 := eq_true q456
              have p457 : 0 ≤ (x14_2 : Int) := of_decide_eq_true (by assumption)
              have q457 : x14_2 < (t440.length : Int) := of_decide_eq_true (by assumption)
              obtain ⟨ad457, e457, hx457_0⟩ := Kd.at_int (Kd.R_reads' HO_8.out).2.2 x14_2 p457 q457
              obtain rfl : ad456 = ad457 := (by injection e457)
              replace p457 := eq_true p457
              replace q457 := eq_true q457
              obtain ⟨Ao68, co68, eo68⟩ := Kd.R_slice HO_10.out
              (first | subst eo68 | (injection eo68 with f1_ f2_ f3_; have f4_ := f1_.symm; have f5_ := f3_.symm; clear f1_ f2_ f3_; subst f4_; subst f5_))
              have p458 : 0 ≤ (x14_2 : Int) := of_decide_eq_true (by assumption)
              have q458 : x14_2 < (t447.length : Int) := of_decide_eq_true (by assumption)
              obtain ⟨ad458, e458, hx458_0⟩ := Kd.at_int (Kd.R_reads' HO_10.out).2.2 x14_2 p458 q458
              cases e458
              replace p458 := eq_true p458
              replace q458 := eq_true q458
              refine start_ (n := 16) (S := fun w' => w'.cell? (ad456.add (x14_2).toNat) = some (.int .i64 (rd t440 x14_2)) ∧ w'.cell? (ad456.add (x14_2).toNat) = some (.int .i64 (rd t440 x14_2)) ∧ w'.cell? (ad458.add (x14_2).toNat) = some (.int .i64 (rd t447 x14_2))) (ds := []) mz4_12 (by kernel_rfl) rfl rfl ⟨hx456_0, hx457_0, hx458_0⟩ (fun hHeld => ?_); refine with_tabW laws_FnHoles.tab17 laws_FnHoles.bits17 (fun HT_ HW_ => ?_)
              generalize wr.drew = w66 at HO_8 HO_10 HO_428000 HO_428001 BK427 BK435 HB hx456_0 hx457_0 hx458_0 hHeld ⊢
              refine pu_z4 0 (some 99) ?_ mz4_13 rfl rfl (any_of HT_.out (by kernel_rfl)) (fun _ _ _ h => h) (Or.inl ⟨by rfl, ?_⟩) ?_ ?_ ?_
              (rotate_left; ·(intro w'; go_simp; with_reducible rfl)); (rotate_left; ·(simp only [Act.put, pq_z4]; rfl))
              refine pu_z4 1 (some 100) ?_ mz4_14 rfl rfl (any_of HT_.out (by kernel_rfl)) (fun _ _ _ h => h) (Or.inl ⟨by rfl, ?_⟩) ?_ ?_ ?_
              (rotate_left; ·(intro w'; go_simp; with_reducible rfl)); (rotate_left; ·(simp only [Act.put, pq_z4]; rfl))
              refine pu_z4 2 (some 101) ?_ mz4_15 rfl rfl (any_of HT_.out (by kernel_rfl)) (fun _ _ _ h => h) (Or.inl ⟨by rfl, ?_⟩) ?_ ?_ ?_
              (rotate_left; ·(intro w'; go_simp; with_reducible rfl)); (rotate_left; ·(simp only [Act.put, pq_z4]; rfl))
              refine pu_z4 4 (some 103) ?_ mz4_16 rfl rfl (any_of HT_.out (by kernel_rfl)) (fun _ _ _ h => h) (Or.inl ⟨by rfl, ?_⟩) ?_ ?_ ?_
              (rotate_left; ·(intro w'; go_simp; with_reducible rfl)); (rotate_left; ·(simp only [Act.put, pq_z4]; rfl))
              refine pu_z4 6 (some 105) ?_ mz4_17 rfl rfl (any_of HT_.out (by kernel_rfl)) (fun _ _ _ h => h) (Or.inl ⟨by rfl, ?_⟩) ?_ ?_ ?_
              (rotate_left; ·(intro w'; go_simp; with_reducible rfl)); (rotate_left; ·(simp only [Act.put, pq_z4]; rfl))
              refine pu_z4 7 (some 106) ?_ mz4_18 rfl rfl (any_of HT_.out (by kernel_rfl)) (fun _ _ _ h => h) (Or.inl ⟨by rfl, ?_⟩) ?_ ?_ ?_
              (rotate_left; ·(intro w'; go_simp; with_reducible rfl)); (rotate_left; ·(simp only [Act.put, pq_z4]; rfl))
              refine pu_z4 8 (some 107) ?_ mz4_19 rfl rfl (any_of HT_.out (by kernel_rfl)) (fun _ _ _ h => h) (Or.inl ⟨by rfl, ?_⟩) ?_ ?_ ?_
              (rotate_left; ·(intro w'; go_simp; with_reducible rfl)); (rotate_left; ·(simp only [Act.put, pq_z4]; rfl))
              refine pu_z4 10 (some 109) ?_ mz4_20 rfl rfl (any_of HT_.out (by kernel_rfl)) (fun _ _ _ h => h) (Or.inl ⟨by rfl, ?_⟩) ?_ ?_ ?_
              (rotate_left; ·(intro w'; go_simp; with_reducible rfl)); (rotate_left; ·(simp only [Act.put, pq_z4]; rfl))
              refine pu_z4 11 (some 110) ?_ mz4_21 rfl rfl (any_of HT_.out (by kernel_rfl)) (fun _ _ _ h => h) (Or.inl ⟨by rfl, ?_⟩) ?_ ?_ ?_
              (rotate_left; ·(intro w'; go_simp; with_reducible rfl)); (rotate_left; ·(simp only [Act.put, pq_z4]; rfl))
              refine pu_z4 12 (some 111) ?_ mz4_22 rfl rfl (any_of HT_.out (by kernel_rfl)) (fun _ _ _ h => h) (Or.inl ⟨by rfl, ?_⟩) ?_ ?_ ?_
              (rotate_left; ·(intro w'; go_simp; with_reducible rfl)); (rotate_left; ·(simp only [Act.put, pq_z4]; rfl))
              refine take_ (i := 3) (N := some 102) (v := ?_) (a' := ?_) mz4_23 rfl rfl (take_ofW HT_.out HW_.out (by kernel_rfl)) (fun _ _ _ h => h) (Or.inl ⟨by rfl, ?_⟩) hHeld ?_ ?_
              (rotate_left; ·(rintro w' ⟨s0, s1, s2⟩; go_simp; with_reducible rfl)); (rotate_left; ·(simp only [Act.put, pq_z4]; rfl))
              refine pu_z4 5 (some 104) ?_ mz4_24 rfl rfl (any_of HT_.out (by kernel_rfl)) (fun _ _ _ h => h) (Or.inl ⟨by rfl, ?_⟩) ?_ ?_ ?_
              (rotate_left; ·(intro w'; go_simp; with_reducible rfl)); (rotate_left; ·(simp only [Act.put, pq_z4]; rfl))
              refine take_ (i := 9) (N := some 108) (v := ?_) (a' := ?_) mz4_25 rfl rfl (take_ofW HT_.out HW_.out (by kernel_rfl)) (fun _ _ _ h => h) (Or.inl ⟨by rfl, ?_⟩) hHeld ?_ ?_
              (rotate_left; ·(rintro w' ⟨s0, s1, s2⟩; go_simp; with_reducible rfl)); (rotate_left; ·(simp only [Act.put, pq_z4]; rfl))
              refine take_ (i := 13) (N := some 112) (v := ?_) (a' := ?_) mz4_26 rfl rfl (take_ofW HT_.out HW_.out (by kernel_rfl)) (fun _ _ _ h => h) (Or.inl ⟨by rfl, ?_⟩) hHeld ?_ ?_
              (rotate_left; ·(rintro w' ⟨s0, s1, s2⟩; go_simp; with_reducible rfl)); (rotate_left; ·(simp only [Act.put, pq_z4]; rfl))
              refine pu_z4 14 (some 113) ?_ mz4_27 rfl rfl (any_of HT_.out (by kernel_rfl)) (fun _ _ _ h => h) (Or.inl ⟨by rfl, ?_⟩) ?_ ?_ ?_
              (rotate_left; ·(intro w'; go_simp; with_reducible rfl)); (rotate_left; ·(simp only [Act.put, pq_z4]; rfl))
              refine pu_z4 15 (some 114) ?_ mz4_28 rfl rfl (any_of HT_.out (by kernel_rfl)) (fun _ _ _ h => h) (Or.inl ⟨by rfl, ?_⟩) ?_ ?_ ?_
              (rotate_left; ·(intro w'; go_simp; with_reducible rfl)); (rotate_left; ·(simp only [Act.put, pq_z4]; rfl))
              refine done_ (done_of HT_.out (by kernel_rfl)) ?_
              try go_wp2
              go_ret
              exact ⟨by first | rfl | (simp [*, errW_none, errW_some] <;> rfl), by repeat (first | (with_reducible first | exact HB.out | apply below_alloc | apply pw_below_drewN | apply below_drew1 | refine below_set ?_ GE427.out | refine below_set ?_ GE435.out) | exact HB.out)⟩
             ·rw [if_neg c65] at H
              have c65b0 : (((rd t440 x14_2) == ((rd_T34 t421 t437).f0)) == ((rd t440 x14_2) == (rd t447 x14_2))) = false := by simpa using c65
              (try (have c65b1 : decide (((rd t440 x14_2) == ((rd_T34 t421 t437).f0)) = ((rd t440 x14_2) == (rd t447 x14_2))) = false := by simpa using c65))
              (try (have c65b2 : (((rd t440 x14_2) == ((rd_T34 t421 t437).f0)) == ((rd t440 x14_2) == (rd t447 x14_2))) = false := by simpa using c65))
              (try (have c65b3 : ¬ (((rd t440 x14_2) == ((rd_T34 t421 t437).f0)) = ((rd t440 x14_2) == (rd t447 x14_2))) := by simpa using c65))
              clear c65
              have H' := Aside0.mk H
              clear H
              try go_wp2
              have n0_ := Aside0.mk (Kd.R_drew HO_8.out)
              have n1_ := Aside0.mk (Kd.R_drew HO_10.out)
              have n2_ := Aside0.mk (Kd.R_drew HO_428000.out)
              have n3_ := Aside0.mk (Kd.S_drew HO_428001.out)
              have n4_ := Aside0.mk (blk_drew BK427.out)
              have n5_ := Aside0.mk (blk_drew BK435.out)
              have n6_ := Aside0.mk (below_drew1 HB.out)
              clear HO_8
              clear HO_10
              clear HO_428000
              clear HO_428001
              clear BK427
              clear BK435
              clear HB
              have HO_8 := n0_
              have HO_10 := n1_
              have HO_428000 := n2_
              have HO_428001 := n3_
              have BK427 := n4_
              have BK435 := n5_
              have HB := n6_
              clear n0_ n1_ n2_ n3_ n4_ n5_ n6_
              obtain ⟨Ao70, co70, eo70⟩ := Kd.R_slice HO_8.out
              (first | subst eo70 | (injection eo70 with f1_ f2_ f3_; have f4_ := f1_.symm; have f5_ := f3_.symm; clear f1_ f2_ f3_; subst f4_; subst f5_))
              have p456 : 0 ≤ (x14_2 : Int) := of_decide_eq_true (by assumption)
              have q456 : x14_2 < (t440.length : Int) := of_decide_eq_true (by assumption)
              obtain ⟨ad456, e456, hx456_0⟩ := Kd.at_int (Kd.R_reads' HO_8.out).2.2 x14_2 p456 q456
              cases e456
              replace p456 := eq_true p456
              replace q456 := eq_true q456
              have p457 : 0 ≤ (x14_2 : Int) := of_decide_eq_true (by assumption)
              have q457 : x14_2 < (t440.length : Int) := of_decide_eq_true (by assumption)
              obtain ⟨ad457, e457, hx457_0⟩ := Kd.at_int (Kd.R_reads' HO_8.out).2.2 x14_2 p457 q457
              obtain rfl : ad456 = ad457 := (by injection e457)
              replace p457 := eq_true p457
              replace q457 := eq_true q457
              obtain ⟨Ao71, co71, eo71⟩ := Kd.R_slice HO_10.out
              (first | subst eo71 | (injection eo71 with f1_ f2_ f3_; have f4_ := f1_.symm; have f5_ := f3_.symm; clear f1_ f2_ f3_; subst f4_; subst f5_))
              have p458 : 0 ≤ (x14_2 : Int) := of_decide_eq_true (by assumption)
              have q458 : x14_2 < (t447.length : Int) := of_decide_eq_true (by assumption)
              obtain ⟨ad458, e458, hx458_0⟩ := Kd.at_int (Kd.R_reads' HO_10.out).2.2 x14_2 p458 q458
              cases e458
              replace p458 := eq_true p458
              replace q458 := eq_true q458
              refine start_ (n := 16) (S := fun w' => w'.cell? (ad456.add (x14_2).toNat) = some (.int .i64 (rd t440 x14_2)) ∧ w'.cell? (ad456.add (x14_2).toNat) = some (.int .i64 (rd t440 x14_2)) ∧ w'.cell? (ad458.add (x14_2).toNat) = some (.int .i64 (rd t447 x14_2))) (ds := []) mz4_12 (by kernel_rfl) rfl rfl ⟨hx456_0, hx457_0, hx458_0⟩ (fun hHeld => ?_); refine with_tabW laws_FnHoles.tab17 laws_FnHoles.bits17 (fun HT_ HW_ => ?_)
              generalize wr.drew = w69 at HO_8 HO_10 HO_428000 HO_428001 BK427 BK435 HB hx456_0 hx457_0 hx458_0 hHeld ⊢
              refine pu_z4 0 (some 99) ?_ mz4_13 rfl rfl (any_of HT_.out (by kernel_rfl)) (fun _ _ _ h => h) (Or.inl ⟨by rfl, ?_⟩) ?_ ?_ ?_
              (rotate_left; ·(intro w'; go_simp; with_reducible rfl)); (rotate_left; ·(simp only [Act.put, pq_z4]; rfl))
              refine pu_z4 1 (some 100) ?_ mz4_14 rfl rfl (any_of HT_.out (by kernel_rfl)) (fun _ _ _ h => h) (Or.inl ⟨by rfl, ?_⟩) ?_ ?_ ?_
              (rotate_left; ·(intro w'; go_simp; with_reducible rfl)); (rotate_left; ·(simp only [Act.put, pq_z4]; rfl))
              refine pu_z4 2 (some 101) ?_ mz4_15 rfl rfl (any_of HT_.out (by kernel_rfl)) (fun _ _ _ h => h) (Or.inl ⟨by rfl, ?_⟩) ?_ ?_ ?_
              (rotate_left; ·(intro w'; go_simp; with_reducible rfl)); (rotate_left; ·(simp only [Act.put, pq_z4]; rfl))
              refine pu_z4 4 (some 103) ?_ mz4_16 rfl rfl (any_of HT_.out (by kernel_rfl)) (fun _ _ _ h => h) (Or.inl ⟨by rfl, ?_⟩) ?_ ?_ ?_
              (rotate_left; ·(intro w'; go_simp; with_reducible rfl)); (rotate_left; ·(simp only [Act.put, pq_z4]; rfl))
              refine pu_z4 6 (some 105) ?_ mz4_17 rfl rfl (any_of HT_.out (by kernel_rfl)) (fun _ _ _ h => h) (Or.inl ⟨by rfl, ?_⟩) ?_ ?_ ?_
              (rotate_left; ·(intro w'; go_simp; with_reducible rfl)); (rotate_left; ·(simp only [Act.put, pq_z4]; rfl))
              refine pu_z4 7 (some 106) ?_ mz4_18 rfl rfl (any_of HT_.out (by kernel_rfl)) (fun _ _ _ h => h) (Or.inl ⟨by rfl, ?_⟩) ?_ ?_ ?_
              (rotate_left; ·(intro w'; go_simp; with_reducible rfl)); (rotate_left; ·(simp only [Act.put, pq_z4]; rfl))
              refine pu_z4 8 (some 107) ?_ mz4_19 rfl rfl (any_of HT_.out (by kernel_rfl)) (fun _ _ _ h => h) (Or.inl ⟨by rfl, ?_⟩) ?_ ?_ ?_
              (rotate_left; ·(intro w'; go_simp; with_reducible rfl)); (rotate_left; ·(simp only [Act.put, pq_z4]; rfl))
              refine pu_z4 10 (some 109) ?_ mz4_20 rfl rfl (any_of HT_.out (by kernel_rfl)) (fun _ _ _ h => h) (Or.inl ⟨by rfl, ?_⟩) ?_ ?_ ?_
              (rotate_left; ·(intro w'; go_simp; with_reducible rfl)); (rotate_left; ·(simp only [Act.put, pq_z4]; rfl))
              refine pu_z4 11 (some 110) ?_ mz4_21 rfl rfl (any_of HT_.out (by kernel_rfl)) (fun _ _ _ h => h) (Or.inl ⟨by rfl, ?_⟩) ?_ ?_ ?_
              (rotate_left; ·(intro w'; go_simp; with_reducible rfl)); (rotate_left; ·(simp only [Act.put, pq_z4]; rfl))
              refine pu_z4 12 (some 111) ?_ mz4_22 rfl rfl (any_of HT_.out (by kernel_rfl)) (fun _ _ _ h => h) (Or.inl ⟨by rfl, ?_⟩) ?_ ?_ ?_
              (rotate_left; ·(intro w'; go_simp; with_reducible rfl)); (rotate_left; ·(simp only [Act.put, pq_z4]; rfl))
              refine take_ (i := 3) (N := some 102) (v := ?_) (a' := ?_) mz4_23 rfl rfl (take_ofW HT_.out HW_.out (by kernel_rfl)) (fun _ _ _ h => h) (Or.inl ⟨by rfl, ?_⟩) hHeld ?_ ?_
              (rotate_left; ·(rintro w' ⟨s0, s1, s2⟩; go_simp; with_reducible rfl)); (rotate_left; ·(simp only [Act.put, pq_z4]; rfl))
              refine pu_z4 5 (some 104) ?_ mz4_24 rfl rfl (any_of HT_.out (by kernel_rfl)) (fun _ _ _ h => h) (Or.inl ⟨by rfl, ?_⟩) ?_ ?_ ?_
              (rotate_left; ·(intro w'; go_simp; with_reducible rfl)); (rotate_left; ·(simp only [Act.put, pq_z4]; rfl))
              refine take_ (i := 9) (N := some 108) (v := ?_) (a' := ?_) mz4_25 rfl rfl (take_ofW HT_.out HW_.out (by kernel_rfl)) (fun _ _ _ h => h) (Or.inl ⟨by rfl, ?_⟩) hHeld ?_ ?_
              (rotate_left; ·(rintro w' ⟨s0, s1, s2⟩; go_simp; with_reducible rfl)); (rotate_left; ·(simp only [Act.put, pq_z4]; rfl))
              refine take_ (i := 13) (N := some 112) (v := ?_) (a' := ?_) mz4_26 rfl rfl (take_ofW HT_.out HW_.out (by kernel_rfl)) (fun _ _ _ h => h) (Or.inl ⟨by rfl, ?_⟩) hHeld ?_ ?_
              (rotate_left; ·(rintro w' ⟨s0, s1, s2⟩; go_simp; with_reducible rfl)); (rotate_left; ·(simp only [Act.put, pq_z4]; rfl))
              refine pu_z4 14 (some 113) ?_ mz4_27 rfl rfl (any_of HT_.out (by kernel_rfl)) (fun _ _ _ h => h) (Or.inl ⟨by rfl, ?_⟩) ?_ ?_ ?_
              (rotate_left; ·(intro w'; go_simp; with_reducible rfl)); (rotate_left; ·(simp only [Act.put, pq_z4]; rfl))
              refine pu_z4 15 (some 114) ?_ mz4_28 rfl rfl (any_of HT_.out (by kernel_rfl)) (fun _ _ _ h => h) (Or.inl ⟨by rfl, ?_⟩) ?_ ?_ ?_
              (rotate_left; ·(intro w'; go_simp; with_reducible rfl)); (rotate_left; ·(simp only [Act.put, pq_z4]; rfl))
              refine done_ (done_of HT_.out (by kernel_rfl)) ?_
              try go_wp2
              go_roundg k2
              case measure => have := HJ13.out; have := HK2.out; omega
              case rel => exact ⟨(wrap64 (x14_2 + 1)), (by first | rfl | (simp; done) | (simp [*]; done)), H', ⟨by have := HJ13.out; have := HK2.out; omega⟩, ⟨by (with_reducible repeat (first | apply Kd.R_alloc | apply Kd.R_drewN | apply Kd.R_drew)); exact HO_8.out⟩, ⟨by (with_reducible repeat (first | apply Kd.R_alloc | apply Kd.R_drewN | apply Kd.R_drew)); exact HO_10.out⟩, ⟨by (with_reducible repeat (first | apply Kd.R_alloc | apply Kd.R_drewN | apply Kd.R_drew)); exact HO_428000.out⟩, ⟨by (with_reducible repeat (first | apply Kd.S_alloc | apply Kd.S_drewN | apply Kd.S_drew)); exact HO_428001.out⟩, ⟨by (with_reducible repeat first | apply blk_drewN | apply blk_drew | apply blk_alloc); exact BK427.out⟩, ⟨by (with_reducible repeat first | apply blk_drewN | apply blk_drew | apply blk_alloc); exact BK435.out⟩, ⟨by repeat (first | (with_reducible first | exact HB.out | apply below_alloc | apply pw_below_drewN | apply below_drew1 | refine below_set ?_ GE427.out | refine below_set ?_ GE435.out) | exact HB.out)⟩⟩
            ·rw [if_neg c64] at H
             exact absurd H (by simp)
           ·rw [if_neg c63] at H
            exact absurd H (by simp)
          ·rw [if_neg c62] at H
           exact absurd H (by simp)
         ·rw [if_neg c61] at H
          have c61b0 : decide (x14_2 < (wrap64 (1 + t436))) = false := decide_eq_false c61
          clear c61
          obtain rfl := Option.some.inj H
          go_wp2
          go_ret
          exact ⟨by first | rfl | (simp [*, errW_none, errW_some] <;> rfl), by repeat (first | (with_reducible first | exact HB.out | apply below_alloc | apply pw_below_drewN | apply below_drew1 | refine below_set ?_ GE427.out | refine below_set ?_ GE435.out) | exact HB.out)⟩
   ·rw [if_neg c9] at H
    exact absurd H (by simp)
  ·rw [if_neg c8] at H
   exact absurd H (by simp)

/-- THE ONE PURE STATEMENT of laws_FnHoles: yours. -/
def laws_FnHoles.Pure : Prop := ∀ (l0 : List Int), l0.length ≤ maxLen → l0.length * 1 ≤ 140737488351232 → (∀ x ∈ l0, (Lit.int .u8 x).wf = true) → ∃ k, laws_FnHoles.f k l0 = some true
theorem laws_FnHoles.walk (P : laws_FnHoles.Pure) (a0 : Option Addr) (len0 cap0 : Nat) (z0 : List Int) (w : World) (w0 : (a0 = none ∧ len0 = 0 ∧ cap0 = 0 ∧ z0 = []) ∨ ∃ x, a0 = some x ∧ len0 ≤ cap0 ∧ cap0 ≤ maxLen ∧ z0.length = cap0 ∧ (∀ i, i < z0.length → w.cell? (x.add i) = some (.int .u8 (z0.getD i 0))) ∧ ∀ n ∈ z0, (Lit.int .u8 n).wf = true) (y0 : len0 * 1 ≤ 140737488351232) :
  Calls Try.prog 4 #[.slice a0 len0 cap0] w fun e w' => e = .returned (.bool true) ∧ Below w.heap.size w w' := by
 obtain ⟨l0, rfl, hr0, hm0, hw0, hc0⟩ := ReadsInt.ofRowC w0
 obtain ⟨k, h⟩ := P l0 hm0 y0 hw0
 refine (laws_FnHoles.calls k _ _ l0 true w (Kd.C_of_reads (d := (0 : Int)) (h1 := fun _ => rfl) hr0) hc0 h).mono ?_
 rintro e w' ⟨rfl, hd⟩
 exact ⟨rfl, hd⟩

end Go.Proofs.Ytohjpgcmhihdhaa.Q
