/- Walks and plain laws of one claim, several texts in one. -/
import Derived.Test.YtohjpgcmhihdhaaQ0
import Derived.Test.YtohjpgcmhihdhaaQf21
import Derived.Test.YtohjpgcmhihdhaaMFnApartb
import Derived.Test.YtohjpgcmhihdhaaOSteps
import Derived.Test.YtohjpgcmhihdhaaQf36
import Derived.Test.YtohjpgcmhihdhaaQf37
import Derived.Test.YtohjpgcmhihdhaaQf10
import Derived.Test.YtohjpgcmhihdhaaMFnAparta
import Derived.Test.YtohjpgcmhihdhaaQf18
namespace Go.Proofs.Ytohjpgcmhihdhaa.Q
open Go.RowKit Go.Proofs.YtohjpgcmhihdhaaW.PrintWords Go.Proofs.YtohjpgcmhihdhaaW.PrintLast Go.Proofs.YtohjpgcmhihdhaaW.PrintMore
attribute [local go_sem] max2_int min2_int max_two min_two max_three min_three max_four min_four   -- for this text's walks alone
set_option linter.unusedVariables false
set_option linter.unusedSimpArgs false
/-! ### spec_A8Tree: function 6 -/
def spec_A8Tree.f (k : Nat) (l0 : List Int) : Option ((List (S34)) × (List (S70))) := (spec_l00From.f l0).bind fun bt200 => ((spec_l06Draw.f k bt200.1 bt200.2.1 bt200.2.2).bind fun bt204 => (some (bt204.1, bt204.2.1)))
set_option maxHeartbeats 8000000 in
set_option maxRecDepth 100000 in
theorem spec_A8Tree.calls (k : Nat) (A0 : Option Addr) (c0 : Nat) (l0 : List Int) (r1 : List (S34)) (r2 : List (S70)) (w : World) (hr0 : Kd.C (Kd.int .u8) w A0 l0.length l0) (hc0 : l0.length ≤ c0) (h : spec_A8Tree.f k l0 = some (r1, r2)) :
    Calls Try.prog 6 #[.slice A0 l0.length c0] w fun e w' => ∃ v0_ v1_ : Value, e = .returned (.agg #[v0_, v1_]) ∧ Kd.R k34 34 w' w.heap.size (fun _ => True) v0_ r1 ∧ Kd.S k70 70 w' w.heap.size (fun _ => True) v1_ r2 ∧ Below w.heap.size w w' := by
  have hu26 := Try.underlying26
  have HR0 := Aside0.mk hr0
  have HC0 := Aside0.mk hc0
  clear hr0 hc0
  have HB := Aside0.mk (Below.refl w.heap.size w)
  have H : ((spec_l00From.f l0).bind fun bt200 => ((spec_l06Draw.f k bt200.1 bt200.2.1 bt200.2.2).bind fun bt204 => (some (bt204.1, bt204.2.1)))) = some (r1, r2) := h
  clear h
  replace H := Option.bind_eq_some_iff.mp H
  obtain ⟨⟨t200, t201, t202⟩, A20, H⟩ := H
  set_option simprocs false in try dsimp only at H
  have A2 := Aside0.mk A20
  clear A20
  replace H := Option.bind_eq_some_iff.mp H
  obtain ⟨⟨t204, t207, t210, t211⟩, A30, H⟩ := H
  set_option simprocs false in try dsimp only at H
  have A3 := Aside0.mk A30
  clear A30
  simp only [Option.some.injEq, Prod.mk.injEq] at H
  obtain ⟨rfl, rfl⟩ := H
  go_enter Try.func6, Try.ntmps6
  go_wp2_with (first | ((with_reducible refine gate_dst (N := 2) rfl ?_); refine box_event ?hg (N := 2) ?hd (cs := #[.slice none 0 0, .slice none 0 0]) (t := 26) ?hr ?_; (case hd => rfl); (case hg => rfl); (case hr => first | (go_simp; done) | (go_simp; rfl)); intro gb199 hg w4 hbox hb; have n0_ := Aside0.mk (below_step (by repeat first | exact HB.out | apply pw_below_drewN) hb); have n1_ := Aside0.mk (hbox); have n2_ := Aside0.mk ((by rw [hg]; exact (below_size (by repeat first | exact HB.out | apply pw_below_drewN)) : w.heap.size ≤ gb199)); have n3_ := Aside0.mk ((by rw [hg]; exact (below_size (by repeat first | exact HB.out | apply pw_below_drewN)) : w.heap.size ≤ gb199)); clear HB; have HB := n0_; have BK199 := n1_; have GW199 := n2_; have GE199 := n3_; clear n0_ n1_ n2_ n3_; clear hb hbox hg) | ((with_reducible refine gate_callee (f := 21) rfl ?_); refine goesL_ (some 5) rfl rfl Try.func21 (by kernel_rfl) rfl #[.slice A0 l0.length c0] rfl (by (try simp only [List.map_toArray, List.map_cons, List.map_nil]); first | done | rfl) ?_; (with_reducible refine (spec_l00From.calls _ _ l0 t200 t201 t202 w _ ?side1 ?side2 ?side3 A2.out).mono ?_); (case side1 => repeat (first | (with_reducible first | exact HB.out | apply below_alloc | apply pw_below_drewN | apply below_drew1 | refine below_set ?_ GE199.out) | exact HB.out)); (case side2 => exact HR0.out); (case side3 => exact HC0.out); rintro e w5 ⟨g203, rfl, hi, hb, hb2⟩; refine ⟨_, rfl, ?_⟩; have n0_ := Aside0.mk (blk_below (by exact BK199.out) hb2); have n1_ := Aside0.mk (hb); have n2_ := Aside0.mk (hi); have n3_ := Aside0.mk (IsS68.ne_blk hi (blk_below (by exact BK199.out) hb2) (by decide)); have n4_ := Aside0.mk (Ne.symm (IsS68.ne_blk hi (blk_below (by exact BK199.out) hb2) (by decide))); clear BK199; clear HB; have BK199 := n0_; have HB := n1_; have HI203 := n2_; have NB203_199 := n3_; have NB199_203 := n4_; clear n0_ n1_ n2_ n3_ n4_; (try clear hb); (try clear hb2); (try clear hk); (try clear hi)) | ((with_reducible refine gate_callee (f := 22) rfl ?_); refine goesL_ (some 7) rfl rfl Try.func22 (by kernel_rfl) rfl #[.pointer (some ⟨g203, 0, none⟩)] rfl (by (try simp only [List.map_toArray, List.map_cons, List.map_nil]); first | done | rfl) ?_; (with_reducible refine (spec_l06Draw.calls k g203 t200 t201 t202 t204 t207 t210 t211 w _ ?side1 ?side2 A3.out).mono ?_); (case side1 => repeat (first | (with_reducible first | exact HI203.out | apply IsS68.alloc | apply IsS68.drewN | apply IsS68.drew | apply IsS68.set_1 | apply IsS68.set_2 | refine IsS68.far ?_ NB203_199.out _) | exact HI203.out)); (case side2 => repeat (first | (with_reducible first | exact HB.out | apply below_alloc | apply pw_below_drewN | apply below_drew1 | refine below_set ?_ (IsS68.ge HI203.out) | refine below_set ?_ GE199.out) | exact HB.out)); rintro e w6 ⟨v205, v208, rfl, ho0, ho1, hi, hb, hk⟩; refine ⟨_, rfl, ?_⟩; have n0_ := Aside0.mk (KeepBut.blk hk (g' := gb199) (o := .cells #[.slice none 0 0, .slice none 0 0] 26 (0, 0)) (by exact BK199.out) NB199_203.out (by simp)); have n1_ := Aside0.mk (Kd.R_lower ho0 (below_size (by repeat (first | (with_reducible first | exact HB.out | apply below_alloc | apply pw_below_drewN | apply below_drew1 | refine below_set ?_ (IsS68.ge HI203.out) | refine below_set ?_ GE199.out) | exact HB.out)))); have n2_ := Aside0.mk (Kd.S_lower ho1 (below_size (by repeat (first | (with_reducible first | exact HB.out | apply below_alloc | apply pw_below_drewN | apply below_drew1 | refine below_set ?_ (IsS68.ge HI203.out) | refine below_set ?_ GE199.out) | exact HB.out)))); have n3_ := Aside0.mk (hb); have n4_ := Aside0.mk (hi); clear BK199; clear HB; clear HI203; have BK199 := n0_; have HO206 := n1_; have HO209 := n2_; have HB := n3_; have HI203 := n4_; clear n0_ n1_ n2_ n3_ n4_; (try clear hb); (try clear hb2); (try clear hk); (try clear hi); (try clear ho0); (try clear ho1); obtain ⟨Ao7, co7, eo7⟩ := Kd.R_slice HO206.out; subst eo7; have hnb8 := NB199_203.out; have hnc8 := NB203_199.out; have hcz9_0 := (blk_cell BK199.out 0).trans rfl; have hcz9_1 := (blk_cell BK199.out 1).trans rfl; have hfz9_0 := blk_frozen BK199.out 0; have hfz9_1 := blk_frozen BK199.out 1; obtain ⟨Ao10, co10, eo10⟩ := Kd.S_slice HO209.out; subst eo10))
  refine bodyPost_ret (results_cell_row rfl _ _ gb199 26 #[.slice Ao7 t204.length co7, .slice Ao10 t207.length co10] (0, 0) _ rfl (by (with_reducible repeat first | apply blk_drewN | apply blk_drew | apply blk_alloc); refine blk_put (cs := #[.slice Ao7 t204.length co7, .slice none 0 0]) ?_ 1 _ rfl; (with_reducible repeat first | apply blk_drewN | apply blk_drew | apply blk_alloc); refine blk_put (cs := #[.slice none 0 0, .slice none 0 0]) ?_ 0 _ rfl; (with_reducible repeat first | apply blk_drewN | apply blk_drew | apply blk_alloc); exact BK199.out) Try.underlying26 rfl (by kernel_rfl)) rfl ?_
  exact ⟨_, _, by first | rfl | (simp [*, errW_none, errW_some] <;> rfl), by (with_reducible repeat (first | apply Kd.R_alloc | apply Kd.R_drewN | apply Kd.R_drew)); exact Kd.R_mono (Kd.R_far (p := ⟨gb199, 1, none⟩) (Kd.R_far (p := ⟨gb199, 0, none⟩) (Kd.R_types HO206.out BK199.out (by decide)) (fun _ hk => hk.2) (.slice Ao7 t204.length co7)) (fun _ hk => hk.2) (.slice Ao10 t207.length co10)) (fun _ hk => trivial), by (with_reducible repeat (first | apply Kd.S_alloc | apply Kd.S_drewN | apply Kd.S_drew)); exact Kd.S_mono (Kd.S_far (p := ⟨gb199, 1, none⟩) (Kd.S_far (p := ⟨gb199, 0, none⟩) (Kd.S_types HO209.out BK199.out (by decide)) (fun _ hk => hk.2) (.slice Ao7 t204.length co7)) (fun _ hk => hk.2) (.slice Ao10 t207.length co10)) (fun _ hk => trivial), by repeat (first | (with_reducible first | exact HB.out | apply below_alloc | apply pw_below_drewN | apply below_drew1 | refine below_set ?_ (IsS68.ge HI203.out) | refine below_set ?_ GE199.out) | exact HB.out)⟩

/-! ### spec_l08Rule: function 23 -/
def spec_l08Rule.f (s0_0 : List Int) (s0_1 : Int) (s0_2 : Int) (l1_0 : List (S34)) (l1_1 : List (S70)) : Option (Int × Int × Int × Bool × Int × Int) := (spec_l00Src_pick.f s0_0 s0_1 s0_2 4).bind fun bt214 => (if 0 ≤ (wrap64 ((l1_1.length : Int) - 1)) then (if (wrap64 ((l1_1.length : Int) - 1)) < (l1_1.length : Int) then ((spec_l00Src_among.f s0_0 bt214.2.1 bt214.2.2 (([0, 1, 1, 1, 2] : List Int))).bind fun bt221 => ((spec_l00Src_one.f s0_0 bt221.2.1 bt221.2.2 2).bind fun bt224 => (some (wrap64 (1 + bt214.1), (rd_T70 l1_1 (wrap64 ((l1_1.length : Int) - 1))).f0, bt221.1, bt224.1, bt224.2.1, bt224.2.2)))) else (none)) else (none))
def spec_l08Rule.T1 : Bool × List (List Nat × List Nat) := (true, [([], []), ([0], [0]), ([1], [1]), ([], []), ([3], [3]), ([], []), ([5], [5]), ([6], [6]), ([7], [7]), ([4, 8], [4, 8]), ([9], [9]), ([10], [10]), ([], []), ([], []), ([12, 13, 1], [12, 13]), ([], []), ([15, 14], [15]), ([2, 11, 14, 16], [2, 11, 14, 16]), ([17, 16, 0, 1, 2, 3, 4, 5, 6, 7, 8, 9, 10, 11, 12, 13, 14, 15, 16, 17], [17])])
def spec_l08Rule.B1 : List Nat := [0, 1, 3, 0, 8, 0, 32, 96, 224, 504, 1016, 2040, 0, 0, 12291, 0, 61443, 131071, 262143]
theorem spec_l08Rule.tab1 : rtab .any (opsOf Try.f23 1) = spec_l08Rule.T1 := by kernel_rfl
theorem spec_l08Rule.bits1 : waitsOk spec_l08Rule.T1.2 spec_l08Rule.B1 = true := by kernel_rfl
def az_z23 (n m : Nat) : Array Bool := (List.replicate n true ++ List.replicate m false).toArray
def mz23_0 : Array Bool := az_z23 0 19
def mz23_1 : Array Bool := az_z23 1 18
def mz23_2 : Array Bool := #[true, false, false, true, false, false, false, false, false, false, false, false, false, false, false, false, false, false, false]
def mz23_3 : Array Bool := #[true, false, false, true, false, true, false, false, false, false, false, false, false, false, false, false, false, false, false]
def mz23_4 : Array Bool := #[true, false, false, true, false, true, false, false, false, false, false, false, true, false, false, false, false, false, false]
def mz23_5 : Array Bool := #[true, false, false, true, false, true, false, false, false, false, false, false, true, false, false, true, false, false, false]
def mz23_6 : Array Bool := #[true, false, false, true, true, true, false, false, false, false, false, false, true, false, false, true, false, false, false]
def mz23_7 : Array Bool := #[true, false, false, true, true, true, true, false, false, false, false, false, true, false, false, true, false, false, false]
def mz23_8 : Array Bool := #[true, false, false, true, true, true, true, true, false, false, false, false, true, false, false, true, false, false, false]
def mz23_9 : Array Bool := #[true, false, false, true, true, true, true, true, true, false, false, false, true, false, false, true, false, false, false]
def mz23_10 : Array Bool := #[true, false, false, true, true, true, true, true, true, true, false, false, true, false, false, true, false, false, false]
def mz23_11 : Array Bool := #[true, false, false, true, true, true, true, true, true, true, true, false, true, false, false, true, false, false, false]
def mz23_12 : Array Bool := #[true, false, false, true, true, true, true, true, true, true, true, true, true, false, false, true, false, false, false]
def mz23_13 : Array Bool := #[true, true, true, true, true, true, true, true, true, true, true, true, true, true, false, true, false, false, false]
def mz23_14 : Array Bool := #[true, true, false, true, true, true, true, true, true, true, true, true, true, false, false, true, false, false, false]
def mz23_15 : Array Bool := #[true, false, false, true, true, true, true, true, true, true, true, true, true, true, false, true, false, false, false]
def mz23_16 : Array Bool := #[true, true, true, true, true, true, true, true, true, true, true, true, true, false, false, true, false, false, false]
def mz23_17 : Array Bool := #[true, true, false, true, true, true, true, true, true, true, true, true, true, true, false, true, false, false, false]
def mz23_18 : Array Bool := az_z23 16 3
def mz23_19 : Array Bool := az_z23 17 2
def mz23_20 : Array Bool := az_z23 18 1
def mz23_21 : Array Bool := az_z23 19 0
theorem pu_z23 {P : Program} {ops : Array Oper} {Q : Exit → Act → World → Prop} {md : Region.Mode} {S : World → Prop} {ds : List Nat} {oi : Oper} {fuel : Nat} {l : Array Bool} {a : Act} {w : World} (i : Nat) (N : Option Tmp) (v : Value) (l' : Array Bool) (hi : ops[i]? = some oi) (hN : oi.dst = N) (hc : anyB md ops l l' i = true)
    (hQ : ∀ c a w, Q (.panic c) (a.put oi.dst v) w → Q (.panic c) a w) (hy : Yields P ops oi v a) (a' : Act) (ha : a.put N v = a')
    (h : wpAnyLast P md ops Q S ds fuel l' a' w) : wpAnyLast P md ops Q S ds (fuel + 1) l a w := pure_ l' hi hN hc hQ hy ha h
theorem pq_z23 : (∀ (l : List Value) (i : Nat) (v : Value), l.toArray.setIfInBounds i v = (l.set i v).toArray) ∧ (∀ (x v : Value) (xs : List Value), (x :: xs).set 0 v = v :: xs) ∧ (∀ (x v : Value) (xs : List Value) (n : Nat), (x :: xs).set (n + 1) v = x :: xs.set n v) ∧ (∀ n : Int, IntKind.i64.wrap n = Go.RowKit.wrap64 n) ∧ (∀ n : Int, IntKind.i32.wrap n = Go.RowKit.wrap32 n) :=
  ⟨fun l i v => List.setIfInBounds_toArray l i v, fun _ _ _ => rfl, fun _ _ _ _ => rfl, i64_w, i32_w⟩
set_option maxHeartbeats 8000000 in
set_option maxRecDepth 100000 in
theorem spec_l08Rule.calls (g : Nat) (s0_0 : List Int) (s0_1 : Int) (s0_2 : Int) (A1_0 : Option Addr) (c1_0 : Nat) (l1_0 : List (S34)) (A1_1 : Option Addr) (c1_1 : Nat) (l1_1 : List (S70)) (r1 : Int) (r2 : Int) (r3 : Int) (r4 : Bool) (r5 : Int) (r6 : Int) (w0 w : World) (hI : IsS68 w0 w g s0_0 s0_1 s0_2) (hB : Below w0.heap.size w0 w) (hr1_0 : ∀ W_, KeepBut w W_ g none → Kd.C k34 W_ A1_0 l1_0.length l1_0) (hc1_0 : l1_0.length ≤ c1_0) (hr1_1 : ∀ W_, KeepBut w W_ g none → Kd.C k70 W_ A1_1 l1_1.length l1_1) (hc1_1 : l1_1.length ≤ c1_1) (h : spec_l08Rule.f s0_0 s0_1 s0_2 l1_0 l1_1 = some (r1, r2, r3, r4, r5, r6)) :
  Calls Try.prog 23 #[.pointer (some ⟨g, 0, none⟩), .agg #[.slice A1_0 l1_0.length c1_0, .slice A1_1 l1_1.length c1_1]] w fun e w' => e = .returned (.agg #[.int .i64 r1, .int .i64 r2, .int .i64 r3, .bool r4]) ∧ IsS68 w0 w' g s0_0 r5 r6 ∧ Below w0.heap.size w0 w' ∧ KeepBut w w' g none := by
 have hu26 := Try.underlying26
 have hu29 := Try.underlying29
 have HR1_0 := Aside0.mk hr1_0
 have HC1_0 := Aside0.mk hc1_0
 clear hr1_0 hc1_0
 have HR1_1 := Aside0.mk hr1_1
 have HC1_1 := Aside0.mk hc1_1
 clear hr1_1 hc1_1
 have HI0 := Aside0.mk hI
 have HK := Aside0.mk (KeepBut.refl w g none)
 have HL := Aside0.mk hB.size
 clear hI
 have HW0 := Aside0.mk hB.size
 have HB := Aside0.mk hB
 clear hB
 have H : ((spec_l00Src_pick.f s0_0 s0_1 s0_2 4).bind fun bt214 => (if 0 ≤ (wrap64 ((l1_1.length : Int) - 1)) then (if (wrap64 ((l1_1.length : Int) - 1)) < (l1_1.length : Int) then ((spec_l00Src_among.f s0_0 bt214.2.1 bt214.2.2 (([0, 1, 1, 1, 2] : List Int))).bind fun bt221 => ((spec_l00Src_one.f s0_0 bt221.2.1 bt221.2.2 2).bind fun bt224 => (some (wrap64 (1 + bt214.1), (rd_T70 l1_1 (wrap64 ((l1_1.length : Int) - 1))).f0, bt221.1, bt224.1, bt224.2.1, bt224.2.2)))) else (none)) else (none))) = some (r1, r2, r3, r4, r5, r6) := h
 clear h
 replace H := Option.bind_eq_some_iff.mp H
 obtain ⟨⟨t214, t215, t216⟩, A30, H⟩ := H
 set_option simprocs false in try dsimp only at H
 have A3 := Aside0.mk A30
 clear A30
 obtain ⟨ji4, hji4⟩ : ∃ j_ : Int, (wrap64 ((l1_1.length : Int) - 1)) = j_ := ⟨_, rfl⟩
 replace H : (if 0 ≤ (ji4) then (if (ji4) < (l1_1.length : Int) then ((spec_l00Src_among.f s0_0 t215 t216 (([0, 1, 1, 1, 2] : List Int))).bind fun bt221 => ((spec_l00Src_one.f s0_0 bt221.2.1 bt221.2.2 2).bind fun bt224 => (some (wrap64 (1 + t214), (rd_T70 l1_1 (ji4)).f0, bt221.1, bt224.1, bt224.2.1, bt224.2.2)))) else (none)) else (none)) = some (r1, r2, r3, r4, r5, r6) := by first | (rw [hji4] at H; exact H) | (simp only [hji4] at H ⊢; exact H)
 (try rw [hji4] at A3)
 have hji4w : (IntKind.i64.wrap ((l1_1.length : Int) - 1)) = ji4 := (i64_w _).trans hji4
 by_cases c5 : 0 ≤ (ji4)
 ·rw [if_pos c5] at H
  have c5b0 : decide (0 ≤ (ji4)) = true := decide_eq_true c5
  clear c5
  by_cases c6 : (ji4) < (l1_1.length : Int)
  ·rw [if_pos c6] at H
   have c6b0 : decide ((ji4) < (l1_1.length : Int)) = true := decide_eq_true c6
   clear c6
   obtain ⟨y218, hy218⟩ : ∃ y_ : List Int, y_ = (([0, 1, 1, 1, 2] : List Int)) := ⟨_, rfl⟩
   replace H : ((spec_l00Src_among.f s0_0 t215 t216 y218).bind fun bt221 => ((spec_l00Src_one.f s0_0 bt221.2.1 bt221.2.2 2).bind fun bt224 => (some (wrap64 (1 + t214), (rd_T70 l1_1 (ji4)).f0, bt221.1, bt224.1, bt224.2.1, bt224.2.2)))) = some (r1, r2, r3, r4, r5, r6) := by first | (rw [hy218]; with_reducible exact H) | (have H2_ := (Option.bind_some _ _).symm.trans H; rw [hy218]; with_reducible exact H2_) | (have H2_ := (Option.bind_some _ _).symm.trans H; with_reducible exact H2_) | with_reducible exact H | (rw [hy218]; exact H) | exact H
   have Ny218 := Aside0.mk hy218
   clear hy218
   replace H := Option.bind_eq_some_iff.mp H
   obtain ⟨⟨t221, t222, t223⟩, A70, H⟩ := H
   set_option simprocs false in try dsimp only at H
   have A7 := Aside0.mk A70
   clear A70
   replace H := Option.bind_eq_some_iff.mp H
   obtain ⟨⟨t224, t225, t226⟩, A80, H⟩ := H
   set_option simprocs false in try dsimp only at H
   have A8 := Aside0.mk A80
   clear A80
   simp only [Option.some.injEq, Prod.mk.injEq] at H
   obtain ⟨rfl, rfl, rfl, rfl, rfl, rfl⟩ := H
   go_enter Try.func23, Try.ntmps23
   try go_wp2_with (first | ((with_reducible refine gate_dst (N := 3) rfl ?_); refine box_event ?hg (N := 3) ?hd (cs := #[.slice A1_0 l1_0.length c1_0, .slice A1_1 l1_1.length c1_1]) (t := 26) ?hr ?_; (case hd => rfl); (case hg => rfl); (case hr => first | (go_simp; done) | (go_simp; rfl)); intro gb212 hg w9 hbox hb; have n0_ := Aside0.mk (IsS68.below (by repeat (first | (with_reducible first | exact HI0.out | apply IsS68.alloc | apply IsS68.drewN | apply IsS68.drew | apply IsS68.set_1 | apply IsS68.set_2) | exact HI0.out)) hb); have n1_ := Aside0.mk (KeepBut.trans (by repeat (first | (with_reducible first | exact HK.out | apply KeepBut.set_ | apply keep_drewN | apply keep_drew | apply keep_alloc) | exact HK.out)) (KeepBut.of_below hb g none) (.inl rfl)); have n2_ := Aside0.mk (below_step (by repeat (first | (with_reducible first | exact HB.out | apply below_alloc | apply pw_below_drewN | apply below_drew1 | refine below_set ?_ (IsS68.ge HI0.out)) | exact HB.out)) hb); have n3_ := Aside0.mk (hbox); have n4_ := Aside0.mk ((by rw [hg]; exact (keep_size (w := w) (g := g) (row := none) (by repeat (first | (with_reducible first | exact HK.out | apply KeepBut.set_ | apply keep_drewN | apply keep_drew | apply keep_alloc) | exact HK.out))) : w.heap.size ≤ gb212)); have n5_ := Aside0.mk ((Nat.le_trans HW0.out (by rw [hg]; exact (keep_size (w := w) (g := g) (row := none) (by repeat (first | (with_reducible first | exact HK.out | apply KeepBut.set_ | apply keep_drewN | apply keep_drew | apply keep_alloc) | exact HK.out))) : w.heap.size ≤ gb212) : w0.heap.size ≤ gb212)); have n6_ := Aside0.mk ((by rw [hg]; exact Nat.ne_of_lt (IsS68.lt (show IsS68 w0 _ g s0_0 s0_1 s0_2 from by repeat (first | (with_reducible first | exact HI0.out | apply IsS68.alloc | apply IsS68.drewN | apply IsS68.drew | apply IsS68.set_1 | apply IsS68.set_2) | exact HI0.out))) : g ≠ gb212)); have n7_ := Aside0.mk ((by rw [hg]; exact Nat.ne_of_gt (IsS68.lt (show IsS68 w0 _ g s0_0 s0_1 s0_2 from by repeat (first | (with_reducible first | exact HI0.out | apply IsS68.alloc | apply IsS68.drewN | apply IsS68.drew | apply IsS68.set_1 | apply IsS68.set_2) | exact HI0.out))) : gb212 ≠ g)); clear HI0; clear HK; clear HB; have HI0 := n0_; have HK := n1_; have HB := n2_; have BK212 := n3_; have GW212 := n4_; have GE212 := n5_; have NB0_212 := n6_; have NB212_0 := n7_; clear n0_ n1_ n2_ n3_ n4_ n5_ n6_ n7_; clear hb hbox hg) | ((with_reducible refine gate_dst (N := 4) rfl ?_); refine box_event ?hg (N := 4) ?hd (cs := #[.int .i64 0, .int .i64 0, .int .i64 0, .bool false]) (t := 29) ?hr ?_; (case hd => rfl); (case hg => rfl); (case hr => first | (go_simp; done) | (go_simp; rfl)); intro gb213 hg w10 hbox hb; have n0_ := Aside0.mk (IsS68.below (by repeat (first | (with_reducible first | exact HI0.out | apply IsS68.alloc | apply IsS68.drewN | apply IsS68.drew | apply IsS68.set_1 | apply IsS68.set_2 | refine IsS68.far ?_ NB0_212.out _) | exact HI0.out)) hb); have n1_ := Aside0.mk (blk_below (by exact BK212.out) hb); have n2_ := Aside0.mk (KeepBut.trans (by repeat (first | (with_reducible first | exact HK.out | apply KeepBut.set_ | apply keep_drewN | apply keep_drew | apply keep_alloc | refine keep_far ?_ GW212.out _) | exact HK.out)) (KeepBut.of_below hb g none) (.inl rfl)); have n3_ := Aside0.mk (below_step (by repeat (first | (with_reducible first | exact HB.out | apply below_alloc | apply pw_below_drewN | apply below_drew1 | refine below_set ?_ (IsS68.ge HI0.out) | refine below_set ?_ GE212.out) | exact HB.out)) hb); have n4_ := Aside0.mk (hbox); have n5_ := Aside0.mk ((by rw [hg]; exact (keep_size (w := w) (g := g) (row := none) (by repeat (first | (with_reducible first | exact HK.out | apply KeepBut.set_ | apply keep_drewN | apply keep_drew | apply keep_alloc | refine keep_far ?_ GW212.out _) | exact HK.out))) : w.heap.size ≤ gb213)); have n6_ := Aside0.mk ((Nat.le_trans HW0.out (by rw [hg]; exact (keep_size (w := w) (g := g) (row := none) (by repeat (first | (with_reducible first | exact HK.out | apply KeepBut.set_ | apply keep_drewN | apply keep_drew | apply keep_alloc | refine keep_far ?_ GW212.out _) | exact HK.out))) : w.heap.size ≤ gb213) : w0.heap.size ≤ gb213)); have n7_ := Aside0.mk ((by rw [hg]; exact Nat.ne_of_lt (blk_lt (g := gb212) (o := .cells #[.slice A1_0 l1_0.length c1_0, .slice A1_1 l1_1.length c1_1] 26 (0, 0)) (by exact BK212.out)) : gb212 ≠ gb213)); have n8_ := Aside0.mk ((by rw [hg]; exact Nat.ne_of_gt (blk_lt (g := gb212) (o := .cells #[.slice A1_0 l1_0.length c1_0, .slice A1_1 l1_1.length c1_1] 26 (0, 0)) (by exact BK212.out)) : gb213 ≠ gb212)); have n9_ := Aside0.mk ((by rw [hg]; exact Nat.ne_of_lt (IsS68.lt (show IsS68 w0 _ g s0_0 s0_1 s0_2 from by repeat (first | (with_reducible first | exact HI0.out | apply IsS68.alloc | apply IsS68.drewN | apply IsS68.drew | apply IsS68.set_1 | apply IsS68.set_2 | refine IsS68.far ?_ NB0_212.out _) | exact HI0.out))) : g ≠ gb213)); have n10_ := Aside0.mk ((by rw [hg]; exact Nat.ne_of_gt (IsS68.lt (show IsS68 w0 _ g s0_0 s0_1 s0_2 from by repeat (first | (with_reducible first | exact HI0.out | apply IsS68.alloc | apply IsS68.drewN | apply IsS68.drew | apply IsS68.set_1 | apply IsS68.set_2 | refine IsS68.far ?_ NB0_212.out _) | exact HI0.out))) : gb213 ≠ g)); clear HI0; clear BK212; clear HK; clear HB; have HI0 := n0_; have BK212 := n1_; have HK := n2_; have HB := n3_; have BK213 := n4_; have GW213 := n5_; have GE213 := n6_; have NB212_213 := n7_; have NB213_212 := n8_; have NB0_213 := n9_; have NB213_0 := n10_; clear n0_ n1_ n2_ n3_ n4_ n5_ n6_ n7_ n8_ n9_ n10_; clear hb hbox hg))
   have n0_ := Aside0.mk (blk_drew BK212.out)
   have n1_ := Aside0.mk (blk_drew BK213.out)
   have n2_ := Aside0.mk (IsS68.drew HI0.out)
   have n3_ := Aside0.mk (keep_drew HK.out)
   have n4_ := Aside0.mk (below_drew1 HB.out)
   clear BK212
   clear BK213
   clear HI0
   clear HK
   clear HB
   have BK212 := n0_
   have BK213 := n1_
   have HI0 := n2_
   have HK := n3_
   have HB := n4_
   clear n0_ n1_ n2_ n3_ n4_
   have p217 : 0 ≤ ((ji4) : Int) := of_decide_eq_true (by assumption)
   have q217 : (ji4) < (l1_1.length : Int) := of_decide_eq_true (by assumption)
   obtain ⟨ad217, A217_2, c217_2, e217, hx217_0, hx217_1, hx217_2, hl217_2, hi217_2⟩ := at_T70 (Kd.C_foot_now HR1_1.out HK.out) (ji4) p217 q217
   have hw217_2 := hx217_2
   have hw217_1 := hx217_1
   have hw217_0 := hx217_0
   cases e217
   have hne217_2 := (show (⟨(ad217.add (((ji4)).toNat * 3)).block, (ad217.add (((ji4)).toNat * 3)).off + 2, none⟩ : Addr).block ≠ g from by first | (rw [add_block]; exact Kd.foot_ne HR1_1.out (by omega) (by decide)) | (show (Addr.add _ _).block ≠ _; rw [add_block]; exact Kd.foot_ne HR1_1.out (by omega) (by decide)) | exact Kd.foot_ne HR1_1.out (by omega) (by decide) | (dsimp only; exact Kd.foot_ne HR1_1.out (by omega) (by decide)))
   have hlt217_2 := (Kd.foot_lt HR1_1.out (by omega) (by decide))
   have hne217_1 := (show (⟨(ad217.add (((ji4)).toNat * 3)).block, (ad217.add (((ji4)).toNat * 3)).off + 1, none⟩ : Addr).block ≠ g from by first | (rw [add_block]; exact Kd.foot_ne HR1_1.out (by omega) (by decide)) | (show (Addr.add _ _).block ≠ _; rw [add_block]; exact Kd.foot_ne HR1_1.out (by omega) (by decide)) | exact Kd.foot_ne HR1_1.out (by omega) (by decide) | (dsimp only; exact Kd.foot_ne HR1_1.out (by omega) (by decide)))
   have hlt217_1 := (Kd.foot_lt HR1_1.out (by omega) (by decide))
   have hne217_0 := (show ((ad217.add (((ji4)).toNat * 3)) : Addr).block ≠ g from by first | (rw [add_block]; exact Kd.foot_ne HR1_1.out (by omega) (by decide)) | (show (Addr.add _ _).block ≠ _; rw [add_block]; exact Kd.foot_ne HR1_1.out (by omega) (by decide)) | exact Kd.foot_ne HR1_1.out (by omega) (by decide) | (dsimp only; exact Kd.foot_ne HR1_1.out (by omega) (by decide)))
   have hlt217_0 := (Kd.foot_lt HR1_1.out (by omega) (by decide))
   have HR217_2 := Aside0.mk hi217_2
   have HC217_2 := Aside0.mk hl217_2
   clear hi217_2 hl217_2
   replace p217 := eq_true p217
   replace q217 := eq_true q217
   refine start_ (n := 19) (S := fun w' => w'.cell? ⟨gb212, 0, none⟩ = some (.slice A1_0 l1_0.length c1_0) ∧ w'.cell? ⟨gb212, 1, none⟩ = some (.slice (some ad217) l1_1.length c1_1) ∧ w'.cell? (ad217.add (((ji4)).toNat * 3)) = some (.int .i64 ((rd_T70 l1_1 (ji4)).f0)) ∧ w'.cell? ⟨(ad217.add (((ji4)).toNat * 3)).block, (ad217.add (((ji4)).toNat * 3)).off + 1, none⟩ = some (.int .i64 ((rd_T70 l1_1 (ji4)).f1)) ∧ w'.cell? ⟨(ad217.add (((ji4)).toNat * 3)).block, (ad217.add (((ji4)).toNat * 3)).off + 2, none⟩ = some (.slice A217_2 ((rd_T70 l1_1 (ji4)).f2).length c217_2)) (ds := []) mz23_0 (by kernel_rfl) rfl rfl ⟨(blk_cell BK212.out 0).trans rfl, (blk_cell BK212.out 1).trans rfl, hx217_0, hx217_1, hx217_2⟩ (fun hHeld => ?_); refine with_tabW spec_l08Rule.tab1 spec_l08Rule.bits1 (fun HT_ HW_ => ?_)
   generalize w10.drew = w11 at BK212 BK213 HI0 HK HB HR217_2 hx217_0 hx217_1 hx217_2 hHeld ⊢
   refine pu 0 (some 5) mz23_1 (any_of HT_.out (by kernel_rfl)) ?_
   refine pu 3 (some 8) mz23_2 (any_of HT_.out (by kernel_rfl)) ?_
   refine pu 5 (some 10) mz23_3 (any_of HT_.out (by kernel_rfl)) ?_
   refine pu 12 (some 17) mz23_4 (any_of HT_.out (by kernel_rfl)) ?_
   refine pu 15 (some 20) mz23_5 (any_of HT_.out (by kernel_rfl)) ?_
   refine tk 4 (some 9) mz23_6 hHeld (take_ofW HT_.out HW_.out (by kernel_rfl)) ?_
   refine tk 6 (some 11) mz23_7 hHeld (take_ofW HT_.out HW_.out (by kernel_rfl)) ?_
   refine pu 7 (some 12) mz23_8 (any_of HT_.out (by kernel_rfl)) ?_
   refine pu 8 (some 13) mz23_9 (any_of HT_.out (by kernel_rfl)) ?_
   refine pu 9 (some 14) mz23_10 (any_of HT_.out (by kernel_rfl)) ?_
   refine pu 10 (some 15) mz23_11 (any_of HT_.out (by kernel_rfl)) ?_
   refine tk 11 (some 16) mz23_12 hHeld (take_ofW HT_.out HW_.out (by kernel_rfl)) ?_
   refine join_ (σ := Value) 4 mz23_13 (fun s_ => [(6, .int .i64 t214), (18, s_), (7, .int .i64 (wrap64 (1 + t214)))]) (fun s_ w' => (w'.cell? ⟨gb212, 0, none⟩ = some (.slice A1_0 l1_0.length c1_0) ∧ w'.cell? ⟨gb212, 1, none⟩ = some (.slice (some ad217) l1_1.length c1_1) ∧ w'.cell? (ad217.add (((ji4)).toNat * 3)) = some (.int .i64 ((rd_T70 l1_1 (ji4)).f0)) ∧ w'.cell? ⟨(ad217.add (((ji4)).toNat * 3)).block, (ad217.add (((ji4)).toNat * 3)).off + 1, none⟩ = some (.int .i64 ((rd_T70 l1_1 (ji4)).f1)) ∧ w'.cell? ⟨(ad217.add (((ji4)).toNat * 3)).block, (ad217.add (((ji4)).toNat * 3)).off + 2, none⟩ = some (.slice A217_2 ((rd_T70 l1_1 (ji4)).f2).length c217_2)) ∧ (Kd.R (Kd.int .i64) 2 w' w.heap.size (fun _ => True) s_ y218) ∧ (w'.heap[gb212]? = some (.cells #[.slice A1_0 l1_0.length c1_0, .slice (some ad217) l1_1.length c1_1] 26 (0, 0))) ∧ (w'.heap[gb213]? = some (.cells #[.int .i64 0, .int .i64 0, .int .i64 0, .bool false] 29 (0, 0))) ∧ (IsS68 w0 w' g s0_0 t215 t216) ∧ (KeepBut w w' g none) ∧ (Below w0.heap.size w0 w')) ?_ ?_
   rotate_left
   ·intro hCont
    refine two_ (i := 1) (j := 13) (Ni := some 6) (Nj := some 18) mz23_14 mz23_15 rfl rfl rfl rfl (two_of HT_.out (by kernel_rfl)) (by decide) (by decide) (fun K hK => ?_) (fun K hK => ?_)
    ·skip
     refine goes_ Try.func36 (by kernel_rfl) rfl #[.pointer (some ⟨g, 0, none⟩), .int .i64 4] (by rfl) rfl rfl (by (try simp only [List.map_toArray, List.map_cons, List.map_nil]); first | done | rfl) ?_
     with_reducible refine (spec_l00Src_pick.calls g s0_0 s0_1 s0_2 4 t214 t215 t216 w0 _ ?side1 ?side2 A3.out).mono ?_
     (case side1 => repeat (first | (with_reducible first | exact HI0.out | apply IsS68.alloc | apply IsS68.drewN | apply IsS68.drew | apply IsS68.set_1 | apply IsS68.set_2 | refine IsS68.far ?_ NB0_212.out _ | refine IsS68.far ?_ NB0_213.out _) | exact HI0.out))
     (case side2 => repeat (first | (with_reducible first | exact HB.out | apply below_alloc | apply pw_below_drewN | apply below_drew1 | refine below_set ?_ (IsS68.ge HI0.out) | refine below_set ?_ GE212.out | refine below_set ?_ GE213.out) | exact HB.out))
     rintro e w12 ⟨rfl, hi, hb, hk⟩
     have HS2_ := keep_cell hk (hHeld.2.2.1) (by first | (rw [add_block]; exact hne217_0) | (show (Addr.add _ _).block ≠ _; rw [add_block]; exact hne217_0) | exact hne217_0)
     have HS3_ := keep_cell hk (hHeld.2.2.2.1) (by first | (rw [add_block]; exact hne217_1) | (show (Addr.add _ _).block ≠ _; rw [add_block]; exact hne217_1) | exact hne217_1)
     have HS4_ := keep_cell hk (hHeld.2.2.2.2) (by first | (rw [add_block]; exact hne217_2) | (show (Addr.add _ _).block ≠ _; rw [add_block]; exact hne217_2) | exact hne217_2)
     refine ⟨_, rfl, ?_⟩
     have n0_ := Aside0.mk (KeepBut.blk hk (g' := gb212) (o := .cells #[.slice A1_0 l1_0.length c1_0, .slice (some ad217) l1_1.length c1_1] 26 (0, 0)) (by exact BK212.out) NB212_0.out (by simp))
     have n1_ := Aside0.mk (KeepBut.blk hk (g' := gb213) (o := .cells #[.int .i64 0, .int .i64 0, .int .i64 0, .bool false] 29 (0, 0)) (by exact BK213.out) NB213_0.out (by simp))
     have n2_ := Aside0.mk (KeepBut.trans (by repeat (first | (with_reducible first | exact HK.out | apply KeepBut.set_ | apply keep_drewN | apply keep_drew | apply keep_alloc | refine keep_far ?_ GW212.out _ | refine keep_far ?_ GW213.out _) | exact HK.out)) hk (.inl rfl))
     have n3_ := Aside0.mk (hb)
     have n4_ := Aside0.mk (hi)
     clear BK212
     clear BK213
     clear HK
     clear HB
     clear HI0
     have BK212 := n0_
     have BK213 := n1_
     have HK := n2_
     have HB := n3_
     have HI0 := n4_
     clear n0_ n1_ n2_ n3_ n4_
     (try clear hb)
     (try clear hb2)
     (try clear hk)
     (try clear hi)
     refine hK.out _ _ ⟨(blk_cell BK212.out 0).trans rfl, (blk_cell BK212.out 1).trans rfl, HS2_, HS3_, HS4_⟩ (fun hHeld => ?_)
     clear hK K
     refine norm_ (a' := ?_) ?_ ?_
     (rotate_left; ·(show Act.put _ (some 6) _ = _; simp only [Act.put, pq_z23]; rfl))
     refine pu 2 (some 7) mz23_16 (any_of HT_.out (by kernel_rfl)) ?_
     refine one_ (i := 13) (N := some 18) mz23_13 rfl rfl (one_of HT_.out (by kernel_rfl)) (by decide) (fun K hK => ?_)
     refine Kd.R_lit_step (Kd.int .i64) _ 2 ?hg (N := 18) ?hd (xs := ([0, 1, 1, 1, 2] : List Int)) (inner := [.int .i64 0, .int .i64 1, .int .i64 1, .int .i64 1, .int .i64 2]) (ok := fun _ => True) (okp := fun _ => True) ?hr ?hp (fun _ hk => hk) trivial (Below.refl _ _) (Nat.le_refl _) (by simp) ?_; (case hd => rfl); (case hg => rfl); (case hr => first | (go_simp; done) | (go_simp; rfl)); (case hp => exact (Reps.one (show Kd.M (Kd.int .i64) _ _ _ 0 [.int .i64 0] from rfl) (Reps.one (show Kd.M (Kd.int .i64) _ _ _ 1 [.int .i64 1] from rfl) (Reps.one (show Kd.M (Kd.int .i64) _ _ _ 1 [.int .i64 1] from rfl) (Reps.one (show Kd.M (Kd.int .i64) _ _ _ 1 [.int .i64 1] from rfl) (Reps.one (show Kd.M (Kd.int .i64) _ _ _ 2 [.int .i64 2] from rfl) (Reps.none _ _)))))))
     intro v219 w13 ho14 hb hg_ hnew_
     have HS2_ := (hb.cell (World.block_lt_of_cell? _ _ (hHeld.2.2.1))).trans (hHeld.2.2.1)
     have HS3_ := (hb.cell (World.block_lt_of_cell? _ _ (hHeld.2.2.2.1))).trans (hHeld.2.2.2.1)
     have HS4_ := (hb.cell (World.block_lt_of_cell? _ _ (hHeld.2.2.2.2))).trans (hHeld.2.2.2.2)
     clear hg_ hnew_
     (first | rw [← Ny218.out] at ho14 | (simp only [Int.reduceToNat] at ho14; rw [← Ny218.out] at ho14))
     have n0_ := Aside0.mk (Kd.R_lower ho14 (keep_size (w := w) (g := g) (row := none) (by repeat (first | (with_reducible first | exact HK.out | apply KeepBut.set_ | apply keep_drewN | apply keep_drew | apply keep_alloc | refine keep_far ?_ GW212.out _ | refine keep_far ?_ GW213.out _) | exact HK.out))))
     have n1_ := Aside0.mk (IsS68.below (by repeat (first | (with_reducible first | exact HI0.out | apply IsS68.alloc | apply IsS68.drewN | apply IsS68.drew | apply IsS68.set_1 | apply IsS68.set_2 | refine IsS68.far ?_ NB0_212.out _ | refine IsS68.far ?_ NB0_213.out _) | exact HI0.out)) hb)
     have n2_ := Aside0.mk (blk_below (by exact BK212.out) hb)
     have n3_ := Aside0.mk (blk_below (by exact BK213.out) hb)
     have n4_ := Aside0.mk (KeepBut.trans (by repeat (first | (with_reducible first | exact HK.out | apply KeepBut.set_ | apply keep_drewN | apply keep_drew | apply keep_alloc | refine keep_far ?_ GW212.out _ | refine keep_far ?_ GW213.out _) | exact HK.out)) (KeepBut.of_below hb g none) (.inl rfl))
     have n5_ := Aside0.mk (below_step (by repeat (first | (with_reducible first | exact HB.out | apply below_alloc | apply pw_below_drewN | apply below_drew1 | refine below_set ?_ (IsS68.ge HI0.out) | refine below_set ?_ GE212.out | refine below_set ?_ GE213.out) | exact HB.out)) hb)
     clear HI0
     clear BK212
     clear BK213
     clear HK
     clear HB
     have HO220 := n0_
     have HI0 := n1_
     have BK212 := n2_
     have BK213 := n3_
     have HK := n4_
     have HB := n5_
     clear n0_ n1_ n2_ n3_ n4_ n5_
     clear hb ho14
     refine hK.out _ _ ⟨(blk_cell BK212.out 0).trans rfl, (blk_cell BK212.out 1).trans rfl, HS2_, HS3_, HS4_⟩ (fun hHeld => ?_)
     clear hK K
     refine norm_ (a' := ?_) ?_ ?_
     (rotate_left; ·(show Act.put _ (some 18) _ = _; simp only [Act.put, pq_z23]; rfl))
     exact norm_ (by simp only [putAll, Act.put, List.setIfInBounds_toArray, List.set_cons_zero, List.set_cons_succ]) (hCont (v219) _ ⟨hHeld, (by (with_reducible repeat (first | apply Kd.R_alloc | apply Kd.R_drewN | apply Kd.R_drew)); exact HO220.out), (by exact BK212.out), (by exact BK213.out), (by repeat (first | (with_reducible first | exact HI0.out | apply IsS68.alloc | apply IsS68.drewN | apply IsS68.drew | apply IsS68.set_1 | apply IsS68.set_2 | refine IsS68.far ?_ NB0_212.out _ | refine IsS68.far ?_ NB0_213.out _) | exact HI0.out)), (by repeat (first | (with_reducible first | exact HK.out | apply KeepBut.set_ | apply keep_drewN | apply keep_drew | apply keep_alloc | refine keep_far ?_ GW212.out _ | refine keep_far ?_ GW213.out _) | exact HK.out)), (by repeat (first | (with_reducible first | exact HB.out | apply below_alloc | apply pw_below_drewN | apply below_drew1 | refine below_set ?_ (IsS68.ge HI0.out) | refine below_set ?_ GE212.out | refine below_set ?_ GE213.out) | exact HB.out))⟩)
    ·skip
     refine Kd.R_lit_step (Kd.int .i64) _ 2 ?hg (N := 18) ?hd (xs := ([0, 1, 1, 1, 2] : List Int)) (inner := [.int .i64 0, .int .i64 1, .int .i64 1, .int .i64 1, .int .i64 2]) (ok := fun _ => True) (okp := fun _ => True) ?hr ?hp (fun _ hk => hk) trivial (Below.refl _ _) (Nat.le_refl _) (by simp) ?_; (case hd => rfl); (case hg => rfl); (case hr => first | (go_simp; done) | (go_simp; rfl)); (case hp => exact (Reps.one (show Kd.M (Kd.int .i64) _ _ _ 0 [.int .i64 0] from rfl) (Reps.one (show Kd.M (Kd.int .i64) _ _ _ 1 [.int .i64 1] from rfl) (Reps.one (show Kd.M (Kd.int .i64) _ _ _ 1 [.int .i64 1] from rfl) (Reps.one (show Kd.M (Kd.int .i64) _ _ _ 1 [.int .i64 1] from rfl) (Reps.one (show Kd.M (Kd.int .i64) _ _ _ 2 [.int .i64 2] from rfl) (Reps.none _ _)))))))
     intro v219 w12 ho13 hb hg_ hnew_
     have HS2_ := (hb.cell (World.block_lt_of_cell? _ _ (hHeld.2.2.1))).trans (hHeld.2.2.1)
     have HS3_ := (hb.cell (World.block_lt_of_cell? _ _ (hHeld.2.2.2.1))).trans (hHeld.2.2.2.1)
     have HS4_ := (hb.cell (World.block_lt_of_cell? _ _ (hHeld.2.2.2.2))).trans (hHeld.2.2.2.2)
     clear hg_ hnew_
     (first | rw [← Ny218.out] at ho13 | (simp only [Int.reduceToNat] at ho13; rw [← Ny218.out] at ho13))
     have n0_ := Aside0.mk (Kd.R_lower ho13 (keep_size (w := w) (g := g) (row := none) (by repeat (first | (with_reducible first | exact HK.out | apply KeepBut.set_ | apply keep_drewN | apply keep_drew | apply keep_alloc | refine keep_far ?_ GW212.out _ | refine keep_far ?_ GW213.out _) | exact HK.out))))
     have n1_ := Aside0.mk (IsS68.below (by repeat (first | (with_reducible first | exact HI0.out | apply IsS68.alloc | apply IsS68.drewN | apply IsS68.drew | apply IsS68.set_1 | apply IsS68.set_2 | refine IsS68.far ?_ NB0_212.out _ | refine IsS68.far ?_ NB0_213.out _) | exact HI0.out)) hb)
     have n2_ := Aside0.mk (blk_below (by exact BK212.out) hb)
     have n3_ := Aside0.mk (blk_below (by exact BK213.out) hb)
     have n4_ := Aside0.mk (Kd.C_below (by repeat (first | (with_reducible exact HR217_2.out) | (with_reducible refine Kd.C_alloc ?_ _) | (with_reducible refine Kd.C_drewN ?_ _) | (with_reducible refine Kd.C_drew ?_) | exact HR217_2.out)) hb)
     have n5_ := Aside0.mk (KeepBut.trans (by repeat (first | (with_reducible first | exact HK.out | apply KeepBut.set_ | apply keep_drewN | apply keep_drew | apply keep_alloc | refine keep_far ?_ GW212.out _ | refine keep_far ?_ GW213.out _) | exact HK.out)) (KeepBut.of_below hb g none) (.inl rfl))
     have n6_ := Aside0.mk (below_step (by repeat (first | (with_reducible first | exact HB.out | apply below_alloc | apply pw_below_drewN | apply below_drew1 | refine below_set ?_ (IsS68.ge HI0.out) | refine below_set ?_ GE212.out | refine below_set ?_ GE213.out) | exact HB.out)) hb)
     clear HI0
     clear BK212
     clear BK213
     clear HR217_2
     clear HK
     clear HB
     have HO220 := n0_
     have HI0 := n1_
     have BK212 := n2_
     have BK213 := n3_
     have HR217_2 := n4_
     have HK := n5_
     have HB := n6_
     clear n0_ n1_ n2_ n3_ n4_ n5_ n6_
     clear hb ho13
     refine hK.out _ _ ⟨(blk_cell BK212.out 0).trans rfl, (blk_cell BK212.out 1).trans rfl, HS2_, HS3_, HS4_⟩ (fun hHeld => ?_)
     clear hK K
     refine norm_ (a' := ?_) ?_ ?_
     (rotate_left; ·(show Act.put _ (some 18) _ = _; simp only [Act.put, pq_z23]; rfl))
     refine one_ (i := 1) (N := some 6) mz23_17 rfl rfl (one_of HT_.out (by kernel_rfl)) (by decide) (fun K hK => ?_)
     refine goes_ Try.func36 (by kernel_rfl) rfl #[.pointer (some ⟨g, 0, none⟩), .int .i64 4] (by rfl) rfl rfl (by (try simp only [List.map_toArray, List.map_cons, List.map_nil]); first | done | rfl) ?_
     with_reducible refine (spec_l00Src_pick.calls g s0_0 s0_1 s0_2 4 t214 t215 t216 w0 _ ?side1 ?side2 A3.out).mono ?_
     (case side1 => repeat (first | (with_reducible first | exact HI0.out | apply IsS68.alloc | apply IsS68.drewN | apply IsS68.drew | apply IsS68.set_1 | apply IsS68.set_2 | refine IsS68.far ?_ NB0_212.out _ | refine IsS68.far ?_ NB0_213.out _) | exact HI0.out))
     (case side2 => repeat (first | (with_reducible first | exact HB.out | apply below_alloc | apply pw_below_drewN | apply below_drew1 | refine below_set ?_ (IsS68.ge HI0.out) | refine below_set ?_ GE212.out | refine below_set ?_ GE213.out) | exact HB.out))
     rintro e w14 ⟨rfl, hi, hb, hk⟩
     have HS2_ := keep_cell hk (hHeld.2.2.1) (by first | (rw [add_block]; exact hne217_0) | (show (Addr.add _ _).block ≠ _; rw [add_block]; exact hne217_0) | exact hne217_0)
     have HS3_ := keep_cell hk (hHeld.2.2.2.1) (by first | (rw [add_block]; exact hne217_1) | (show (Addr.add _ _).block ≠ _; rw [add_block]; exact hne217_1) | exact hne217_1)
     have HS4_ := keep_cell hk (hHeld.2.2.2.2) (by first | (rw [add_block]; exact hne217_2) | (show (Addr.add _ _).block ≠ _; rw [add_block]; exact hne217_2) | exact hne217_2)
     refine ⟨_, rfl, ?_⟩
     have n0_ := Aside0.mk (KeepBut.blk hk (g' := gb212) (o := .cells #[.slice A1_0 l1_0.length c1_0, .slice (some ad217) l1_1.length c1_1] 26 (0, 0)) (by exact BK212.out) NB212_0.out (by simp))
     have n1_ := Aside0.mk (KeepBut.blk hk (g' := gb213) (o := .cells #[.int .i64 0, .int .i64 0, .int .i64 0, .bool false] 29 (0, 0)) (by exact BK213.out) NB213_0.out (by simp))
     have n2_ := Aside0.mk (Kd.R_mono (Kd.R_keep (IsS68.apart (show IsS68 w0 _ g s0_0 s0_1 s0_2 from by repeat (first | (with_reducible first | exact HI0.out | apply IsS68.alloc | apply IsS68.drewN | apply IsS68.drew | apply IsS68.set_1 | apply IsS68.set_2 | refine IsS68.far ?_ NB0_212.out _ | refine IsS68.far ?_ NB0_213.out _) | exact HI0.out)) (by (with_reducible repeat (first | apply Kd.R_alloc | apply Kd.R_drewN | apply Kd.R_drew)); exact HO220.out) (by decide)) hk (fun _ h => h.2)) (fun _ h => h.1))
     have n3_ := Aside0.mk (KeepBut.trans (by repeat (first | (with_reducible first | exact HK.out | apply KeepBut.set_ | apply keep_drewN | apply keep_drew | apply keep_alloc | refine keep_far ?_ GW212.out _ | refine keep_far ?_ GW213.out _) | exact HK.out)) hk (.inl rfl))
     have n4_ := Aside0.mk (hb)
     have n5_ := Aside0.mk (hi)
     clear BK212
     clear BK213
     clear HO220
     clear HK
     clear HB
     clear HI0
     have BK212 := n0_
     have BK213 := n1_
     have HO220 := n2_
     have HK := n3_
     have HB := n4_
     have HI0 := n5_
     clear n0_ n1_ n2_ n3_ n4_ n5_
     (try clear hb)
     (try clear hb2)
     (try clear hk)
     (try clear hi)
     refine hK.out _ _ ⟨(blk_cell BK212.out 0).trans rfl, (blk_cell BK212.out 1).trans rfl, HS2_, HS3_, HS4_⟩ (fun hHeld => ?_)
     clear hK K
     refine norm_ (a' := ?_) ?_ ?_
     (rotate_left; ·(show Act.put _ (some 6) _ = _; simp only [Act.put, pq_z23]; rfl))
     refine pu 2 (some 7) mz23_13 (any_of HT_.out (by kernel_rfl)) ?_
     exact norm_ (by simp only [putAll, Act.put, List.setIfInBounds_toArray, List.set_cons_zero, List.set_cons_succ]) (hCont (v219) _ ⟨hHeld, (by (with_reducible repeat (first | apply Kd.R_alloc | apply Kd.R_drewN | apply Kd.R_drew)); exact HO220.out), (by exact BK212.out), (by exact BK213.out), (by repeat (first | (with_reducible first | exact HI0.out | apply IsS68.alloc | apply IsS68.drewN | apply IsS68.drew | apply IsS68.set_1 | apply IsS68.set_2 | refine IsS68.far ?_ NB0_212.out _ | refine IsS68.far ?_ NB0_213.out _) | exact HI0.out)), (by repeat (first | (with_reducible first | exact HK.out | apply KeepBut.set_ | apply keep_drewN | apply keep_drew | apply keep_alloc | refine keep_far ?_ GW212.out _ | refine keep_far ?_ GW213.out _) | exact HK.out)), (by repeat (first | (with_reducible first | exact HB.out | apply below_alloc | apply pw_below_drewN | apply below_drew1 | refine below_set ?_ (IsS68.ge HI0.out) | refine below_set ?_ GE212.out | refine below_set ?_ GE213.out) | exact HB.out))⟩)
   rintro v219 w15 ⟨hS_, h0_, h1_, h2_, h3_, h4_, h5_⟩
   have n0_ : Aside0 (Kd.R (Kd.int .i64) 2 w15 w.heap.size (fun _ => True) v219 y218) := ⟨h0_⟩
   have n1_ : Aside0 (w15.heap[gb212]? = some (.cells #[.slice A1_0 l1_0.length c1_0, .slice (some ad217) l1_1.length c1_1] 26 (0, 0))) := ⟨h1_⟩
   have n2_ : Aside0 (w15.heap[gb213]? = some (.cells #[.int .i64 0, .int .i64 0, .int .i64 0, .bool false] 29 (0, 0))) := ⟨h2_⟩
   have n3_ : Aside0 (IsS68 w0 w15 g s0_0 t215 t216) := ⟨h3_⟩
   have n4_ : Aside0 (KeepBut w w15 g none) := ⟨h4_⟩
   have n5_ : Aside0 (Below w0.heap.size w0 w15) := ⟨h5_⟩
   clear BK212
   clear BK213
   clear HI0
   clear HK
   clear HB
   clear h0_ h1_ h2_ h3_ h4_ h5_
   have HO220 := n0_
   have BK212 := n1_
   have BK213 := n2_
   have HI0 := n3_
   have HK := n4_
   have HB := n5_
   clear n0_ n1_ n2_ n3_ n4_ n5_
   have hHeld : w15.cell? ⟨gb212, 0, none⟩ = some (.slice A1_0 l1_0.length c1_0) ∧ w15.cell? ⟨gb212, 1, none⟩ = some (.slice (some ad217) l1_1.length c1_1) ∧ w15.cell? (ad217.add (((ji4)).toNat * 3)) = some (.int .i64 ((rd_T70 l1_1 (ji4)).f0)) ∧ w15.cell? ⟨(ad217.add (((ji4)).toNat * 3)).block, (ad217.add (((ji4)).toNat * 3)).off + 1, none⟩ = some (.int .i64 ((rd_T70 l1_1 (ji4)).f1)) ∧ w15.cell? ⟨(ad217.add (((ji4)).toNat * 3)).block, (ad217.add (((ji4)).toNat * 3)).off + 2, none⟩ = some (.slice A217_2 ((rd_T70 l1_1 (ji4)).f2).length c217_2) := hS_
   obtain ⟨Ao16, co16, eo16⟩ := Kd.R_slice HO220.out
   (first | subst eo16 | (injection eo16 with f1_ f2_ f3_; have f4_ := f1_.symm; have f5_ := f3_.symm; clear f1_ f2_ f3_; subst f4_; subst f5_))
   refine norm_ (a' := ?_) ?_ ?_
   rotate_left
   ·simp only [putAll, Act.put, List.setIfInBounds_toArray, List.set_cons_zero, List.set_cons_succ]
    rfl
   refine one_ (i := 14) (N := some 19) mz23_18 rfl rfl (one_of HT_.out (by kernel_rfl)) (by decide) (fun K hK => ?_)
   refine goes_ Try.func37 (by kernel_rfl) rfl #[.pointer (some ⟨g, 0, none⟩), .slice Ao16 y218.length co16] (by rfl) rfl rfl (by (try simp only [List.map_toArray, List.map_cons, List.map_nil]); first | done | rfl) ?_
   with_reducible refine (spec_l00Src_among.calls g s0_0 t215 t216 _ _ y218 t221 t222 t223 w0 _ ?side1 ?side2 ?side3 ?side4 ?side5 A7.out).mono ?_
   (case side1 => repeat (first | (with_reducible first | exact HI0.out | apply IsS68.alloc | apply IsS68.drewN | apply IsS68.drew | apply IsS68.set_1 | apply IsS68.set_2 | refine IsS68.far ?_ NB0_212.out _ | refine IsS68.far ?_ NB0_213.out _) | exact HI0.out))
   (case side2 => repeat (first | (with_reducible first | exact HB.out | apply below_alloc | apply pw_below_drewN | apply below_drew1 | refine below_set ?_ (IsS68.ge HI0.out) | refine below_set ?_ GE212.out | refine below_set ?_ GE213.out) | exact HB.out))
   (case side3 => exact (Kd.R_reads' HO220.out).2.2)
   (case side4 => exact (Kd.R_reads' HO220.out).2.1)
   (case side5 => exact far_slice (IsS68.own_ne HI0.out HO220.out (by decide)))
   rintro e w17 ⟨rfl, hi, hb, hk⟩
   have HS2_ := keep_cell hk (hHeld.2.2.1) (by first | (rw [add_block]; exact hne217_0) | (show (Addr.add _ _).block ≠ _; rw [add_block]; exact hne217_0) | exact hne217_0)
   have HS3_ := keep_cell hk (hHeld.2.2.2.1) (by first | (rw [add_block]; exact hne217_1) | (show (Addr.add _ _).block ≠ _; rw [add_block]; exact hne217_1) | exact hne217_1)
   have HS4_ := keep_cell hk (hHeld.2.2.2.2) (by first | (rw [add_block]; exact hne217_2) | (show (Addr.add _ _).block ≠ _; rw [add_block]; exact hne217_2) | exact hne217_2)
   refine ⟨_, rfl, ?_⟩
   have n0_ := Aside0.mk (KeepBut.blk hk (g' := gb212) (o := .cells #[.slice A1_0 l1_0.length c1_0, .slice (some ad217) l1_1.length c1_1] 26 (0, 0)) (by exact BK212.out) NB212_0.out (by simp))
   have n1_ := Aside0.mk (KeepBut.blk hk (g' := gb213) (o := .cells #[.int .i64 0, .int .i64 0, .int .i64 0, .bool false] 29 (0, 0)) (by exact BK213.out) NB213_0.out (by simp))
   have n2_ := Aside0.mk (Kd.R_mono (Kd.R_keep (IsS68.apart (show IsS68 w0 _ g s0_0 t215 t216 from by repeat (first | (with_reducible first | exact HI0.out | apply IsS68.alloc | apply IsS68.drewN | apply IsS68.drew | apply IsS68.set_1 | apply IsS68.set_2 | refine IsS68.far ?_ NB0_212.out _ | refine IsS68.far ?_ NB0_213.out _) | exact HI0.out)) (by (with_reducible repeat (first | apply Kd.R_alloc | apply Kd.R_drewN | apply Kd.R_drew)); exact HO220.out) (by decide)) hk (fun _ h => h.2)) (fun _ h => h.1))
   have n3_ := Aside0.mk (KeepBut.trans (by repeat (first | (with_reducible first | exact HK.out | apply KeepBut.set_ | apply keep_drewN | apply keep_drew | apply keep_alloc | refine keep_far ?_ GW212.out _ | refine keep_far ?_ GW213.out _) | exact HK.out)) hk (.inl rfl))
   have n4_ := Aside0.mk (hb)
   have n5_ := Aside0.mk (hi)
   clear BK212
   clear BK213
   clear HO220
   clear HK
   clear HB
   clear HI0
   have BK212 := n0_
   have BK213 := n1_
   have HO220 := n2_
   have HK := n3_
   have HB := n4_
   have HI0 := n5_
   clear n0_ n1_ n2_ n3_ n4_ n5_
   (try clear hb)
   (try clear hb2)
   (try clear hk)
   (try clear hi)
   refine hK.out _ _ ⟨(blk_cell BK212.out 0).trans rfl, (blk_cell BK212.out 1).trans rfl, HS2_, HS3_, HS4_⟩ (fun hHeld => ?_)
   clear hK K
   refine norm_ (a' := ?_) ?_ ?_
   (rotate_left; ·(show Act.put _ (some 19) _ = _; simp only [Act.put, pq_z23]; rfl))
   refine one_ (i := 16) (N := some 21) mz23_19 rfl rfl (one_of HT_.out (by kernel_rfl)) (by decide) (fun K hK => ?_)
   refine goes_ Try.func38 (by kernel_rfl) rfl #[.pointer (some ⟨g, 0, none⟩), .int .i64 2] (by rfl) rfl rfl (by (try simp only [List.map_toArray, List.map_cons, List.map_nil]); first | done | rfl) ?_
   with_reducible refine (spec_l00Src_one.calls g s0_0 t222 t223 2 t224 t225 t226 w0 _ ?side1 ?side2 A8.out).mono ?_
   (case side1 => repeat (first | (with_reducible first | exact HI0.out | apply IsS68.alloc | apply IsS68.drewN | apply IsS68.drew | apply IsS68.set_1 | apply IsS68.set_2 | refine IsS68.far ?_ NB0_212.out _ | refine IsS68.far ?_ NB0_213.out _) | exact HI0.out))
   (case side2 => repeat (first | (with_reducible first | exact HB.out | apply below_alloc | apply pw_below_drewN | apply below_drew1 | refine below_set ?_ (IsS68.ge HI0.out) | refine below_set ?_ GE212.out | refine below_set ?_ GE213.out) | exact HB.out))
   rintro e w18 ⟨rfl, hi, hb, hk⟩
   have HS2_ := keep_cell hk (hHeld.2.2.1) (by first | (rw [add_block]; exact hne217_0) | (show (Addr.add _ _).block ≠ _; rw [add_block]; exact hne217_0) | exact hne217_0)
   have HS3_ := keep_cell hk (hHeld.2.2.2.1) (by first | (rw [add_block]; exact hne217_1) | (show (Addr.add _ _).block ≠ _; rw [add_block]; exact hne217_1) | exact hne217_1)
   have HS4_ := keep_cell hk (hHeld.2.2.2.2) (by first | (rw [add_block]; exact hne217_2) | (show (Addr.add _ _).block ≠ _; rw [add_block]; exact hne217_2) | exact hne217_2)
   refine ⟨_, rfl, ?_⟩
   have n0_ := Aside0.mk (KeepBut.blk hk (g' := gb212) (o := .cells #[.slice A1_0 l1_0.length c1_0, .slice (some ad217) l1_1.length c1_1] 26 (0, 0)) (by exact BK212.out) NB212_0.out (by simp))
   have n1_ := Aside0.mk (KeepBut.blk hk (g' := gb213) (o := .cells #[.int .i64 0, .int .i64 0, .int .i64 0, .bool false] 29 (0, 0)) (by exact BK213.out) NB213_0.out (by simp))
   have n2_ := Aside0.mk (Kd.R_mono (Kd.R_keep (IsS68.apart (show IsS68 w0 _ g s0_0 t222 t223 from by repeat (first | (with_reducible first | exact HI0.out | apply IsS68.alloc | apply IsS68.drewN | apply IsS68.drew | apply IsS68.set_1 | apply IsS68.set_2 | refine IsS68.far ?_ NB0_212.out _ | refine IsS68.far ?_ NB0_213.out _) | exact HI0.out)) (by (with_reducible repeat (first | apply Kd.R_alloc | apply Kd.R_drewN | apply Kd.R_drew)); exact HO220.out) (by decide)) hk (fun _ h => h.2)) (fun _ h => h.1))
   have n3_ := Aside0.mk (KeepBut.trans (by repeat (first | (with_reducible first | exact HK.out | apply KeepBut.set_ | apply keep_drewN | apply keep_drew | apply keep_alloc | refine keep_far ?_ GW212.out _ | refine keep_far ?_ GW213.out _) | exact HK.out)) hk (.inl rfl))
   have n4_ := Aside0.mk (hb)
   have n5_ := Aside0.mk (hi)
   clear BK212
   clear BK213
   clear HO220
   clear HK
   clear HB
   clear HI0
   have BK212 := n0_
   have BK213 := n1_
   have HO220 := n2_
   have HK := n3_
   have HB := n4_
   have HI0 := n5_
   clear n0_ n1_ n2_ n3_ n4_ n5_
   (try clear hb)
   (try clear hb2)
   (try clear hk)
   (try clear hi)
   refine hK.out _ _ ⟨(blk_cell BK212.out 0).trans rfl, (blk_cell BK212.out 1).trans rfl, HS2_, HS3_, HS4_⟩ (fun hHeld => ?_)
   clear hK K
   refine norm_ (a' := ?_) ?_ ?_
   (rotate_left; ·(show Act.put _ (some 21) _ = _; simp only [Act.put, pq_z23]; rfl))
   refine pu 17 (some 22) mz23_20 (any_of HT_.out (by kernel_rfl)) ?_
   refine one_ (i := 18) (N := none) mz23_21 rfl rfl (one_of HT_.out (by kernel_rfl)) (by decide) (fun K hK => ?_)
   have hs19 : w18.cell? ⟨gb213, 0, none⟩ = some (.int .i64 0) := (blk_cell BK213.out 0).trans rfl
   have hfs19 := blk_frozen BK213.out 0
   have hns19_0 := NB212_213.out
   have hms19_0 := NB213_212.out
   have hs20 : w18.cell? ⟨gb213, 1, none⟩ = some (.int .i64 0) := (blk_cell BK213.out 1).trans rfl
   have hfs20 := blk_frozen BK213.out 1
   have hns20_0 := NB212_213.out
   have hms20_0 := NB213_212.out
   have hs21 : w18.cell? ⟨gb213, 2, none⟩ = some (.int .i64 0) := (blk_cell BK213.out 2).trans rfl
   have hfs21 := blk_frozen BK213.out 2
   have hns21_0 := NB212_213.out
   have hms21_0 := NB213_212.out
   have hs22 : w18.cell? ⟨gb213, 3, none⟩ = some (.bool false) := (blk_cell BK213.out 3).trans rfl
   have hfs22 := blk_frozen BK213.out 3
   have hns22_0 := NB212_213.out
   have hms22_0 := NB213_212.out
   refine skip_ (w1 := ?_) (by rfl) rfl ?_ ?_
   rotate_left
   ·go_simp
    rfl
   refine hK.out _ _ ⟨((cell_far (p := ⟨gb213, _, none⟩) NB212_213.out _).trans (((cell_far (p := ⟨gb213, _, none⟩) NB212_213.out _).trans (((cell_far (p := ⟨gb213, _, none⟩) NB212_213.out _).trans (((cell_far (p := ⟨gb213, _, none⟩) NB212_213.out _).trans (hHeld.1)))))))), ((cell_far (p := ⟨gb213, _, none⟩) NB212_213.out _).trans (((cell_far (p := ⟨gb213, _, none⟩) NB212_213.out _).trans (((cell_far (p := ⟨gb213, _, none⟩) NB212_213.out _).trans (((cell_far (p := ⟨gb213, _, none⟩) NB212_213.out _).trans (hHeld.2.1)))))))), ((cell_far (p := ⟨gb213, _, none⟩) (by first | exact Nat.ne_of_lt (Nat.lt_of_lt_of_le hlt217_0 GW213.out) | (rw [add_block]; exact Nat.ne_of_lt (Nat.lt_of_lt_of_le hlt217_0 GW213.out)) | (show (Addr.add _ _).block ≠ _; rw [add_block]; exact Nat.ne_of_lt (Nat.lt_of_lt_of_le hlt217_0 GW213.out)) | (dsimp only; exact Nat.ne_of_lt (Nat.lt_of_lt_of_le hlt217_0 GW213.out))) _).trans (((cell_far (p := ⟨gb213, _, none⟩) (by first | exact Nat.ne_of_lt (Nat.lt_of_lt_of_le hlt217_0 GW213.out) | (rw [add_block]; exact Nat.ne_of_lt (Nat.lt_of_lt_of_le hlt217_0 GW213.out)) | (show (Addr.add _ _).block ≠ _; rw [add_block]; exact Nat.ne_of_lt (Nat.lt_of_lt_of_le hlt217_0 GW213.out)) | (dsimp only; exact Nat.ne_of_lt (Nat.lt_of_lt_of_le hlt217_0 GW213.out))) _).trans (((cell_far (p := ⟨gb213, _, none⟩) (by first | exact Nat.ne_of_lt (Nat.lt_of_lt_of_le hlt217_0 GW213.out) | (rw [add_block]; exact Nat.ne_of_lt (Nat.lt_of_lt_of_le hlt217_0 GW213.out)) | (show (Addr.add _ _).block ≠ _; rw [add_block]; exact Nat.ne_of_lt (Nat.lt_of_lt_of_le hlt217_0 GW213.out)) | (dsimp only; exact Nat.ne_of_lt (Nat.lt_of_lt_of_le hlt217_0 GW213.out))) _).trans (((cell_far (p := ⟨gb213, _, none⟩) (by first | exact Nat.ne_of_lt (Nat.lt_of_lt_of_le hlt217_0 GW213.out) | (rw [add_block]; exact Nat.ne_of_lt (Nat.lt_of_lt_of_le hlt217_0 GW213.out)) | (show (Addr.add _ _).block ≠ _; rw [add_block]; exact Nat.ne_of_lt (Nat.lt_of_lt_of_le hlt217_0 GW213.out)) | (dsimp only; exact Nat.ne_of_lt (Nat.lt_of_lt_of_le hlt217_0 GW213.out))) _).trans (hHeld.2.2.1)))))))), ((cell_far (p := ⟨gb213, _, none⟩) (by first | exact Nat.ne_of_lt (Nat.lt_of_lt_of_le hlt217_1 GW213.out) | (rw [add_block]; exact Nat.ne_of_lt (Nat.lt_of_lt_of_le hlt217_1 GW213.out)) | (show (Addr.add _ _).block ≠ _; rw [add_block]; exact Nat.ne_of_lt (Nat.lt_of_lt_of_le hlt217_1 GW213.out)) | (dsimp only; exact Nat.ne_of_lt (Nat.lt_of_lt_of_le hlt217_1 GW213.out))) _).trans (((cell_far (p := ⟨gb213, _, none⟩) (by first | exact Nat.ne_of_lt (Nat.lt_of_lt_of_le hlt217_1 GW213.out) | (rw [add_block]; exact Nat.ne_of_lt (Nat.lt_of_lt_of_le hlt217_1 GW213.out)) | (show (Addr.add _ _).block ≠ _; rw [add_block]; exact Nat.ne_of_lt (Nat.lt_of_lt_of_le hlt217_1 GW213.out)) | (dsimp only; exact Nat.ne_of_lt (Nat.lt_of_lt_of_le hlt217_1 GW213.out))) _).trans (((cell_far (p := ⟨gb213, _, none⟩) (by first | exact Nat.ne_of_lt (Nat.lt_of_lt_of_le hlt217_1 GW213.out) | (rw [add_block]; exact Nat.ne_of_lt (Nat.lt_of_lt_of_le hlt217_1 GW213.out)) | (show (Addr.add _ _).block ≠ _; rw [add_block]; exact Nat.ne_of_lt (Nat.lt_of_lt_of_le hlt217_1 GW213.out)) | (dsimp only; exact Nat.ne_of_lt (Nat.lt_of_lt_of_le hlt217_1 GW213.out))) _).trans (((cell_far (p := ⟨gb213, _, none⟩) (by first | exact Nat.ne_of_lt (Nat.lt_of_lt_of_le hlt217_1 GW213.out) | (rw [add_block]; exact Nat.ne_of_lt (Nat.lt_of_lt_of_le hlt217_1 GW213.out)) | (show (Addr.add _ _).block ≠ _; rw [add_block]; exact Nat.ne_of_lt (Nat.lt_of_lt_of_le hlt217_1 GW213.out)) | (dsimp only; exact Nat.ne_of_lt (Nat.lt_of_lt_of_le hlt217_1 GW213.out))) _).trans (hHeld.2.2.2.1)))))))), ((cell_far (p := ⟨gb213, _, none⟩) (by first | exact Nat.ne_of_lt (Nat.lt_of_lt_of_le hlt217_2 GW213.out) | (rw [add_block]; exact Nat.ne_of_lt (Nat.lt_of_lt_of_le hlt217_2 GW213.out)) | (show (Addr.add _ _).block ≠ _; rw [add_block]; exact Nat.ne_of_lt (Nat.lt_of_lt_of_le hlt217_2 GW213.out)) | (dsimp only; exact Nat.ne_of_lt (Nat.lt_of_lt_of_le hlt217_2 GW213.out))) _).trans (((cell_far (p := ⟨gb213, _, none⟩) (by first | exact Nat.ne_of_lt (Nat.lt_of_lt_of_le hlt217_2 GW213.out) | (rw [add_block]; exact Nat.ne_of_lt (Nat.lt_of_lt_of_le hlt217_2 GW213.out)) | (show (Addr.add _ _).block ≠ _; rw [add_block]; exact Nat.ne_of_lt (Nat.lt_of_lt_of_le hlt217_2 GW213.out)) | (dsimp only; exact Nat.ne_of_lt (Nat.lt_of_lt_of_le hlt217_2 GW213.out))) _).trans (((cell_far (p := ⟨gb213, _, none⟩) (by first | exact Nat.ne_of_lt (Nat.lt_of_lt_of_le hlt217_2 GW213.out) | (rw [add_block]; exact Nat.ne_of_lt (Nat.lt_of_lt_of_le hlt217_2 GW213.out)) | (show (Addr.add _ _).block ≠ _; rw [add_block]; exact Nat.ne_of_lt (Nat.lt_of_lt_of_le hlt217_2 GW213.out)) | (dsimp only; exact Nat.ne_of_lt (Nat.lt_of_lt_of_le hlt217_2 GW213.out))) _).trans (((cell_far (p := ⟨gb213, _, none⟩) (by first | exact Nat.ne_of_lt (Nat.lt_of_lt_of_le hlt217_2 GW213.out) | (rw [add_block]; exact Nat.ne_of_lt (Nat.lt_of_lt_of_le hlt217_2 GW213.out)) | (show (Addr.add _ _).block ≠ _; rw [add_block]; exact Nat.ne_of_lt (Nat.lt_of_lt_of_le hlt217_2 GW213.out)) | (dsimp only; exact Nat.ne_of_lt (Nat.lt_of_lt_of_le hlt217_2 GW213.out))) _).trans (hHeld.2.2.2.2))))))))⟩ (fun hHeld => ?_)
   clear hK K
   refine done_ (done_of HT_.out (by kernel_rfl)) ?_
   try go_wp2
   refine bodyPost_ret (results_cell_row rfl _ _ gb213 29 #[.int .i64 (wrap64 (1 + t214)), .int .i64 ((rd_T70 l1_1 (ji4)).f0), .int .i64 t221, .bool t224] (0, 0) _ rfl (by (with_reducible repeat first | apply blk_drewN | apply blk_drew | apply blk_alloc); refine blk_put (cs := #[.int .i64 (wrap64 (1 + t214)), .int .i64 ((rd_T70 l1_1 (ji4)).f0), .int .i64 t221, .bool false]) ?_ 3 _ rfl; (with_reducible repeat first | apply blk_drewN | apply blk_drew | apply blk_alloc); refine blk_put (cs := #[.int .i64 (wrap64 (1 + t214)), .int .i64 ((rd_T70 l1_1 (ji4)).f0), .int .i64 0, .bool false]) ?_ 2 _ rfl; (with_reducible repeat first | apply blk_drewN | apply blk_drew | apply blk_alloc); refine blk_put (cs := #[.int .i64 (wrap64 (1 + t214)), .int .i64 0, .int .i64 0, .bool false]) ?_ 1 _ rfl; (with_reducible repeat first | apply blk_drewN | apply blk_drew | apply blk_alloc); refine blk_put (cs := #[.int .i64 0, .int .i64 0, .int .i64 0, .bool false]) ?_ 0 _ rfl; (with_reducible repeat first | apply blk_drewN | apply blk_drew | apply blk_alloc); exact BK213.out) Try.underlying29 rfl (by kernel_rfl)) rfl ?_
   exact ⟨by first | rfl | (simp [errW_none, errW_some] <;> rfl) | (simp only [← hji4]; first | rfl | (simp [errW_none, errW_some] <;> rfl)) | (simp [*, errW_none, errW_some] <;> rfl), by repeat (first | (with_reducible first | exact HI0.out | apply IsS68.alloc | apply IsS68.drewN | apply IsS68.drew | apply IsS68.set_1 | apply IsS68.set_2 | refine IsS68.far ?_ NB0_212.out _ | refine IsS68.far ?_ NB0_213.out _) | exact HI0.out), by repeat (first | (with_reducible first | exact HB.out | apply below_alloc | apply pw_below_drewN | apply below_drew1 | refine below_set ?_ (IsS68.ge HI0.out) | refine below_set ?_ GE212.out | refine below_set ?_ GE213.out) | exact HB.out), by repeat (first | (with_reducible first | exact HK.out | apply KeepBut.set_ | apply keep_drewN | apply keep_drew | apply keep_alloc | refine keep_far ?_ GW212.out _ | refine keep_far ?_ GW213.out _) | exact HK.out)⟩
  ·rw [if_neg c6] at H
   exact absurd H (by simp)
 ·rw [if_neg c5] at H
  exact absurd H (by simp)

/-! ### spec_A8Rule: function 7 -/
def spec_A8Rule.f (l0 : List Int) (l1_0 : List (S34)) (l1_1 : List (S70)) : Option (Int × Int × Int × Bool) := (spec_l00From.f l0).bind fun bt229 => ((spec_l08Rule.f bt229.1 bt229.2.1 bt229.2.2 l1_0 l1_1).bind fun bt233 => (some (bt233.1, bt233.2.1, bt233.2.2.1, bt233.2.2.2.1)))
set_option maxHeartbeats 8000000 in
set_option maxRecDepth 100000 in
theorem spec_A8Rule.calls (A0 : Option Addr) (c0 : Nat) (l0 : List Int) (A1_0 : Option Addr) (c1_0 : Nat) (l1_0 : List (S34)) (A1_1 : Option Addr) (c1_1 : Nat) (l1_1 : List (S70)) (r1 : Int) (r2 : Int) (r3 : Int) (r4 : Bool) (w : World) (hr0 : Kd.C (Kd.int .u8) w A0 l0.length l0) (hc0 : l0.length ≤ c0) (hr1_0 : Kd.C k34 w A1_0 l1_0.length l1_0) (hc1_0 : l1_0.length ≤ c1_0) (hr1_1 : Kd.C k70 w A1_1 l1_1.length l1_1) (hc1_1 : l1_1.length ≤ c1_1) (h : spec_A8Rule.f l0 l1_0 l1_1 = some (r1, r2, r3, r4)) :
    Calls Try.prog 7 #[.slice A0 l0.length c0, .agg #[.slice A1_0 l1_0.length c1_0, .slice A1_1 l1_1.length c1_1]] w fun e w' => e = .returned (.agg #[.int .i64 r1, .int .i64 r2, .int .i64 r3, .bool r4]) ∧ Below w.heap.size w w' := by
  have hu26 := Try.underlying26
  have hu29 := Try.underlying29
  have HR0 := Aside0.mk hr0
  have HC0 := Aside0.mk hc0
  clear hr0 hc0
  have HR1_0 := Aside0.mk hr1_0
  have HC1_0 := Aside0.mk hc1_0
  clear hr1_0 hc1_0
  have HR1_1 := Aside0.mk hr1_1
  have HC1_1 := Aside0.mk hc1_1
  clear hr1_1 hc1_1
  have HB := Aside0.mk (Below.refl w.heap.size w)
  have H : ((spec_l00From.f l0).bind fun bt229 => ((spec_l08Rule.f bt229.1 bt229.2.1 bt229.2.2 l1_0 l1_1).bind fun bt233 => (some (bt233.1, bt233.2.1, bt233.2.2.1, bt233.2.2.2.1)))) = some (r1, r2, r3, r4) := h
  clear h
  replace H := Option.bind_eq_some_iff.mp H
  obtain ⟨⟨t229, t230, t231⟩, A30, H⟩ := H
  set_option simprocs false in try dsimp only at H
  have A3 := Aside0.mk A30
  clear A30
  replace H := Option.bind_eq_some_iff.mp H
  obtain ⟨⟨t233, t234, t235, t236, t237, t238⟩, A40, H⟩ := H
  set_option simprocs false in try dsimp only at H
  have A4 := Aside0.mk A40
  clear A40
  simp only [Option.some.injEq, Prod.mk.injEq] at H
  obtain ⟨rfl, rfl, rfl, rfl⟩ := H
  go_enter Try.func7, Try.ntmps7
  go_wp2_with (first | ((with_reducible refine gate_dst (N := 3) rfl ?_); refine box_event ?hg (N := 3) ?hd (cs := #[.slice A1_0 l1_0.length c1_0, .slice A1_1 l1_1.length c1_1]) (t := 26) ?hr ?_; (case hd => rfl); (case hg => rfl); (case hr => first | (go_simp; done) | (go_simp; rfl)); intro gb227 hg w5 hbox hb; have n0_ := Aside0.mk (below_step (by repeat first | exact HB.out | apply pw_below_drewN) hb); have n1_ := Aside0.mk (hbox); have n2_ := Aside0.mk ((by rw [hg]; exact (below_size (by repeat first | exact HB.out | apply pw_below_drewN)) : w.heap.size ≤ gb227)); have n3_ := Aside0.mk ((by rw [hg]; exact (below_size (by repeat first | exact HB.out | apply pw_below_drewN)) : w.heap.size ≤ gb227)); clear HB; have HB := n0_; have BK227 := n1_; have GW227 := n2_; have GE227 := n3_; clear n0_ n1_ n2_ n3_; clear hb hbox hg) | ((with_reducible refine gate_dst (N := 4) rfl ?_); refine box_event ?hg (N := 4) ?hd (cs := #[.int .i64 0, .int .i64 0, .int .i64 0, .bool false]) (t := 29) ?hr ?_; (case hd => rfl); (case hg => rfl); (case hr => first | (go_simp; done) | (go_simp; rfl)); intro gb228 hg w6 hbox hb; have n0_ := Aside0.mk (blk_below (by exact BK227.out) hb); have n1_ := Aside0.mk (below_step (by repeat first | exact HB.out | apply pw_below_drewN) hb); have n2_ := Aside0.mk (hbox); have n3_ := Aside0.mk ((by rw [hg]; exact (below_size (by repeat first | exact HB.out | apply pw_below_drewN)) : w.heap.size ≤ gb228)); have n4_ := Aside0.mk ((by rw [hg]; exact (below_size (by repeat first | exact HB.out | apply pw_below_drewN)) : w.heap.size ≤ gb228)); have n5_ := Aside0.mk ((by rw [hg]; exact Nat.ne_of_lt (blk_lt (g := gb227) (o := .cells #[.slice A1_0 l1_0.length c1_0, .slice A1_1 l1_1.length c1_1] 26 (0, 0)) (by exact BK227.out)) : gb227 ≠ gb228)); have n6_ := Aside0.mk ((by rw [hg]; exact Nat.ne_of_gt (blk_lt (g := gb227) (o := .cells #[.slice A1_0 l1_0.length c1_0, .slice A1_1 l1_1.length c1_1] 26 (0, 0)) (by exact BK227.out)) : gb228 ≠ gb227)); clear BK227; clear HB; have BK227 := n0_; have HB := n1_; have BK228 := n2_; have GW228 := n3_; have GE228 := n4_; have NB227_228 := n5_; have NB228_227 := n6_; clear n0_ n1_ n2_ n3_ n4_ n5_ n6_; clear hb hbox hg) | ((with_reducible refine gate_callee (f := 21) rfl ?_); refine goesL_ (some 7) rfl rfl Try.func21 (by kernel_rfl) rfl #[.slice A0 l0.length c0] rfl (by (try simp only [List.map_toArray, List.map_cons, List.map_nil]); first | done | rfl) ?_; (with_reducible refine (spec_l00From.calls _ _ l0 t229 t230 t231 w _ ?side1 ?side2 ?side3 A3.out).mono ?_); (case side1 => repeat (first | (with_reducible first | exact HB.out | apply below_alloc | apply pw_below_drewN | apply below_drew1 | refine below_set ?_ GE227.out | refine below_set ?_ GE228.out) | exact HB.out)); (case side2 => exact HR0.out); (case side3 => exact HC0.out); rintro e w7 ⟨g232, rfl, hi, hb, hb2⟩; refine ⟨_, rfl, ?_⟩; have n0_ := Aside0.mk (blk_below (by exact BK227.out) hb2); have n1_ := Aside0.mk (blk_below (by exact BK228.out) hb2); have n2_ := Aside0.mk (hb); have n3_ := Aside0.mk (hi); have n4_ := Aside0.mk (IsS68.ne_blk hi (blk_below (by exact BK227.out) hb2) (by decide)); have n5_ := Aside0.mk (Ne.symm (IsS68.ne_blk hi (blk_below (by exact BK227.out) hb2) (by decide))); have n6_ := Aside0.mk (IsS68.ne_blk hi (blk_below (by exact BK228.out) hb2) (by decide)); have n7_ := Aside0.mk (Ne.symm (IsS68.ne_blk hi (blk_below (by exact BK228.out) hb2) (by decide))); clear BK227; clear BK228; clear HB; have BK227 := n0_; have BK228 := n1_; have HB := n2_; have HI232 := n3_; have NB232_227 := n4_; have NB227_232 := n5_; have NB232_228 := n6_; have NB228_232 := n7_; clear n0_ n1_ n2_ n3_ n4_ n5_ n6_ n7_; (try clear hb); (try clear hb2); (try clear hk); (try clear hi); have hnb8 := NB227_228.out; have hnc8 := NB228_227.out; have hnb9 := NB227_232.out; have hnc9 := NB232_227.out; have hcz10_0 := (blk_cell BK227.out 0).trans rfl; have hcz10_1 := (blk_cell BK227.out 1).trans rfl; have hfz10_0 := blk_frozen BK227.out 0; have hfz10_1 := blk_frozen BK227.out 1) | ((with_reducible refine gate_callee (f := 23) rfl ?_); refine goesL_ (some 10) rfl rfl Try.func23 (by kernel_rfl) rfl #[.pointer (some ⟨g232, 0, none⟩), .agg #[.slice A1_0 l1_0.length c1_0, .slice A1_1 l1_1.length c1_1]] rfl (by (try simp only [List.map_toArray, List.map_cons, List.map_nil]); first | done | rfl) ?_; (with_reducible refine (spec_l08Rule.calls g232 t229 t230 t231 _ _ l1_0 _ _ l1_1 t233 t234 t235 t236 t237 t238 w _ ?side1 ?side2 ?side3 ?side4 ?side5 ?side6 A4.out).mono ?_); (case side1 => repeat (first | (with_reducible first | exact HI232.out | apply IsS68.alloc | apply IsS68.drewN | apply IsS68.drew | apply IsS68.set_1 | apply IsS68.set_2 | refine IsS68.far ?_ NB232_227.out _ | refine IsS68.far ?_ NB232_228.out _) | exact HI232.out)); (case side2 => repeat (first | (with_reducible first | exact HB.out | apply below_alloc | apply pw_below_drewN | apply below_drew1 | refine below_set ?_ (IsS68.ge HI232.out) | refine below_set ?_ GE227.out | refine below_set ?_ GE228.out) | exact HB.out)); (case side3 => exact Kd.C_foot_came k34_heap HR1_0.out (by repeat (first | (with_reducible first | exact HB.out | apply below_alloc | apply pw_below_drewN | apply below_drew1 | refine below_set ?_ (IsS68.ge HI232.out) | refine below_set ?_ GE227.out | refine below_set ?_ GE228.out) | exact HB.out)) (IsS68.ge HI232.out)); (case side4 => exact HC1_0.out); (case side5 => exact Kd.C_foot_came k70_heap HR1_1.out (by repeat (first | (with_reducible first | exact HB.out | apply below_alloc | apply pw_below_drewN | apply below_drew1 | refine below_set ?_ (IsS68.ge HI232.out) | refine below_set ?_ GE227.out | refine below_set ?_ GE228.out) | exact HB.out)) (IsS68.ge HI232.out)); (case side6 => exact HC1_1.out); rintro e w11 ⟨rfl, hi, hb, hk⟩; refine ⟨_, rfl, ?_⟩; have n0_ := Aside0.mk (KeepBut.blk hk (g' := gb227) (o := .cells #[.slice A1_0 l1_0.length c1_0, .slice A1_1 l1_1.length c1_1] 26 (0, 0)) (by exact BK227.out) NB227_232.out (by simp)); have n1_ := Aside0.mk (KeepBut.blk hk (g' := gb228) (o := .cells #[.int .i64 0, .int .i64 0, .int .i64 0, .bool false] 29 (0, 0)) (by exact BK228.out) NB228_232.out (by simp)); have n2_ := Aside0.mk (hb); have n3_ := Aside0.mk (hi); clear BK227; clear BK228; clear HB; clear HI232; have BK227 := n0_; have BK228 := n1_; have HB := n2_; have HI232 := n3_; clear n0_ n1_ n2_ n3_; (try clear hb); (try clear hb2); (try clear hk); (try clear hi); have hnb12 := NB228_232.out; have hnc12 := NB232_228.out; have hcz13_0 := (blk_cell BK228.out 0).trans rfl; have hcz13_1 := (blk_cell BK228.out 1).trans rfl; have hcz13_2 := (blk_cell BK228.out 2).trans rfl; have hcz13_3 := (blk_cell BK228.out 3).trans rfl; have hfz13_0 := blk_frozen BK228.out 0; have hfz13_1 := blk_frozen BK228.out 1; have hfz13_2 := blk_frozen BK228.out 2; have hfz13_3 := blk_frozen BK228.out 3))
  refine bodyPost_ret (results_cell_row rfl _ _ gb228 29 #[.int .i64 t233, .int .i64 t234, .int .i64 t235, .bool t236] (0, 0) _ rfl (by (with_reducible repeat first | apply blk_drewN | apply blk_drew | apply blk_alloc); refine blk_put (cs := #[.int .i64 t233, .int .i64 t234, .int .i64 t235, .bool false]) ?_ 3 _ rfl; (with_reducible repeat first | apply blk_drewN | apply blk_drew | apply blk_alloc); refine blk_put (cs := #[.int .i64 t233, .int .i64 t234, .int .i64 0, .bool false]) ?_ 2 _ rfl; (with_reducible repeat first | apply blk_drewN | apply blk_drew | apply blk_alloc); refine blk_put (cs := #[.int .i64 t233, .int .i64 0, .int .i64 0, .bool false]) ?_ 1 _ rfl; (with_reducible repeat first | apply blk_drewN | apply blk_drew | apply blk_alloc); refine blk_put (cs := #[.int .i64 0, .int .i64 0, .int .i64 0, .bool false]) ?_ 0 _ rfl; (with_reducible repeat first | apply blk_drewN | apply blk_drew | apply blk_alloc); exact BK228.out) Try.underlying29 rfl (by kernel_rfl)) rfl ?_
  exact ⟨by first | rfl | (simp [*, errW_none, errW_some] <;> rfl), by repeat (first | (with_reducible first | exact HB.out | apply below_alloc | apply pw_below_drewN | apply below_drew1 | refine below_set ?_ (IsS68.ge HI232.out) | refine below_set ?_ GE227.out | refine below_set ?_ GE228.out) | exact HB.out)⟩

/-! ### laws_a8Mix: function 8 -/
def laws_a8Mix.f (a0 : Int) (l1 : List Int) : Option (List Int) := (some (([(a0) % 256] : List Int) : List Int)).bind fun y239 => (if y239.length + l1.length < 140737488355328 then (some (y239 ++ l1)) else (none))
set_option maxHeartbeats 8000000 in
set_option maxRecDepth 100000 in
theorem laws_a8Mix.calls (a0 : Int) (A1 : Option Addr) (c1 : Nat) (l1 : List Int) (r : List Int) (w : World) (hr1 : Kd.C (Kd.int .u8) w A1 l1.length l1) (hc1 : l1.length ≤ c1) (h : laws_a8Mix.f a0 l1 = some r) :
    Calls Try.prog 8 #[.int .i64 a0, .slice A1 l1.length c1] w fun e w' => ∃ v0_ : Value, e = .returned (v0_) ∧ Kd.R (Kd.int .u8) 5 w' w.heap.size (fun _ => True) v0_ r ∧ Below w.heap.size w w' := by
  have HR1 := Aside0.mk hr1
  have HC1 := Aside0.mk hc1
  clear hr1 hc1
  have HB := Aside0.mk (Below.refl w.heap.size w)
  have H : ((some (([(a0) % 256] : List Int) : List Int)).bind fun y239 => (if y239.length + l1.length < 140737488355328 then (some (y239 ++ l1)) else (none))) = some r := h
  clear h
  obtain ⟨y239, hy239⟩ : ∃ y_ : List Int, y_ = (([(a0) % 256] : List Int)) := ⟨_, rfl⟩
  replace H : (if y239.length + l1.length < 140737488355328 then (some (y239 ++ l1)) else (none)) = some r := by first | (rw [hy239]; with_reducible exact H) | (have H2_ := (Option.bind_some _ _).symm.trans H; rw [hy239]; with_reducible exact H2_) | (have H2_ := (Option.bind_some _ _).symm.trans H; with_reducible exact H2_) | with_reducible exact H | (rw [hy239]; exact H) | exact H
  have Ny239 := Aside0.mk hy239
  clear hy239
  by_cases c3 : y239.length + l1.length < 140737488355328
  · rw [if_pos c3] at H
    have LMc3 := Aside0.mk c3
    clear c3
    obtain ⟨y242, hy242⟩ : ∃ y_ : List Int, y_ = (y239 ++ l1) := ⟨_, rfl⟩
    replace H : (some y242) = some r := by first | (rw [hy242]; with_reducible exact H) | (have H2_ := (Option.bind_some _ _).symm.trans H; rw [hy242]; with_reducible exact H2_) | (have H2_ := (Option.bind_some _ _).symm.trans H; with_reducible exact H2_) | with_reducible exact H | (rw [hy242]; exact H) | exact H
    have Ny242 := Aside0.mk hy242
    clear hy242
    obtain rfl := Option.some.inj H
    go_enter Try.func8, Try.ntmps8
    go_wp2_with (first | ((with_reducible refine gate_dst (N := 7) rfl ?_); refine Kd.R_lit (Kd.int .u8) _ 5 ?hg (N := 7) ?hd (xs := ([(a0) % 256] : List Int)) (inner := [.int .u8 ((a0) % 256)]) (ok := fun _ => True) (okp := fun _ => True) ?hr ?hp (fun _ hk => hk) trivial (Below.refl _ _) (Nat.le_refl _) (by simp) ?_; (case hd => rfl); (case hg => rfl); (case hr => first | (go_simp; done) | (go_simp; rfl)); (case hp => exact (Reps.one (show Kd.M (Kd.int .u8) _ _ _ ((a0) % 256) [.int .u8 ((a0) % 256)] from rfl) (Reps.none _ _))); intro v240 w4 ho5 hb hg_ hnew_; clear hg_ hnew_; (first | rw [← Ny239.out] at ho5 | (simp only [Int.reduceToNat] at ho5; rw [← Ny239.out] at ho5)); have n0_ := Aside0.mk (Kd.R_lower ho5 (below_size (by repeat first | exact HB.out | apply pw_below_drewN))); have n1_ := Aside0.mk (below_step (by repeat first | exact HB.out | apply pw_below_drewN) hb); clear HB; have HO241 := n0_; have HB := n1_; clear n0_ n1_; clear hb ho5) | ((with_reducible refine gate_builtin (b := .append) (xs := #[.tmp 7, .tmp 8]) rfl ?_); at_builtin; refine Kd.R_append_rows (Kd.int .u8) (w0 := w) w.heap.size rfl (.tmp 7) (.tmp 8) 22 5 (.int .u8 0) 1 rfl Try.underlying22 info5 rfl (by decide) (by omega) v240 y239 l1 _ _ _ (fun _ => True) (fun _ => False) rfl rfl ?aO ?aR (fun _ _ h => h) (fun _ h => h.elim) ?aF ?aB ?aS ?aL ?_; (case aR => repeat (first | exact (Kd.C_below HR1.out HB.out) | (with_reducible refine Kd.C_alloc ?_ _) | (with_reducible refine Kd.C_drewN ?_ _) | (with_reducible refine Kd.C_drew ?_))); (case aB => exact (by repeat first | exact HB.out | apply pw_below_drewN)); (case aF => exact (fun _ _ => trivial)); (case aO => exact (by (with_reducible repeat (first | apply Kd.R_alloc | apply Kd.R_drewN | apply Kd.R_drew)); exact HO241.out)); (case aS => exact (below_size (by repeat first | exact HB.out | apply pw_below_drewN))); (case aL => have := LMc3.out; omega); intro v243 w6 ho hb hg hat; rw [← Ny242.out] at ho; have n0_ := Aside0.mk (hb); have n1_ := Aside0.mk (ho); clear HB; clear HO241; have HB := n0_; have HO244 := n1_; clear n0_ n1_; clear ho hb hg hat))
    go_ret
    exact ⟨_, by first | rfl | (simp [*, errW_none, errW_some] <;> rfl), by (with_reducible repeat (first | apply Kd.R_alloc | apply Kd.R_drewN | apply Kd.R_drew)); exact HO244.out, by repeat first | exact HB.out | apply pw_below_drewN⟩
  · rw [if_neg c3] at H
    exact absurd H (by simp)

/-! ### laws_FnApart: function 5 -/
mutual
def laws_FnApart.j0 : Nat → List Int → List Int → Int → Bool → List (S34) → List (S70) → Int → Int → Int → Bool → Option (Bool)
  | 0, _, _, _, _, _, _, _, _, _, _ => none
  | k + 1, x6, x7, x9, x75, x487000, x487001, x495000, x495001, x495002, x495003 => if x75 = true then (none) else (laws_FnApart.l0 k x6 x7 x9 0 false 0 x487000 x487001 x495000 x495001 x495002 x495003)
def laws_FnApart.l0 : Nat → List Int → List Int → Int → Int → Bool → Int → List (S34) → List (S70) → Int → Int → Int → Bool → Option (Bool)
  | 0, _, _, _, _, _, _, _, _, _, _, _, _ => none
  | k + 1, x6, x7, x9, x11, x12, x13, x487000, x487001, x495000, x495001, x495002, x495003 => if x13 < (x7.length : Int) then (if 0 ≤ x13 then (if (rd x7 x13) < 0 then (laws_FnApart.l0 k x6 x7 x9 x11 true (wrap64 (x13 + 1)) x487000 x487001 x495000 x495001 x495002 x495003) else ((impl_WeightOf.f k x487000 x487001 (rd x7 x13)).bind fun bt511 => ((impl_DomainOf.f k x487000 x487001 x495002 (rd x7 x13)).bind fun bt514 => ((laws_a8Has.f k x6 (rd x7 x13)).bind fun t517 => (if t517 = true then (none) else (if bt511.2 = 0 then (if bt511.1 = 0 then (none) else (if bt514.2 = 0 then (if x495002 = 0 then (if bt514.1 = (rd x7 x13) then (if x12 = true then (if x495003 = true then (laws_FnApart.l0 k x6 x7 x9 (wrap64 (x11 + 1)) x12 (wrap64 (x13 + 1)) x487000 x487001 x495000 x495001 x495002 x495003) else (none)) else (laws_FnApart.l0 k x6 x7 x9 (wrap64 (x11 + 1)) x12 (wrap64 (x13 + 1)) x487000 x487001 x495000 x495001 x495002 x495003)) else (none)) else (if x12 = true then (if x495003 = true then (laws_FnApart.l0 k x6 x7 x9 (wrap64 (x11 + 1)) x12 (wrap64 (x13 + 1)) x487000 x487001 x495000 x495001 x495002 x495003) else (none)) else (laws_FnApart.l0 k x6 x7 x9 (wrap64 (x11 + 1)) x12 (wrap64 (x13 + 1)) x487000 x487001 x495000 x495001 x495002 x495003))) else (none))) else (none))))))) else (none)) else (some (decide (x11 ≤ x9)))
end
def laws_FnApart.f (k : Nat) (l0 : List Int) : Option (Bool) := if (l0.length : Int) > 1048576 then (some true) else ((spec_A8Tree.f k l0).bind fun bt480 => ((laws_a8Mix.f 2 l0).bind fun t487 => ((spec_A8Rule.f t487 bt480.1 bt480.2).bind fun bt490 => ((laws_a8At.f l0 0 8).bind fun t495 => ((laws_a8At.f l0 1 4).bind fun t496 => ((laws_a8Places.f k l0 t496 12).bind fun t497 => ((spec_A8Number.f k l0).bind fun t500 => ((impl_Place.f k bt480.1 bt480.2 bt490.1 bt490.2.1 bt490.2.2.1 bt490.2.2.2 t500 t495 t497).bind fun bt501 => ((impl_CanPlace.f k bt480.1 bt480.2 bt490.1 bt490.2.1 bt490.2.2.1 bt490.2.2.2 t497).bind fun bt505 => (if bt501.2 = true then (if bt505.2 = true then (if (bt501.1.length : Int) = t495 then ((impl_Apart.f k bt480.1 bt480.2 bt490.2.2.1 bt501.1).bind fun t507 => (if t507 = true then ((impl_RuleOk.f k bt480.1 bt480.2 bt490.1 bt490.2.1 bt490.2.2.1 bt490.2.2.2).bind fun t508 => (laws_FnApart.j0 k t497 bt501.1 bt505.1 (!t508) bt480.1 bt480.2 bt490.1 bt490.2.1 bt490.2.2.1 bt490.2.2.2)) else (none))) else (none)) else (none)) else (none)))))))))))
def laws_FnApart.T7 : Bool × List (List Nat × List Nat) := (true, [([], []), ([], []), ([], []), ([2], [2]), ([], []), ([], []), ([0, 1, 3, 4, 5, 3], [0, 1, 3, 4, 5]), ([6], [6]), ([7], [7]), ([7], [7]), ([8, 6, 0, 1, 2, 3, 4, 5, 6, 7, 8], [8]), ([9, 10, 0, 1, 2, 3, 4, 5, 6, 7, 8, 9, 10], [9])])
def laws_FnApart.B7 : List Nat := [0, 0, 0, 4, 0, 0, 63, 127, 255, 255, 511, 2047]
theorem laws_FnApart.tab7 : rtab .any (opsOf Try.f5 7) = laws_FnApart.T7 := by kernel_rfl
theorem laws_FnApart.bits7 : waitsOk laws_FnApart.T7.2 laws_FnApart.B7 = true := by kernel_rfl
def laws_FnApart.T18 : Bool × List (List Nat × List Nat) := (true, [([], []), ([], []), ([], []), ([1, 2], [1, 2]), ([3], [3]), ([0, 4], [0, 4]), ([5], [5]), ([6], [6]), ([6], [6]), ([7, 5, 0, 1, 2, 3, 4, 5, 6, 7], [7]), ([8, 9, 0, 1, 2, 3, 4, 5, 6, 7, 8, 9], [8])])
def laws_FnApart.B18 : List Nat := [0, 0, 0, 6, 14, 31, 63, 127, 127, 255, 1023]
theorem laws_FnApart.tab18 : rtab .any (opsOf Try.f5 18) = laws_FnApart.T18 := by kernel_rfl
theorem laws_FnApart.bits18 : waitsOk laws_FnApart.T18.2 laws_FnApart.B18 = true := by kernel_rfl
def laws_FnApart.T19 : Bool × List (List Nat × List Nat) := (true, [([], []), ([], []), ([1], [1]), ([], []), ([], []), ([3, 4], [3, 4]), ([5], [5]), ([0, 2, 6], [0, 2, 6]), ([7], [7]), ([8], [8]), ([8], [8]), ([9, 7, 0, 1, 2, 3, 4, 5, 6, 7, 8, 9], [9]), ([10, 11, 0, 1, 2, 3, 4, 5, 6, 7, 8, 9, 10, 11], [10])])
def laws_FnApart.B19 : List Nat := [0, 0, 2, 0, 0, 24, 56, 127, 255, 511, 511, 1023, 4095]
theorem laws_FnApart.tab19 : rtab .any (opsOf Try.f5 19) = laws_FnApart.T19 := by kernel_rfl
theorem laws_FnApart.bits19 : waitsOk laws_FnApart.T19.2 laws_FnApart.B19 = true := by kernel_rfl
def az_z5 (n m : Nat) : Array Bool := (List.replicate n true ++ List.replicate m false).toArray
def mz5_0 : Array Bool := az_z5 0 12
def mz5_1 : Array Bool := #[false, false, true, false, false, false, false, false, false, false, false, false]
def mz5_2 : Array Bool := #[false, false, true, false, true, false, false, false, false, false, false, false]
def mz5_3 : Array Bool := #[false, false, true, false, true, true, false, false, false, false, false, false]
def mz5_4 : Array Bool := #[true, false, true, false, true, true, false, false, false, false, false, false]
def mz5_5 : Array Bool := #[true, true, true, false, true, true, false, false, false, false, false, false]
def mz5_6 : Array Bool := az_z5 6 6
def mz5_7 : Array Bool := az_z5 7 5
def mz5_8 : Array Bool := az_z5 8 4
def mz5_9 : Array Bool := az_z5 9 3
def mz5_10 : Array Bool := az_z5 10 2
def mz5_11 : Array Bool := az_z5 11 1
def mz5_12 : Array Bool := az_z5 12 0
def mz5_13 : Array Bool := az_z5 0 11
def mz5_14 : Array Bool := #[false, true, false, false, false, false, false, false, false, false, false]
def mz5_15 : Array Bool := #[false, true, true, false, false, false, false, false, false, false, false]
def mz5_16 : Array Bool := #[false, true, true, true, false, false, false, false, false, false, false]
def mz5_17 : Array Bool := az_z5 4 7
def mz5_18 : Array Bool := az_z5 5 6
def mz5_19 : Array Bool := az_z5 6 5
def mz5_20 : Array Bool := az_z5 7 4
def mz5_21 : Array Bool := az_z5 8 3
def mz5_22 : Array Bool := az_z5 9 2
def mz5_23 : Array Bool := az_z5 10 1
def mz5_24 : Array Bool := az_z5 11 0
def mz5_25 : Array Bool := az_z5 0 13
def mz5_26 : Array Bool := #[false, true, false, false, false, false, false, false, false, false, false, false, false]
def mz5_27 : Array Bool := #[false, true, false, true, false, false, false, false, false, false, false, false, false]
def mz5_28 : Array Bool := #[false, true, false, true, true, false, false, false, false, false, false, false, false]
def mz5_29 : Array Bool := #[false, true, false, true, true, true, false, false, false, false, false, false, false]
def mz5_30 : Array Bool := #[true, true, false, true, true, true, false, false, false, false, false, false, false]
def mz5_31 : Array Bool := az_z5 6 7
def mz5_32 : Array Bool := az_z5 7 6
def mz5_33 : Array Bool := az_z5 8 5
def mz5_34 : Array Bool := az_z5 9 4
def mz5_35 : Array Bool := az_z5 10 3
def mz5_36 : Array Bool := az_z5 11 2
def mz5_37 : Array Bool := az_z5 12 1
def mz5_38 : Array Bool := az_z5 13 0
theorem pu_z5 {P : Program} {ops : Array Oper} {Q : Exit → Act → World → Prop} {md : Region.Mode} {S : World → Prop} {ds : List Nat} {oi : Oper} {fuel : Nat} {l : Array Bool} {a : Act} {w : World} (i : Nat) (N : Option Tmp) (v : Value) (l' : Array Bool) (hi : ops[i]? = some oi) (hN : oi.dst = N) (hc : anyB md ops l l' i = true)
    (hQ : ∀ c a w, Q (.panic c) (a.put oi.dst v) w → Q (.panic c) a w) (hy : Yields P ops oi v a) (a' : Act) (ha : a.put N v = a')
    (h : wpAnyLast P md ops Q S ds fuel l' a' w) : wpAnyLast P md ops Q S ds (fuel + 1) l a w := pure_ l' hi hN hc hQ hy ha h
theorem pq_z5 : (∀ (l : List Value) (i : Nat) (v : Value), l.toArray.setIfInBounds i v = (l.set i v).toArray) ∧ (∀ (x v : Value) (xs : List Value), (x :: xs).set 0 v = v :: xs) ∧ (∀ (x v : Value) (xs : List Value) (n : Nat), (x :: xs).set (n + 1) v = x :: xs.set n v) ∧ (∀ n : Int, IntKind.i64.wrap n = Go.RowKit.wrap64 n) ∧ (∀ n : Int, IntKind.i32.wrap n = Go.RowKit.wrap32 n) :=
  ⟨fun l i v => List.setIfInBounds_toArray l i v, fun _ _ _ => rfl, fun _ _ _ _ => rfl, i64_w, i32_w⟩
set_option maxHeartbeats 8000000 in
set_option maxRecDepth 100000 in
theorem laws_FnApart.calls (k : Nat) (A0 : Option Addr) (c0 : Nat) (l0 : List Int) (r : Bool) (w : World) (hr0 : Kd.C (Kd.int .u8) w A0 l0.length l0) (hc0 : l0.length ≤ c0) (h : laws_FnApart.f k l0 = some r) :
  Calls Try.prog 5 #[.slice A0 l0.length c0] w fun e w' => e = .returned (.bool r) ∧ Below w.heap.size w w' := by
 have hu26 := Try.underlying26
 have hu29 := Try.underlying29
 have HR0 := Aside0.mk hr0
 have HC0 := Aside0.mk hc0
 clear hr0 hc0
 have HB := Aside0.mk (Below.refl w.heap.size w)
 have H : (if (l0.length : Int) > 1048576 then (some true) else ((spec_A8Tree.f k l0).bind fun bt480 => ((laws_a8Mix.f 2 l0).bind fun t487 => ((spec_A8Rule.f t487 bt480.1 bt480.2).bind fun bt490 => ((laws_a8At.f l0 0 8).bind fun t495 => ((laws_a8At.f l0 1 4).bind fun t496 => ((laws_a8Places.f k l0 t496 12).bind fun t497 => ((spec_A8Number.f k l0).bind fun t500 => ((impl_Place.f k bt480.1 bt480.2 bt490.1 bt490.2.1 bt490.2.2.1 bt490.2.2.2 t500 t495 t497).bind fun bt501 => ((impl_CanPlace.f k bt480.1 bt480.2 bt490.1 bt490.2.1 bt490.2.2.1 bt490.2.2.2 t497).bind fun bt505 => (if bt501.2 = true then (if bt505.2 = true then (if (bt501.1.length : Int) = t495 then ((impl_Apart.f k bt480.1 bt480.2 bt490.2.2.1 bt501.1).bind fun t507 => (if t507 = true then ((impl_RuleOk.f k bt480.1 bt480.2 bt490.1 bt490.2.1 bt490.2.2.1 bt490.2.2.2).bind fun t508 => (laws_FnApart.j0 k t497 bt501.1 bt505.1 (!t508) bt480.1 bt480.2 bt490.1 bt490.2.1 bt490.2.2.1 bt490.2.2.2)) else (none))) else (none)) else (none)) else (none)))))))))))) = some r := h
 clear h
 by_cases c2 : (l0.length : Int) > 1048576
 ·rw [if_pos c2] at H
  have c2b0 : decide (1048576 < (l0.length : Int)) = true := decide_eq_true c2
  have c2b1 : decide (1048576 < l0.length) = true := decide_eq_true (by omega)
  clear c2
  obtain rfl := Option.some.inj H
  go_enter Try.func5, Try.ntmps5
  go_wp2
  go_ret
  exact ⟨by first | rfl | (simp [*, errW_none, errW_some] <;> rfl), by repeat first | exact HB.out | apply below_alloc | apply pw_below_drewN | apply below_drew1⟩
 ·rw [if_neg c2] at H
  have c2b0 : decide (1048576 < (l0.length : Int)) = false := decide_eq_false c2
  have c2b1 : decide (1048576 < l0.length) = false := decide_eq_false (by omega)
  clear c2
  replace H := Option.bind_eq_some_iff.mp H
  obtain ⟨⟨t480, t483⟩, A30, H⟩ := H
  replace H : ((laws_a8Mix.f 2 l0).bind fun t487 => ((spec_A8Rule.f t487 t480 t483).bind fun bt490 => ((laws_a8At.f l0 0 8).bind fun t495 => ((laws_a8At.f l0 1 4).bind fun t496 => ((laws_a8Places.f k l0 t496 12).bind fun t497 => ((spec_A8Number.f k l0).bind fun t500 => ((impl_Place.f k t480 t483 bt490.1 bt490.2.1 bt490.2.2.1 bt490.2.2.2 t500 t495 t497).bind fun bt501 => ((impl_CanPlace.f k t480 t483 bt490.1 bt490.2.1 bt490.2.2.1 bt490.2.2.2 t497).bind fun bt505 => (if bt501.2 = true then (if bt505.2 = true then (if (bt501.1.length : Int) = t495 then ((impl_Apart.f k t480 t483 bt490.2.2.1 bt501.1).bind fun t507 => (if t507 = true then ((impl_RuleOk.f k t480 t483 bt490.1 bt490.2.1 bt490.2.2.1 bt490.2.2.2).bind fun t508 => (laws_FnApart.j0 k t497 bt501.1 bt505.1 (!t508) t480 t483 bt490.1 bt490.2.1 bt490.2.2.1 bt490.2.2.2)) else (none))) else (none)) else (none)) else (none)))))))))) = some r := H
  have A3 := Aside0.mk A30
  clear A30
  replace H := Option.bind_eq_some_iff.mp H
  obtain ⟨t487, A40, H⟩ := H
  replace H : ((spec_A8Rule.f t487 t480 t483).bind fun bt490 => ((laws_a8At.f l0 0 8).bind fun t495 => ((laws_a8At.f l0 1 4).bind fun t496 => ((laws_a8Places.f k l0 t496 12).bind fun t497 => ((spec_A8Number.f k l0).bind fun t500 => ((impl_Place.f k t480 t483 bt490.1 bt490.2.1 bt490.2.2.1 bt490.2.2.2 t500 t495 t497).bind fun bt501 => ((impl_CanPlace.f k t480 t483 bt490.1 bt490.2.1 bt490.2.2.1 bt490.2.2.2 t497).bind fun bt505 => (if bt501.2 = true then (if bt505.2 = true then (if (bt501.1.length : Int) = t495 then ((impl_Apart.f k t480 t483 bt490.2.2.1 bt501.1).bind fun t507 => (if t507 = true then ((impl_RuleOk.f k t480 t483 bt490.1 bt490.2.1 bt490.2.2.1 bt490.2.2.2).bind fun t508 => (laws_FnApart.j0 k t497 bt501.1 bt505.1 (!t508) t480 t483 bt490.1 bt490.2.1 bt490.2.2.1 bt490.2.2.2)) else (none))) else (none)) else (none)) else (none))))))))) = some r := H
  have A4 := Aside0.mk A40
  clear A40
  replace H := Option.bind_eq_some_iff.mp H
  obtain ⟨⟨t490, t491, t492, t493⟩, A50, H⟩ := H
  replace H : ((laws_a8At.f l0 0 8).bind fun t495 => ((laws_a8At.f l0 1 4).bind fun t496 => ((laws_a8Places.f k l0 t496 12).bind fun t497 => ((spec_A8Number.f k l0).bind fun t500 => ((impl_Place.f k t480 t483 t490 t491 t492 t493 t500 t495 t497).bind fun bt501 => ((impl_CanPlace.f k t480 t483 t490 t491 t492 t493 t497).bind fun bt505 => (if bt501.2 = true then (if bt505.2 = true then (if (bt501.1.length : Int) = t495 then ((impl_Apart.f k t480 t483 t492 bt501.1).bind fun t507 => (if t507 = true then ((impl_RuleOk.f k t480 t483 t490 t491 t492 t493).bind fun t508 => (laws_FnApart.j0 k t497 bt501.1 bt505.1 (!t508) t480 t483 t490 t491 t492 t493)) else (none))) else (none)) else (none)) else (none)))))))) = some r := H
  have A5 := Aside0.mk A50
  clear A50
  replace H := Option.bind_eq_some_iff.mp H
  obtain ⟨t495, A60, H⟩ := H
  replace H : ((laws_a8At.f l0 1 4).bind fun t496 => ((laws_a8Places.f k l0 t496 12).bind fun t497 => ((spec_A8Number.f k l0).bind fun t500 => ((impl_Place.f k t480 t483 t490 t491 t492 t493 t500 t495 t497).bind fun bt501 => ((impl_CanPlace.f k t480 t483 t490 t491 t492 t493 t497).bind fun bt505 => (if bt501.2 = true then (if bt505.2 = true then (if (bt501.1.length : Int) = t495 then ((impl_Apart.f k t480 t483 t492 bt501.1).bind fun t507 => (if t507 = true then ((impl_RuleOk.f k t480 t483 t490 t491 t492 t493).bind fun t508 => (laws_FnApart.j0 k t497 bt501.1 bt505.1 (!t508) t480 t483 t490 t491 t492 t493)) else (none))) else (none)) else (none)) else (none))))))) = some r := H
  have A6 := Aside0.mk A60
  clear A60
  replace H := Option.bind_eq_some_iff.mp H
  obtain ⟨t496, A70, H⟩ := H
  replace H : ((laws_a8Places.f k l0 t496 12).bind fun t497 => ((spec_A8Number.f k l0).bind fun t500 => ((impl_Place.f k t480 t483 t490 t491 t492 t493 t500 t495 t497).bind fun bt501 => ((impl_CanPlace.f k t480 t483 t490 t491 t492 t493 t497).bind fun bt505 => (if bt501.2 = true then (if bt505.2 = true then (if (bt501.1.length : Int) = t495 then ((impl_Apart.f k t480 t483 t492 bt501.1).bind fun t507 => (if t507 = true then ((impl_RuleOk.f k t480 t483 t490 t491 t492 t493).bind fun t508 => (laws_FnApart.j0 k t497 bt501.1 bt505.1 (!t508) t480 t483 t490 t491 t492 t493)) else (none))) else (none)) else (none)) else (none)))))) = some r := H
  have A7 := Aside0.mk A70
  clear A70
  replace H := Option.bind_eq_some_iff.mp H
  obtain ⟨t497, A80, H⟩ := H
  replace H : ((spec_A8Number.f k l0).bind fun t500 => ((impl_Place.f k t480 t483 t490 t491 t492 t493 t500 t495 t497).bind fun bt501 => ((impl_CanPlace.f k t480 t483 t490 t491 t492 t493 t497).bind fun bt505 => (if bt501.2 = true then (if bt505.2 = true then (if (bt501.1.length : Int) = t495 then ((impl_Apart.f k t480 t483 t492 bt501.1).bind fun t507 => (if t507 = true then ((impl_RuleOk.f k t480 t483 t490 t491 t492 t493).bind fun t508 => (laws_FnApart.j0 k t497 bt501.1 bt505.1 (!t508) t480 t483 t490 t491 t492 t493)) else (none))) else (none)) else (none)) else (none))))) = some r := H
  have A8 := Aside0.mk A80
  clear A80
  replace H := Option.bind_eq_some_iff.mp H
  obtain ⟨t500, A90, H⟩ := H
  replace H : ((impl_Place.f k t480 t483 t490 t491 t492 t493 t500 t495 t497).bind fun bt501 => ((impl_CanPlace.f k t480 t483 t490 t491 t492 t493 t497).bind fun bt505 => (if bt501.2 = true then (if bt505.2 = true then (if (bt501.1.length : Int) = t495 then ((impl_Apart.f k t480 t483 t492 bt501.1).bind fun t507 => (if t507 = true then ((impl_RuleOk.f k t480 t483 t490 t491 t492 t493).bind fun t508 => (laws_FnApart.j0 k t497 bt501.1 bt505.1 (!t508) t480 t483 t490 t491 t492 t493)) else (none))) else (none)) else (none)) else (none)))) = some r := H
  have A9 := Aside0.mk A90
  clear A90
  replace H := Option.bind_eq_some_iff.mp H
  obtain ⟨⟨t501, t504⟩, A100, H⟩ := H
  replace H : ((impl_CanPlace.f k t480 t483 t490 t491 t492 t493 t497).bind fun bt505 => (if t504 = true then (if bt505.2 = true then (if (t501.length : Int) = t495 then ((impl_Apart.f k t480 t483 t492 t501).bind fun t507 => (if t507 = true then ((impl_RuleOk.f k t480 t483 t490 t491 t492 t493).bind fun t508 => (laws_FnApart.j0 k t497 t501 bt505.1 (!t508) t480 t483 t490 t491 t492 t493)) else (none))) else (none)) else (none)) else (none))) = some r := H
  have A10 := Aside0.mk A100
  clear A100
  replace H := Option.bind_eq_some_iff.mp H
  obtain ⟨⟨t505, t506⟩, A110, H⟩ := H
  replace H : (if t504 = true then (if t506 = true then (if (t501.length : Int) = t495 then ((impl_Apart.f k t480 t483 t492 t501).bind fun t507 => (if t507 = true then ((impl_RuleOk.f k t480 t483 t490 t491 t492 t493).bind fun t508 => (laws_FnApart.j0 k t497 t501 t505 (!t508) t480 t483 t490 t491 t492 t493)) else (none))) else (none)) else (none)) else (none)) = some r := H
  have A11 := Aside0.mk A110
  clear A110
  have HC12 := Aside0.mk H
  clear H
  go_enter Try.func5, Try.ntmps5
  try go_wp2_with (first | ((with_reducible refine gate_callee (f := 6) rfl ?_); refine goesL_ (some 22) rfl rfl Try.func6 (by kernel_rfl) rfl #[.slice A0 l0.length c0] rfl (by (try simp only [List.map_toArray, List.map_cons, List.map_nil]); first | done | rfl | (simp only [List.length_drop, List.length_take]; rfl)) ?_; (with_reducible refine (spec_A8Tree.calls k _ _ l0 t480 t483 _ ?side1 ?side2 A3.out).mono ?_); (case side1 => repeat (first | exact HR0.out | (with_reducible refine Kd.C_alloc ?_ _) | (with_reducible refine Kd.C_drewN ?_ _) | (with_reducible refine Kd.C_drew ?_))); (case side2 => exact HC0.out); rintro e w13 ⟨v481, v484, rfl, ho0, ho1, hb⟩; refine ⟨_, rfl, ?_⟩; have n0_ := Aside0.mk (Kd.R_lower ho0 (below_size (by repeat first | exact HB.out | apply below_alloc | apply pw_below_drewN | apply below_drew1))); have n1_ := Aside0.mk (Kd.S_lower ho1 (below_size (by repeat first | exact HB.out | apply below_alloc | apply pw_below_drewN | apply below_drew1))); have n2_ := Aside0.mk (below_step (by repeat first | exact HB.out | apply below_alloc | apply pw_below_drewN | apply below_drew1) hb); clear HB; have HO482 := n0_; have HO485 := n1_; have HB := n2_; clear n0_ n1_ n2_; (try clear hb); (try clear hb2); (try clear hk); (try clear hi); (try clear ho0); (try clear ho1)) | ((with_reducible refine gate_dst (N := 3) rfl ?_); refine box_event ?hg (N := 3) ?hd (cs := #[.slice none 0 0, .slice none 0 0]) (t := 26) ?hr ?_; (case hd => rfl); (case hg => rfl); (case hr => first | (go_simp; done) | (go_simp; rfl)); intro gb486 hg w14 hbox hb; have n0_ := Aside0.mk (Kd.R_below (by (with_reducible repeat (first | apply Kd.R_alloc | apply Kd.R_drewN | apply Kd.R_drew)); exact HO482.out) hb); have n1_ := Aside0.mk (Kd.S_below (by (with_reducible repeat (first | apply Kd.S_alloc | apply Kd.S_drewN | apply Kd.S_drew)); exact HO485.out) hb); have n2_ := Aside0.mk (below_step (by repeat first | exact HB.out | apply below_alloc | apply pw_below_drewN | apply below_drew1) hb); have n3_ := Aside0.mk (hbox); have n4_ := Aside0.mk ((by rw [hg]; exact (below_size (by repeat first | exact HB.out | apply below_alloc | apply pw_below_drewN | apply below_drew1)) : w.heap.size ≤ gb486)); have n5_ := Aside0.mk ((by rw [hg]; exact (below_size (by repeat first | exact HB.out | apply below_alloc | apply pw_below_drewN | apply below_drew1)) : w.heap.size ≤ gb486)); clear HO482; clear HO485; clear HB; have HO482 := n0_; have HO485 := n1_; have HB := n2_; have BK486 := n3_; have GW486 := n4_; have GE486 := n5_; clear n0_ n1_ n2_ n3_ n4_ n5_; clear hb hbox hg; obtain ⟨Ao15, co15, eo15⟩ := Kd.R_slice HO482.out; subst eo15; have hcz16_0 : w14.cell? ⟨gb486, 0, none⟩ = some (.slice none 0 0) := (blk_cell BK486.out 0).trans rfl; have hcz16_1 : w14.cell? ⟨gb486, 1, none⟩ = some (.slice none 0 0) := (blk_cell BK486.out 1).trans rfl; have hfz16_0 := blk_frozen BK486.out 0; have hfz16_1 := blk_frozen BK486.out 1; obtain ⟨Ao17, co17, eo17⟩ := Kd.S_slice HO485.out; subst eo17))
  have n0_ : Aside0 (Kd.R k34 34 ((w14.setCell ⟨gb486, 0, none⟩ (.slice Ao15 t480.length co15)).setCell ⟨gb486, 1, none⟩ (.slice Ao17 t483.length co17)) w.heap.size (fun _ => True) (.slice Ao15 t480.length co15) t480) := ⟨by (with_reducible repeat (first | apply Kd.R_alloc | apply Kd.R_drewN | apply Kd.R_drew)); exact Kd.R_mono (Kd.R_far (p := ⟨gb486, 1, none⟩) (Kd.R_far (p := ⟨gb486, 0, none⟩) (Kd.R_types HO482.out BK486.out (by decide)) (fun _ hk => hk.2) (.slice Ao15 t480.length co15)) (fun _ hk => hk.2) (.slice Ao17 t483.length co17)) (fun _ hk => trivial)⟩
  have n1_ : Aside0 (Kd.S k70 70 ((w14.setCell ⟨gb486, 0, none⟩ (.slice Ao15 t480.length co15)).setCell ⟨gb486, 1, none⟩ (.slice Ao17 t483.length co17)) w.heap.size (fun _ => True) (.slice Ao17 t483.length co17) t483) := ⟨by (with_reducible repeat (first | apply Kd.S_alloc | apply Kd.S_drewN | apply Kd.S_drew)); exact Kd.S_mono (Kd.S_far (p := ⟨gb486, 1, none⟩) (Kd.S_far (p := ⟨gb486, 0, none⟩) (Kd.S_types HO485.out BK486.out (by decide)) (fun _ hk => hk.2) (.slice Ao15 t480.length co15)) (fun _ hk => hk.2) (.slice Ao17 t483.length co17)) (fun _ hk => trivial)⟩
  have n2_ : Aside0 (((w14.setCell ⟨gb486, 0, none⟩ (.slice Ao15 t480.length co15)).setCell ⟨gb486, 1, none⟩ (.slice Ao17 t483.length co17)).heap[gb486]? = some (.cells #[.slice Ao15 t480.length co15, .slice Ao17 t483.length co17] 26 (0, 0))) := ⟨by (with_reducible repeat first | apply blk_drewN | apply blk_drew | apply blk_alloc); refine blk_put (cs := #[.slice Ao15 t480.length co15, .slice none 0 0]) ?_ 1 _ rfl; (with_reducible repeat first | apply blk_drewN | apply blk_drew | apply blk_alloc); refine blk_put (cs := #[.slice none 0 0, .slice none 0 0]) ?_ 0 _ rfl; (with_reducible repeat first | apply blk_drewN | apply blk_drew | apply blk_alloc); exact BK486.out⟩
  have n3_ : Aside0 (Below w.heap.size w ((w14.setCell ⟨gb486, 0, none⟩ (.slice Ao15 t480.length co15)).setCell ⟨gb486, 1, none⟩ (.slice Ao17 t483.length co17))) := ⟨by repeat (first | (with_reducible first | exact HB.out | apply below_alloc | apply pw_below_drewN | apply below_drew1 | refine below_set ?_ GE486.out) | exact HB.out)⟩
  (try clear HO482)
  (try clear HO485)
  (try clear BK486)
  (try clear HB)
  generalize ((w14.setCell ⟨gb486, 0, none⟩ (.slice Ao15 t480.length co15)).setCell ⟨gb486, 1, none⟩ (.slice Ao17 t483.length co17)) = w18 at n0_ n1_ n2_ n3_ ⊢
  have HO482 := n0_
  have HO485 := n1_
  have BK486 := n2_
  have HB := n3_
  clear n0_ n1_ n2_ n3_
  have n0_ := Aside0.mk (Kd.R_drew HO482.out)
  have n1_ := Aside0.mk (Kd.S_drew HO485.out)
  have n2_ := Aside0.mk (blk_drew BK486.out)
  have n3_ := Aside0.mk (below_drew1 HB.out)
  clear HO482
  clear HO485
  clear BK486
  clear HB
  have HO482 := n0_
  have HO485 := n1_
  have BK486 := n2_
  have HB := n3_
  clear n0_ n1_ n2_ n3_
  refine start_ (n := 6) (S := fun w' => w'.cell? ⟨gb486, 0, none⟩ = some (.slice Ao15 t480.length co15) ∧ w'.cell? ⟨gb486, 1, none⟩ = some (.slice Ao17 t483.length co17)) (ds := []) #[false, false, false, false, false, false] (by kernel_rfl) rfl rfl ⟨(blk_cell BK486.out 0).trans rfl, (blk_cell BK486.out 1).trans rfl⟩ (fun hHeld => ?_)
  generalize w18.drew = w19 at HO482 HO485 BK486 HB hHeld ⊢
  refine pu_z5 0 (some 23) ?_ #[true, false, false, false, false, false] rfl rfl (by kernel_rfl) (fun _ _ _ h => h) (Or.inl ⟨by rfl, ?_⟩) ?_ ?_ ?_
  (rotate_left; ·(intro w'; go_simp; with_reducible rfl)); (rotate_left; ·(simp only [Act.put, pq_z5]; rfl))
  refine take_ (i := 2) (N := some 25) (v := ?_) (a' := ?_) #[true, false, true, false, false, false] rfl rfl (by kernel_rfl) (fun _ _ _ h => h) (Or.inl ⟨by rfl, ?_⟩) hHeld ?_ ?_
  (rotate_left; ·(rintro w' ⟨s0, s1⟩; go_simp; with_reducible rfl)); (rotate_left; ·(simp only [Act.put, pq_z5]; rfl))
  refine join_ (σ := Value × Nat) 1 #[true, true, true, true, true, false] (fun s_ => [(24, s_.1), (26, .agg #[.int .i64 t490, .int .i64 t491, .int .i64 t492, .bool t493]), (4, .pointer (some ⟨s_.2, 0, none⟩))]) (fun s_ w' => (w'.cell? ⟨gb486, 0, none⟩ = some (.slice Ao15 t480.length co15) ∧ w'.cell? ⟨gb486, 1, none⟩ = some (.slice Ao17 t483.length co17)) ∧ (Kd.R k34 34 w' w.heap.size (fun _ => True) (.slice Ao15 t480.length co15) t480) ∧ (Kd.S k70 70 w' w.heap.size (fun _ => True) (.slice Ao17 t483.length co17) t483) ∧ (Kd.R (Kd.int .u8) 5 w' w.heap.size (fun _ => True) s_.1 t487) ∧ (w'.heap[gb486]? = some (.cells #[.slice Ao15 t480.length co15, .slice Ao17 t483.length co17] 26 (0, 0))) ∧ (w'.heap[s_.2]? = some (.cells #[.int .i64 0, .int .i64 0, .int .i64 0, .bool false] 29 (0, 0))) ∧ (w.heap.size ≤ s_.2) ∧ (w.heap.size ≤ s_.2) ∧ (gb486 ≠ s_.2) ∧ (s_.2 ≠ gb486) ∧ (Below w.heap.size w w')) ?_ ?_
  rotate_left
  ·intro hCont
   refine two_ (i := 1) (j := 4) (Ni := some 24) (Nj := some 4) #[true, true, true, false, false, false] #[true, false, true, false, true, false] rfl rfl rfl rfl (by kernel_rfl) (by decide) (by decide) (fun K hK => ?_) (fun K hK => ?_)
   ·skip
    refine goes_ Try.func8 (by kernel_rfl) rfl #[.int .i64 2, .slice A0 l0.length c0] (by rfl) rfl rfl (by (try simp only [List.map_toArray, List.map_cons, List.map_nil]); first | done | rfl | (simp only [List.length_drop, List.length_take]; rfl)) ?_
    with_reducible refine (laws_a8Mix.calls 2 _ _ l0 t487 _ ?side1 ?side2 A4.out).mono ?_
    (case side1 => repeat (first | exact (Kd.C_below HR0.out HB.out) | (with_reducible refine Kd.C_alloc ?_ _) | (with_reducible refine Kd.C_drewN ?_ _) | (with_reducible refine Kd.C_drew ?_)))
    (case side2 => exact HC0.out)
    rintro e w20 ⟨v488, rfl, ho0, hb⟩
    refine ⟨_, rfl, ?_⟩
    have n0_ := Aside0.mk (Kd.R_below (by (with_reducible repeat (first | apply Kd.R_alloc | apply Kd.R_drewN | apply Kd.R_drew)); exact HO482.out) hb)
    have n1_ := Aside0.mk (Kd.S_below (by (with_reducible repeat (first | apply Kd.S_alloc | apply Kd.S_drewN | apply Kd.S_drew)); exact HO485.out) hb)
    have n2_ := Aside0.mk (Kd.R_lower ho0 (below_size (by repeat (first | (with_reducible first | exact HB.out | apply below_alloc | apply pw_below_drewN | apply below_drew1 | refine below_set ?_ GE486.out) | exact HB.out))))
    have n3_ := Aside0.mk (blk_below (g := gb486) (o := .cells #[.slice Ao15 t480.length co15, .slice Ao17 t483.length co17] 26 (0, 0)) (by (with_reducible repeat first | apply blk_drewN | apply blk_drew | apply blk_alloc); exact BK486.out) hb)
    have n4_ := Aside0.mk (below_step (by repeat (first | (with_reducible first | exact HB.out | apply below_alloc | apply pw_below_drewN | apply below_drew1 | refine below_set ?_ GE486.out) | exact HB.out)) hb)
    clear HO482
    clear HO485
    clear BK486
    clear HB
    have HO482 := n0_
    have HO485 := n1_
    have HO489 := n2_
    have BK486 := n3_
    have HB := n4_
    clear n0_ n1_ n2_ n3_ n4_
    (try clear hb)
    (try clear hb2)
    (try clear hk)
    (try clear hi)
    (try clear ho0)
    obtain ⟨Ao21, co21, eo21⟩ := Kd.R_slice HO489.out
    (first | subst eo21 | (injection eo21 with f1_ f2_ f3_; have f4_ := f1_.symm; have f5_ := f3_.symm; clear f1_ f2_ f3_; subst f4_; subst f5_))
    refine hK.out _ _ ⟨(blk_cell BK486.out 0).trans rfl, (blk_cell BK486.out 1).trans rfl⟩ (fun hHeld => ?_)
    clear hK K
    refine norm_ (a' := ?_) ?_ ?_
    (rotate_left; ·(show Act.put _ (some 24) _ = _; simp only [Act.put, pq_z5]; rfl))
    refine two_ (i := 3) (j := 4) (Ni := some 26) (Nj := some 4) #[true, true, true, true, false, false] #[true, true, true, false, true, false] rfl rfl rfl rfl (by kernel_rfl) (by decide) (by decide) (fun K hK => ?_) (fun K hK => ?_)
    ·skip
     refine goes_ Try.func7 (by kernel_rfl) rfl #[.slice Ao21 t487.length co21, .agg #[.slice Ao15 t480.length co15, .slice Ao17 t483.length co17]] (by rfl) rfl rfl (by (try simp only [List.map_toArray, List.map_cons, List.map_nil]); first | done | rfl | (simp only [List.length_drop, List.length_take]; rfl)) ?_
     with_reducible refine (spec_A8Rule.calls _ _ t487 _ _ t480 _ _ t483 t490 t491 t492 t493 _ ?side1 ?side2 ?side3 ?side4 ?side5 ?side6 A5.out).mono ?_
     (case side1 => repeat (first | exact (Kd.R_reads' HO489.out).2.2 | (with_reducible refine Kd.C_alloc ?_ _) | (with_reducible refine Kd.C_drewN ?_ _) | (with_reducible refine Kd.C_drew ?_)))
     (case side2 => exact (Kd.R_reads' HO489.out).2.1)
     (case side3 => repeat (first | exact (Kd.R_reads' HO482.out).2.2 | (with_reducible refine Kd.C_alloc ?_ _) | (with_reducible refine Kd.C_drewN ?_ _) | (with_reducible refine Kd.C_drew ?_)))
     (case side4 => exact (Kd.R_reads' HO482.out).2.1)
     (case side5 => repeat (first | exact (Kd.S_reads' HO485.out).2.2 | (with_reducible refine Kd.C_alloc ?_ _) | (with_reducible refine Kd.C_drewN ?_ _) | (with_reducible refine Kd.C_drew ?_)))
     (case side6 => exact (Kd.S_reads' HO485.out).2.1)
     rintro e w22 ⟨rfl, hb⟩
     refine ⟨_, rfl, ?_⟩
     have n0_ := Aside0.mk (Kd.R_below (by (with_reducible repeat (first | apply Kd.R_alloc | apply Kd.R_drewN | apply Kd.R_drew)); exact HO482.out) hb)
     have n1_ := Aside0.mk (Kd.S_below (by (with_reducible repeat (first | apply Kd.S_alloc | apply Kd.S_drewN | apply Kd.S_drew)); exact HO485.out) hb)
     have n2_ := Aside0.mk (Kd.R_below (by (with_reducible repeat (first | apply Kd.R_alloc | apply Kd.R_drewN | apply Kd.R_drew)); exact HO489.out) hb)
     have n3_ := Aside0.mk (blk_below (g := gb486) (o := .cells #[.slice Ao15 t480.length co15, .slice Ao17 t483.length co17] 26 (0, 0)) (by (with_reducible repeat first | apply blk_drewN | apply blk_drew | apply blk_alloc); exact BK486.out) hb)
     have n4_ := Aside0.mk (below_step (by repeat (first | (with_reducible first | exact HB.out | apply below_alloc | apply pw_below_drewN | apply below_drew1 | refine below_set ?_ GE486.out) | exact HB.out)) hb)
     clear HO482
     clear HO485
     clear HO489
     clear BK486
     clear HB
     have HO482 := n0_
     have HO485 := n1_
     have HO489 := n2_
     have BK486 := n3_
     have HB := n4_
     clear n0_ n1_ n2_ n3_ n4_
     (try clear hb)
     (try clear hb2)
     (try clear hk)
     (try clear hi)
     refine hK.out _ _ ⟨(blk_cell BK486.out 0).trans rfl, (blk_cell BK486.out 1).trans rfl⟩ (fun hHeld => ?_)
     clear hK K
     refine norm_ (a' := ?_) ?_ ?_
     (rotate_left; ·(show Act.put _ (some 26) _ = _; simp only [Act.put, pq_z5]; rfl))
     refine one_ (i := 4) (N := some 4) #[true, true, true, true, true, false] rfl rfl (by kernel_rfl) (by decide) (fun K hK => ?_)
     refine box_step ?hg (N := 4) ?hd (cs := #[.int .i64 0, .int .i64 0, .int .i64 0, .bool false]) (t := 29) ?hr ?_; (case hd => rfl); (case hg => rfl); (case hr => first | (go_simp; done) | (go_simp; rfl))
     intro gb494 hg w23 hbox hb
     have n0_ := Aside0.mk (Kd.R_below (by (with_reducible repeat (first | apply Kd.R_alloc | apply Kd.R_drewN | apply Kd.R_drew)); exact HO482.out) hb)
     have n1_ := Aside0.mk (Kd.S_below (by (with_reducible repeat (first | apply Kd.S_alloc | apply Kd.S_drewN | apply Kd.S_drew)); exact HO485.out) hb)
     have n2_ := Aside0.mk (Kd.R_below (by (with_reducible repeat (first | apply Kd.R_alloc | apply Kd.R_drewN | apply Kd.R_drew)); exact HO489.out) hb)
     have n3_ := Aside0.mk (blk_below (g := gb486) (o := .cells #[.slice Ao15 t480.length co15, .slice Ao17 t483.length co17] 26 (0, 0)) (by (with_reducible repeat first | apply blk_drewN | apply blk_drew | apply blk_alloc); exact BK486.out) hb)
     have n4_ := Aside0.mk (below_step (by repeat (first | (with_reducible first | exact HB.out | apply below_alloc | apply pw_below_drewN | apply below_drew1 | refine below_set ?_ GE486.out) | exact HB.out)) hb)
     have n5_ := Aside0.mk (hbox)
     have n6_ := Aside0.mk ((by rw [hg]; exact (below_size (by repeat (first | (with_reducible first | exact HB.out | apply below_alloc | apply pw_below_drewN | apply below_drew1 | refine below_set ?_ GE486.out) | exact HB.out))) : w.heap.size ≤ gb494))
     have n7_ := Aside0.mk ((by rw [hg]; exact (below_size (by repeat (first | (with_reducible first | exact HB.out | apply below_alloc | apply pw_below_drewN | apply below_drew1 | refine below_set ?_ GE486.out) | exact HB.out))) : w.heap.size ≤ gb494))
     have n8_ := Aside0.mk ((by rw [hg]; exact Nat.ne_of_lt (blk_lt (g := gb486) (o := .cells #[.slice Ao15 t480.length co15, .slice Ao17 t483.length co17] 26 (0, 0)) (by (with_reducible repeat first | apply blk_drewN | apply blk_drew | apply blk_alloc); exact BK486.out)) : gb486 ≠ gb494))
     have n9_ := Aside0.mk ((by rw [hg]; exact Nat.ne_of_gt (blk_lt (g := gb486) (o := .cells #[.slice Ao15 t480.length co15, .slice Ao17 t483.length co17] 26 (0, 0)) (by (with_reducible repeat first | apply blk_drewN | apply blk_drew | apply blk_alloc); exact BK486.out)) : gb494 ≠ gb486))
     clear HO482
     clear HO485
     clear HO489
     clear BK486
     clear HB
     have HO482 := n0_
     have HO485 := n1_
     have HO489 := n2_
     have BK486 := n3_
     have HB := n4_
     have BK494 := n5_
     have GW494 := n6_
     have GE494 := n7_
     have NB486_494 := n8_
     have NB494_486 := n9_
     clear n0_ n1_ n2_ n3_ n4_ n5_ n6_ n7_ n8_ n9_
     clear hb hbox hg
     refine hK.out _ _ ⟨(blk_cell BK486.out 0).trans rfl, (blk_cell BK486.out 1).trans rfl⟩ (fun hHeld => ?_)
     clear hK K
     refine norm_ (a' := ?_) ?_ ?_
     (rotate_left; ·(show Act.put _ (some 4) _ = _; simp only [Act.put, pq_z5]; rfl))
     exact norm_ (by simp only [putAll, Act.put, List.setIfInBounds_toArray, List.set_cons_zero, List.set_cons_succ]) (hCont (.slice Ao21 t487.length co21, gb494) _ ⟨hHeld, (by (with_reducible repeat (first | apply Kd.R_alloc | apply Kd.R_drewN | apply Kd.R_drew)); exact HO482.out), (by (with_reducible repeat (first | apply Kd.S_alloc | apply Kd.S_drewN | apply Kd.S_drew)); exact HO485.out), (by (with_reducible repeat (first | apply Kd.R_alloc | apply Kd.R_drewN | apply Kd.R_drew)); exact HO489.out), (by (with_reducible repeat first | apply blk_drewN | apply blk_drew | apply blk_alloc); exact BK486.out), (by (with_reducible repeat first | apply blk_drewN | apply blk_drew | apply blk_alloc); exact BK494.out), GW494.out, GE494.out, NB486_494.out, NB494_486.out, (by repeat (first | (with_reducible first | exact HB.out | apply below_alloc | apply pw_below_drewN | apply below_drew1 | refine below_set ?_ GE486.out | refine below_set ?_ GE494.out) | exact HB.out))⟩)
    ·skip
     refine box_step ?hg (N := 4) ?hd (cs := #[.int .i64 0, .int .i64 0, .int .i64 0, .bool false]) (t := 29) ?hr ?_; (case hd => rfl); (case hg => rfl); (case hr => first | (go_simp; done) | (go_simp; rfl))
     intro gb494 hg w21 hbox hb
     have n0_ := Aside0.mk (Kd.R_below (by (with_reducible repeat (first | apply Kd.R_alloc | apply Kd.R_drewN | apply Kd.R_drew)); exact HO482.out) hb)
     have n1_ := Aside0.mk (Kd.S_below (by (with_reducible repeat (first | apply Kd.S_alloc | apply Kd.S_drewN | apply Kd.S_drew)); exact HO485.out) hb)
     have n2_ := Aside0.mk (Kd.R_below (by (with_reducible repeat (first | apply Kd.R_alloc | apply Kd.R_drewN | apply Kd.R_drew)); exact HO489.out) hb)
     have n3_ := Aside0.mk (blk_below (g := gb486) (o := .cells #[.slice Ao15 t480.length co15, .slice Ao17 t483.length co17] 26 (0, 0)) (by (with_reducible repeat first | apply blk_drewN | apply blk_drew | apply blk_alloc); exact BK486.out) hb)
     have n4_ := Aside0.mk (below_step (by repeat (first | (with_reducible first | exact HB.out | apply below_alloc | apply pw_below_drewN | apply below_drew1 | refine below_set ?_ GE486.out) | exact HB.out)) hb)
     have n5_ := Aside0.mk (hbox)
     have n6_ := Aside0.mk ((by rw [hg]; exact (below_size (by repeat (first | (with_reducible first | exact HB.out | apply below_alloc | apply pw_below_drewN | apply below_drew1 | refine below_set ?_ GE486.out) | exact HB.out))) : w.heap.size ≤ gb494))
     have n7_ := Aside0.mk ((by rw [hg]; exact (below_size (by repeat (first | (with_reducible first | exact HB.out | apply below_alloc | apply pw_below_drewN | apply below_drew1 | refine below_set ?_ GE486.out) | exact HB.out))) : w.heap.size ≤ gb494))
     have n8_ := Aside0.mk ((by rw [hg]; exact Nat.ne_of_lt (blk_lt (g := gb486) (o := .cells #[.slice Ao15 t480.length co15, .slice Ao17 t483.length co17] 26 (0, 0)) (by (with_reducible repeat first | apply blk_drewN | apply blk_drew | apply blk_alloc); exact BK486.out)) : gb486 ≠ gb494))
     have n9_ := Aside0.mk ((by rw [hg]; exact Nat.ne_of_gt (blk_lt (g := gb486) (o := .cells #[.slice Ao15 t480.length co15, .slice Ao17 t483.length co17] 26 (0, 0)) (by (with_reducible repeat first | apply blk_drewN | apply blk_drew | apply blk_alloc); exact BK486.out)) : gb494 ≠ gb486))
     clear HO482
     clear HO485
     clear HO489
     clear BK486
     clear HB
     have HO482 := n0_
     have HO485 := n1_
     have HO489 := n2_
     have BK486 := n3_
     have HB := n4_
     have BK494 := n5_
     have GW494 := n6_
     have GE494 := n7_
     have NB486_494 := n8_
     have NB494_486 := n9_
     clear n0_ n1_ n2_ n3_ n4_ n5_ n6_ n7_ n8_ n9_
     clear hb hbox hg
     obtain ⟨Ao22, co22, eo22⟩ := Kd.R_slice HO489.out
     (first | subst eo22 | (injection eo22 with f1_ f2_ f3_; have f4_ := f1_.symm; have f5_ := f3_.symm; clear f1_ f2_ f3_; subst f4_; subst f5_))
     refine hK.out _ _ ⟨(blk_cell BK486.out 0).trans rfl, (blk_cell BK486.out 1).trans rfl⟩ (fun hHeld => ?_)
     clear hK K
     refine norm_ (a' := ?_) ?_ ?_
     (rotate_left; ·(show Act.put _ (some 4) _ = _; simp only [Act.put, pq_z5]; rfl))
     refine one_ (i := 3) (N := some 26) #[true, true, true, true, true, false] rfl rfl (by kernel_rfl) (by decide) (fun K hK => ?_)
     refine goes_ Try.func7 (by kernel_rfl) rfl #[.slice Ao22 t487.length co22, .agg #[.slice Ao15 t480.length co15, .slice Ao17 t483.length co17]] (by rfl) rfl rfl (by (try simp only [List.map_toArray, List.map_cons, List.map_nil]); first | done | rfl | (simp only [List.length_drop, List.length_take]; rfl)) ?_
     with_reducible refine (spec_A8Rule.calls _ _ t487 _ _ t480 _ _ t483 t490 t491 t492 t493 _ ?side1 ?side2 ?side3 ?side4 ?side5 ?side6 A5.out).mono ?_
     (case side1 => repeat (first | exact (Kd.R_reads' HO489.out).2.2 | (with_reducible refine Kd.C_alloc ?_ _) | (with_reducible refine Kd.C_drewN ?_ _) | (with_reducible refine Kd.C_drew ?_)))
     (case side2 => exact (Kd.R_reads' HO489.out).2.1)
     (case side3 => repeat (first | exact (Kd.R_reads' HO482.out).2.2 | (with_reducible refine Kd.C_alloc ?_ _) | (with_reducible refine Kd.C_drewN ?_ _) | (with_reducible refine Kd.C_drew ?_)))
     (case side4 => exact (Kd.R_reads' HO482.out).2.1)
     (case side5 => repeat (first | exact (Kd.S_reads' HO485.out).2.2 | (with_reducible refine Kd.C_alloc ?_ _) | (with_reducible refine Kd.C_drewN ?_ _) | (with_reducible refine Kd.C_drew ?_)))
     (case side6 => exact (Kd.S_reads' HO485.out).2.1)
     rintro e w23 ⟨rfl, hb⟩
     refine ⟨_, rfl, ?_⟩
     have n0_ := Aside0.mk (Kd.R_below (by (with_reducible repeat (first | apply Kd.R_alloc | apply Kd.R_drewN | apply Kd.R_drew)); exact HO482.out) hb)
     have n1_ := Aside0.mk (Kd.S_below (by (with_reducible repeat (first | apply Kd.S_alloc | apply Kd.S_drewN | apply Kd.S_drew)); exact HO485.out) hb)
     have n2_ := Aside0.mk (Kd.R_below (by (with_reducible repeat (first | apply Kd.R_alloc | apply Kd.R_drewN | apply Kd.R_drew)); exact HO489.out) hb)
     have n3_ := Aside0.mk (blk_below (g := gb486) (o := .cells #[.slice Ao15 t480.length co15, .slice Ao17 t483.length co17] 26 (0, 0)) (by (with_reducible repeat first | apply blk_drewN | apply blk_drew | apply blk_alloc); exact BK486.out) hb)
     have n4_ := Aside0.mk (blk_below (g := gb494) (o := .cells #[.int .i64 0, .int .i64 0, .int .i64 0, .bool false] 29 (0, 0)) (by (with_reducible repeat first | apply blk_drewN | apply blk_drew | apply blk_alloc); exact BK494.out) hb)
     have n5_ := Aside0.mk (below_step (by repeat (first | (with_reducible first | exact HB.out | apply below_alloc | apply pw_below_drewN | apply below_drew1 | refine below_set ?_ GE486.out | refine below_set ?_ GE494.out) | exact HB.out)) hb)
     clear HO482
     clear HO485
     clear HO489
     clear BK486
     clear BK494
     clear HB
     have HO482 := n0_
     have HO485 := n1_
     have HO489 := n2_
     have BK486 := n3_
     have BK494 := n4_
     have HB := n5_
     clear n0_ n1_ n2_ n3_ n4_ n5_
     (try clear hb)
     (try clear hb2)
     (try clear hk)
     (try clear hi)
     refine hK.out _ _ ⟨(blk_cell BK486.out 0).trans rfl, (blk_cell BK486.out 1).trans rfl⟩ (fun hHeld => ?_)
     clear hK K
     refine norm_ (a' := ?_) ?_ ?_
     (rotate_left; ·(show Act.put _ (some 26) _ = _; simp only [Act.put, pq_z5]; rfl))
     exact norm_ (by simp only [putAll, Act.put, List.setIfInBounds_toArray, List.set_cons_zero, List.set_cons_succ]) (hCont (.slice Ao22 t487.length co22, gb494) _ ⟨hHeld, (by (with_reducible repeat (first | apply Kd.R_alloc | apply Kd.R_drewN | apply Kd.R_drew)); exact HO482.out), (by (with_reducible repeat (first | apply Kd.S_alloc | apply Kd.S_drewN | apply Kd.S_drew)); exact HO485.out), (by (with_reducible repeat (first | apply Kd.R_alloc | apply Kd.R_drewN | apply Kd.R_drew)); exact HO489.out), (by (with_reducible repeat first | apply blk_drewN | apply blk_drew | apply blk_alloc); exact BK486.out), (by (with_reducible repeat first | apply blk_drewN | apply blk_drew | apply blk_alloc); exact BK494.out), GW494.out, GE494.out, NB486_494.out, NB494_486.out, (by repeat (first | (with_reducible first | exact HB.out | apply below_alloc | apply pw_below_drewN | apply below_drew1 | refine below_set ?_ GE486.out | refine below_set ?_ GE494.out) | exact HB.out))⟩)
   ·skip
    refine box_step ?hg (N := 4) ?hd (cs := #[.int .i64 0, .int .i64 0, .int .i64 0, .bool false]) (t := 29) ?hr ?_; (case hd => rfl); (case hg => rfl); (case hr => first | (go_simp; done) | (go_simp; rfl))
    intro gb494 hg w20 hbox hb
    have n0_ := Aside0.mk (Kd.R_below (by (with_reducible repeat (first | apply Kd.R_alloc | apply Kd.R_drewN | apply Kd.R_drew)); exact HO482.out) hb)
    have n1_ := Aside0.mk (Kd.S_below (by (with_reducible repeat (first | apply Kd.S_alloc | apply Kd.S_drewN | apply Kd.S_drew)); exact HO485.out) hb)
    have n2_ := Aside0.mk (blk_below (g := gb486) (o := .cells #[.slice Ao15 t480.length co15, .slice Ao17 t483.length co17] 26 (0, 0)) (by (with_reducible repeat first | apply blk_drewN | apply blk_drew | apply blk_alloc); exact BK486.out) hb)
    have n3_ := Aside0.mk (below_step (by repeat (first | (with_reducible first | exact HB.out | apply below_alloc | apply pw_below_drewN | apply below_drew1 | refine below_set ?_ GE486.out) | exact HB.out)) hb)
    have n4_ := Aside0.mk (hbox)
    have n5_ := Aside0.mk ((by rw [hg]; exact (below_size (by repeat (first | (with_reducible first | exact HB.out | apply below_alloc | apply pw_below_drewN | apply below_drew1 | refine below_set ?_ GE486.out) | exact HB.out))) : w.heap.size ≤ gb494))
    have n6_ := Aside0.mk ((by rw [hg]; exact (below_size (by repeat (first | (with_reducible first | exact HB.out | apply below_alloc | apply pw_below_drewN | apply below_drew1 | refine below_set ?_ GE486.out) | exact HB.out))) : w.heap.size ≤ gb494))
    have n7_ := Aside0.mk ((by rw [hg]; exact Nat.ne_of_lt (blk_lt (g := gb486) (o := .cells #[.slice Ao15 t480.length co15, .slice Ao17 t483.length co17] 26 (0, 0)) (by (with_reducible repeat first | apply blk_drewN | apply blk_drew | apply blk_alloc); exact BK486.out)) : gb486 ≠ gb494))
    have n8_ := Aside0.mk ((by rw [hg]; exact Nat.ne_of_gt (blk_lt (g := gb486) (o := .cells #[.slice Ao15 t480.length co15, .slice Ao17 t483.length co17] 26 (0, 0)) (by (with_reducible repeat first | apply blk_drewN | apply blk_drew | apply blk_alloc); exact BK486.out)) : gb494 ≠ gb486))
    clear HO482
    clear HO485
    clear BK486
    clear HB
    have HO482 := n0_
    have HO485 := n1_
    have BK486 := n2_
    have HB := n3_
    have BK494 := n4_
    have GW494 := n5_
    have GE494 := n6_
    have NB486_494 := n7_
    have NB494_486 := n8_
    clear n0_ n1_ n2_ n3_ n4_ n5_ n6_ n7_ n8_
    clear hb hbox hg
    refine hK.out _ _ ⟨(blk_cell BK486.out 0).trans rfl, (blk_cell BK486.out 1).trans rfl⟩ (fun hHeld => ?_)
    clear hK K
    refine norm_ (a' := ?_) ?_ ?_
    (rotate_left; ·(show Act.put _ (some 4) _ = _; simp only [Act.put, pq_z5]; rfl))
    refine one_ (i := 1) (N := some 24) #[true, true, true, false, true, false] rfl rfl (by kernel_rfl) (by decide) (fun K hK => ?_)
    refine goes_ Try.func8 (by kernel_rfl) rfl #[.int .i64 2, .slice A0 l0.length c0] (by rfl) rfl rfl (by (try simp only [List.map_toArray, List.map_cons, List.map_nil]); first | done | rfl | (simp only [List.length_drop, List.length_take]; rfl)) ?_
    with_reducible refine (laws_a8Mix.calls 2 _ _ l0 t487 _ ?side1 ?side2 A4.out).mono ?_
    (case side1 => repeat (first | exact (Kd.C_below HR0.out HB.out) | (with_reducible refine Kd.C_alloc ?_ _) | (with_reducible refine Kd.C_drewN ?_ _) | (with_reducible refine Kd.C_drew ?_)))
    (case side2 => exact HC0.out)
    rintro e w21 ⟨v488, rfl, ho0, hb⟩
    refine ⟨_, rfl, ?_⟩
    have n0_ := Aside0.mk (Kd.R_below (by (with_reducible repeat (first | apply Kd.R_alloc | apply Kd.R_drewN | apply Kd.R_drew)); exact HO482.out) hb)
    have n1_ := Aside0.mk (Kd.S_below (by (with_reducible repeat (first | apply Kd.S_alloc | apply Kd.S_drewN | apply Kd.S_drew)); exact HO485.out) hb)
    have n2_ := Aside0.mk (Kd.R_lower ho0 (below_size (by repeat (first | (with_reducible first | exact HB.out | apply below_alloc | apply pw_below_drewN | apply below_drew1 | refine below_set ?_ GE486.out | refine below_set ?_ GE494.out) | exact HB.out))))
    have n3_ := Aside0.mk (blk_below (g := gb486) (o := .cells #[.slice Ao15 t480.length co15, .slice Ao17 t483.length co17] 26 (0, 0)) (by (with_reducible repeat first | apply blk_drewN | apply blk_drew | apply blk_alloc); exact BK486.out) hb)
    have n4_ := Aside0.mk (blk_below (g := gb494) (o := .cells #[.int .i64 0, .int .i64 0, .int .i64 0, .bool false] 29 (0, 0)) (by (with_reducible repeat first | apply blk_drewN | apply blk_drew | apply blk_alloc); exact BK494.out) hb)
    have n5_ := Aside0.mk (below_step (by repeat (first | (with_reducible first | exact HB.out | apply below_alloc | apply pw_below_drewN | apply below_drew1 | refine below_set ?_ GE486.out | refine below_set ?_ GE494.out) | exact HB.out)) hb)
    clear HO482
    clear HO485
    clear BK486
    clear BK494
    clear HB
    have HO482 := n0_
    have HO485 := n1_
    have HO489 := n2_
    have BK486 := n3_
    have BK494 := n4_
    have HB := n5_
    clear n0_ n1_ n2_ n3_ n4_ n5_
    (try clear hb)
    (try clear hb2)
    (try clear hk)
    (try clear hi)
    (try clear ho0)
    obtain ⟨Ao22, co22, eo22⟩ := Kd.R_slice HO489.out
    (first | subst eo22 | (injection eo22 with f1_ f2_ f3_; have f4_ := f1_.symm; have f5_ := f3_.symm; clear f1_ f2_ f3_; subst f4_; subst f5_))
    refine hK.out _ _ ⟨(blk_cell BK486.out 0).trans rfl, (blk_cell BK486.out 1).trans rfl⟩ (fun hHeld => ?_)
    clear hK K
    refine norm_ (a' := ?_) ?_ ?_
    (rotate_left; ·(show Act.put _ (some 24) _ = _; simp only [Act.put, pq_z5]; rfl))
    refine one_ (i := 3) (N := some 26) #[true, true, true, true, true, false] rfl rfl (by kernel_rfl) (by decide) (fun K hK => ?_)
    refine goes_ Try.func7 (by kernel_rfl) rfl #[.slice Ao22 t487.length co22, .agg #[.slice Ao15 t480.length co15, .slice Ao17 t483.length co17]] (by rfl) rfl rfl (by (try simp only [List.map_toArray, List.map_cons, List.map_nil]); first | done | rfl | (simp only [List.length_drop, List.length_take]; rfl)) ?_
    with_reducible refine (spec_A8Rule.calls _ _ t487 _ _ t480 _ _ t483 t490 t491 t492 t493 _ ?side1 ?side2 ?side3 ?side4 ?side5 ?side6 A5.out).mono ?_
    (case side1 => repeat (first | exact (Kd.R_reads' HO489.out).2.2 | (with_reducible refine Kd.C_alloc ?_ _) | (with_reducible refine Kd.C_drewN ?_ _) | (with_reducible refine Kd.C_drew ?_)))
    (case side2 => exact (Kd.R_reads' HO489.out).2.1)
    (case side3 => repeat (first | exact (Kd.R_reads' HO482.out).2.2 | (with_reducible refine Kd.C_alloc ?_ _) | (with_reducible refine Kd.C_drewN ?_ _) | (with_reducible refine Kd.C_drew ?_)))
    (case side4 => exact (Kd.R_reads' HO482.out).2.1)
    (case side5 => repeat (first | exact (Kd.S_reads' HO485.out).2.2 | (with_reducible refine Kd.C_alloc ?_ _) | (with_reducible refine Kd.C_drewN ?_ _) | (with_reducible refine Kd.C_drew ?_)))
    (case side6 => exact (Kd.S_reads' HO485.out).2.1)
    rintro e w23 ⟨rfl, hb⟩
    refine ⟨_, rfl, ?_⟩
    have n0_ := Aside0.mk (Kd.R_below (by (with_reducible repeat (first | apply Kd.R_alloc | apply Kd.R_drewN | apply Kd.R_drew)); exact HO482.out) hb)
    have n1_ := Aside0.mk (Kd.S_below (by (with_reducible repeat (first | apply Kd.S_alloc | apply Kd.S_drewN | apply Kd.S_drew)); exact HO485.out) hb)
    have n2_ := Aside0.mk (Kd.R_below (by (with_reducible repeat (first | apply Kd.R_alloc | apply Kd.R_drewN | apply Kd.R_drew)); exact HO489.out) hb)
    have n3_ := Aside0.mk (blk_below (g := gb486) (o := .cells #[.slice Ao15 t480.length co15, .slice Ao17 t483.length co17] 26 (0, 0)) (by (with_reducible repeat first | apply blk_drewN | apply blk_drew | apply blk_alloc); exact BK486.out) hb)
    have n4_ := Aside0.mk (blk_below (g := gb494) (o := .cells #[.int .i64 0, .int .i64 0, .int .i64 0, .bool false] 29 (0, 0)) (by (with_reducible repeat first | apply blk_drewN | apply blk_drew | apply blk_alloc); exact BK494.out) hb)
    have n5_ := Aside0.mk (below_step (by repeat (first | (with_reducible first | exact HB.out | apply below_alloc | apply pw_below_drewN | apply below_drew1 | refine below_set ?_ GE486.out | refine below_set ?_ GE494.out) | exact HB.out)) hb)
    clear HO482
    clear HO485
    clear HO489
    clear BK486
    clear BK494
    clear HB
    have HO482 := n0_
    have HO485 := n1_
    have HO489 := n2_
    have BK486 := n3_
    have BK494 := n4_
    have HB := n5_
    clear n0_ n1_ n2_ n3_ n4_ n5_
    (try clear hb)
    (try clear hb2)
    (try clear hk)
    (try clear hi)
    refine hK.out _ _ ⟨(blk_cell BK486.out 0).trans rfl, (blk_cell BK486.out 1).trans rfl⟩ (fun hHeld => ?_)
    clear hK K
    refine norm_ (a' := ?_) ?_ ?_
    (rotate_left; ·(show Act.put _ (some 26) _ = _; simp only [Act.put, pq_z5]; rfl))
    exact norm_ (by simp only [putAll, Act.put, List.setIfInBounds_toArray, List.set_cons_zero, List.set_cons_succ]) (hCont (.slice Ao22 t487.length co22, gb494) _ ⟨hHeld, (by (with_reducible repeat (first | apply Kd.R_alloc | apply Kd.R_drewN | apply Kd.R_drew)); exact HO482.out), (by (with_reducible repeat (first | apply Kd.S_alloc | apply Kd.S_drewN | apply Kd.S_drew)); exact HO485.out), (by (with_reducible repeat (first | apply Kd.R_alloc | apply Kd.R_drewN | apply Kd.R_drew)); exact HO489.out), (by (with_reducible repeat first | apply blk_drewN | apply blk_drew | apply blk_alloc); exact BK486.out), (by (with_reducible repeat first | apply blk_drewN | apply blk_drew | apply blk_alloc); exact BK494.out), GW494.out, GE494.out, NB486_494.out, NB494_486.out, (by repeat (first | (with_reducible first | exact HB.out | apply below_alloc | apply pw_below_drewN | apply below_drew1 | refine below_set ?_ GE486.out | refine below_set ?_ GE494.out) | exact HB.out))⟩)
  rintro ⟨v488, gb494⟩ w24 ⟨hS_, h0_, h1_, h2_, h3_, h4_, h5_, h6_, h7_, h8_, h9_⟩
  have n0_ : Aside0 (Kd.R k34 34 w24 w.heap.size (fun _ => True) (.slice Ao15 t480.length co15) t480) := ⟨h0_⟩
  have n1_ : Aside0 (Kd.S k70 70 w24 w.heap.size (fun _ => True) (.slice Ao17 t483.length co17) t483) := ⟨h1_⟩
  have n2_ : Aside0 (Kd.R (Kd.int .u8) 5 w24 w.heap.size (fun _ => True) v488 t487) := ⟨h2_⟩
  have n3_ : Aside0 (w24.heap[gb486]? = some (.cells #[.slice Ao15 t480.length co15, .slice Ao17 t483.length co17] 26 (0, 0))) := ⟨h3_⟩
  have n4_ : Aside0 (w24.heap[gb494]? = some (.cells #[.int .i64 0, .int .i64 0, .int .i64 0, .bool false] 29 (0, 0))) := ⟨h4_⟩
  have n5_ : Aside0 (w.heap.size ≤ gb494) := ⟨h5_⟩
  have n6_ : Aside0 (w.heap.size ≤ gb494) := ⟨h6_⟩
  have n7_ : Aside0 (gb486 ≠ gb494) := ⟨h7_⟩
  have n8_ : Aside0 (gb494 ≠ gb486) := ⟨h8_⟩
  have n9_ : Aside0 (Below w.heap.size w w24) := ⟨h9_⟩
  clear HO482
  clear HO485
  clear BK486
  clear HB
  clear h0_ h1_ h2_ h3_ h4_ h5_ h6_ h7_ h8_ h9_
  have HO482 := n0_
  have HO485 := n1_
  have HO489 := n2_
  have BK486 := n3_
  have BK494 := n4_
  have GW494 := n5_
  have GE494 := n6_
  have NB486_494 := n7_
  have NB494_486 := n8_
  have HB := n9_
  clear n0_ n1_ n2_ n3_ n4_ n5_ n6_ n7_ n8_ n9_
  have hHeld : w24.cell? ⟨gb486, 0, none⟩ = some (.slice Ao15 t480.length co15) ∧ w24.cell? ⟨gb486, 1, none⟩ = some (.slice Ao17 t483.length co17) := hS_
  refine norm_ (a' := ?_) ?_ ?_
  rotate_left
  ·simp only [putAll, Act.put, List.setIfInBounds_toArray, List.set_cons_zero, List.set_cons_succ]
   rfl
  refine one_ (i := 5) (N := none) #[true, true, true, true, true, true] rfl rfl (by kernel_rfl) (by decide) (fun K hK => ?_)
  have hs25 : w24.cell? ⟨gb494, 0, none⟩ = some (.int .i64 0) := (blk_cell BK494.out 0).trans rfl
  have hfs25 := blk_frozen BK494.out 0
  have hns25_0 := NB486_494.out
  have hms25_0 := NB494_486.out
  have hs26 : w24.cell? ⟨gb494, 1, none⟩ = some (.int .i64 0) := (blk_cell BK494.out 1).trans rfl
  have hfs26 := blk_frozen BK494.out 1
  have hns26_0 := NB486_494.out
  have hms26_0 := NB494_486.out
  have hs27 : w24.cell? ⟨gb494, 2, none⟩ = some (.int .i64 0) := (blk_cell BK494.out 2).trans rfl
  have hfs27 := blk_frozen BK494.out 2
  have hns27_0 := NB486_494.out
  have hms27_0 := NB494_486.out
  have hs28 : w24.cell? ⟨gb494, 3, none⟩ = some (.bool false) := (blk_cell BK494.out 3).trans rfl
  have hfs28 := blk_frozen BK494.out 3
  have hns28_0 := NB486_494.out
  have hms28_0 := NB494_486.out
  refine skip_ (w1 := ?_) (by rfl) rfl ?_ ?_
  rotate_left
  ·go_simp
   rfl
  refine hK.out _ _ ⟨((cell_far (p := ⟨gb494, _, none⟩) NB486_494.out _).trans (((cell_far (p := ⟨gb494, _, none⟩) NB486_494.out _).trans (((cell_far (p := ⟨gb494, _, none⟩) NB486_494.out _).trans (((cell_far (p := ⟨gb494, _, none⟩) NB486_494.out _).trans (hHeld.1)))))))), ((cell_far (p := ⟨gb494, _, none⟩) NB486_494.out _).trans (((cell_far (p := ⟨gb494, _, none⟩) NB486_494.out _).trans (((cell_far (p := ⟨gb494, _, none⟩) NB486_494.out _).trans (((cell_far (p := ⟨gb494, _, none⟩) NB486_494.out _).trans (hHeld.2))))))))⟩ (fun hHeld => ?_)
  clear hK K
  refine done_ (by kernel_rfl) ?_
  try go_wp2_with (first | ((with_reducible refine gate_callee (f := 9) rfl ?_); refine goesL_ (some 28) rfl rfl Try.func9 (by kernel_rfl) rfl #[.slice A0 l0.length c0, .int .i64 0, .int .i64 8] rfl (by (try simp only [List.map_toArray, List.map_cons, List.map_nil]); first | done | rfl | (simp only [List.length_drop, List.length_take]; rfl)) ?_; (with_reducible refine (laws_a8At.calls _ _ l0 0 8 t495 _ ?side1 ?side2 A6.out).mono ?_); (case side1 => exact Kd.C_below HR0.out (by repeat (first | (with_reducible first | exact HB.out | apply below_alloc | apply pw_below_drewN | apply below_drew1 | refine below_set ?_ GE486.out | refine below_set ?_ GE494.out) | exact HB.out))); (case side2 => exact HC0.out); rintro e w' ⟨rfl, ⟨nd, rfl⟩⟩; refine ⟨_, rfl, ?_⟩) | ((with_reducible refine gate_callee (f := 9) rfl ?_); refine goesL_ (some 31) rfl rfl Try.func9 (by kernel_rfl) rfl #[.slice A0 l0.length c0, .int .i64 1, .int .i64 4] rfl (by (try simp only [List.map_toArray, List.map_cons, List.map_nil]); first | done | rfl | (simp only [List.length_drop, List.length_take]; rfl)) ?_; (with_reducible refine (laws_a8At.calls _ _ l0 1 4 t496 _ ?side1 ?side2 A7.out).mono ?_); (case side1 => exact Kd.C_below HR0.out (by repeat (first | (with_reducible first | exact HB.out | apply below_alloc | apply pw_below_drewN | apply below_drew1 | refine below_set ?_ GE486.out | refine below_set ?_ GE494.out) | exact HB.out))); (case side2 => exact HC0.out); rintro e w' ⟨rfl, ⟨nd, rfl⟩⟩; refine ⟨_, rfl, ?_⟩) | ((with_reducible refine gate_callee (f := 15) rfl ?_); refine goesL_ (some 32) rfl rfl Try.func15 (by kernel_rfl) rfl #[.slice A0 l0.length c0, .int .i64 t496, .int .i64 12] rfl (by (try simp only [List.map_toArray, List.map_cons, List.map_nil]); first | done | rfl | (simp only [List.length_drop, List.length_take]; rfl)) ?_; (with_reducible refine (laws_a8Places.calls k _ _ l0 t496 12 t497 _ ?side1 ?side2 A8.out).mono ?_); (case side1 => exact Kd.C_below HR0.out (by repeat (first | (with_reducible first | exact HB.out | apply below_alloc | apply pw_below_drewN | apply below_drew1 | refine below_set ?_ GE486.out | refine below_set ?_ GE494.out) | exact HB.out))); (case side2 => exact HC0.out); rintro e w29 ⟨v498, rfl, ho0, hb⟩; refine ⟨_, rfl, ?_⟩; have n0_ := Aside0.mk (Kd.R_below (by (with_reducible repeat (first | apply Kd.R_alloc | apply Kd.R_drewN | apply Kd.R_drew)); exact (Kd.R_mono (Kd.R_far (p := ⟨gb494, 3, none⟩) (Kd.R_far (p := ⟨gb494, 2, none⟩) (Kd.R_far (p := ⟨gb494, 1, none⟩) (Kd.R_far (p := ⟨gb494, 0, none⟩) (Kd.R_types HO482.out BK494.out (by decide)) (fun _ hk => hk.2) (.int .i64 t490)) (fun _ hk => hk.2) (.int .i64 t491)) (fun _ hk => hk.2) (.int .i64 t492)) (fun _ hk => hk.2) (.bool t493)) (fun _ h_ => h_.1))) hb); have n1_ := Aside0.mk (Kd.S_elder' (by (with_reducible repeat (first | apply Kd.S_alloc | apply Kd.S_drewN | apply Kd.S_drew)); exact (Kd.S_mono (Kd.S_far (p := ⟨gb494, 3, none⟩) (Kd.S_far (p := ⟨gb494, 2, none⟩) (Kd.S_far (p := ⟨gb494, 1, none⟩) (Kd.S_far (p := ⟨gb494, 0, none⟩) (Kd.S_types HO485.out BK494.out (by decide)) (fun _ hk => hk.2) (.int .i64 t490)) (fun _ hk => hk.2) (.int .i64 t491)) (fun _ hk => hk.2) (.int .i64 t492)) (fun _ hk => hk.2) (.bool t493)) (fun _ h_ => h_.1))) (Kd.R_base ho0) hb); have n2_ := Aside0.mk (Kd.R_below (by (with_reducible repeat (first | apply Kd.R_alloc | apply Kd.R_drewN | apply Kd.R_drew)); exact (Kd.R_mono (Kd.R_far (p := ⟨gb494, 3, none⟩) (Kd.R_far (p := ⟨gb494, 2, none⟩) (Kd.R_far (p := ⟨gb494, 1, none⟩) (Kd.R_far (p := ⟨gb494, 0, none⟩) (Kd.R_types HO489.out BK494.out (by decide)) (fun _ hk => hk.2) (.int .i64 t490)) (fun _ hk => hk.2) (.int .i64 t491)) (fun _ hk => hk.2) (.int .i64 t492)) (fun _ hk => hk.2) (.bool t493)) (fun _ h_ => h_.1))) hb); have n3_ := Aside0.mk (Kd.R_lower ho0 (below_size (by repeat (first | (with_reducible first | exact HB.out | apply below_alloc | apply pw_below_drewN | apply below_drew1 | refine below_set ?_ GE486.out | refine below_set ?_ GE494.out) | exact HB.out)))); have n4_ := Aside0.mk (blk_below (g := gb486) (o := .cells #[.slice Ao15 t480.length co15, .slice Ao17 t483.length co17] 26 (0, 0)) (by (with_reducible repeat first | apply blk_drewN | apply blk_drew | apply blk_alloc); refine blk_far ?_ NB486_494.out _; (with_reducible repeat first | apply blk_drewN | apply blk_drew | apply blk_alloc); refine blk_far ?_ NB486_494.out _; (with_reducible repeat first | apply blk_drewN | apply blk_drew | apply blk_alloc); refine blk_far ?_ NB486_494.out _; (with_reducible repeat first | apply blk_drewN | apply blk_drew | apply blk_alloc); refine blk_far ?_ NB486_494.out _; (with_reducible repeat first | apply blk_drewN | apply blk_drew | apply blk_alloc); exact BK486.out) hb); have n5_ := Aside0.mk (blk_below (g := gb494) (o := .cells #[.int .i64 t490, .int .i64 t491, .int .i64 t492, .bool t493] 29 (0, 0)) (by (with_reducible repeat first | apply blk_drewN | apply blk_drew | apply blk_alloc); refine blk_put (cs := #[.int .i64 t490, .int .i64 t491, .int .i64 t492, .bool false]) ?_ 3 _ rfl; (with_reducible repeat first | apply blk_drewN | apply blk_drew | apply blk_alloc); refine blk_put (cs := #[.int .i64 t490, .int .i64 t491, .int .i64 0, .bool false]) ?_ 2 _ rfl; (with_reducible repeat first | apply blk_drewN | apply blk_drew | apply blk_alloc); refine blk_put (cs := #[.int .i64 t490, .int .i64 0, .int .i64 0, .bool false]) ?_ 1 _ rfl; (with_reducible repeat first | apply blk_drewN | apply blk_drew | apply blk_alloc); refine blk_put (cs := #[.int .i64 0, .int .i64 0, .int .i64 0, .bool false]) ?_ 0 _ rfl; (with_reducible repeat first | apply blk_drewN | apply blk_drew | apply blk_alloc); exact BK494.out) hb); have n6_ := Aside0.mk (below_step (by repeat (first | (with_reducible first | exact HB.out | apply below_alloc | apply pw_below_drewN | apply below_drew1 | refine below_set ?_ GE486.out | refine below_set ?_ GE494.out) | exact HB.out)) hb); clear HO482; clear HO485; clear HO489; clear BK486; clear BK494; clear HB; have HO482 := n0_; have HO485 := n1_; have HO489 := n2_; have HO499 := n3_; have BK486 := n4_; have BK494 := n5_; have HB := n6_; clear n0_ n1_ n2_ n3_ n4_ n5_ n6_; (try clear hb); (try clear hb2); (try clear hk); (try clear hi); (try clear ho0)))
  have n0_ := Aside0.mk (Kd.R_drew HO482.out)
  have n1_ := Aside0.mk (Kd.S_drew HO485.out)
  have n2_ := Aside0.mk (Kd.R_drew HO489.out)
  have n3_ := Aside0.mk (Kd.R_drew HO499.out)
  have n4_ := Aside0.mk (blk_drew BK486.out)
  have n5_ := Aside0.mk (blk_drew BK494.out)
  have n6_ := Aside0.mk (below_drew1 HB.out)
  clear HO482
  clear HO485
  clear HO489
  clear HO499
  clear BK486
  clear BK494
  clear HB
  have HO482 := n0_
  have HO485 := n1_
  have HO489 := n2_
  have HO499 := n3_
  have BK486 := n4_
  have BK494 := n5_
  have HB := n6_
  clear n0_ n1_ n2_ n3_ n4_ n5_ n6_
  refine start_ (n := 12) (S := fun w' => w'.cell? ⟨gb486, 0, none⟩ = some (.slice Ao15 t480.length co15) ∧ w'.cell? ⟨gb486, 1, none⟩ = some (.slice Ao17 t483.length co17) ∧ w'.cell? ⟨gb494, 0, none⟩ = some (.int .i64 t490) ∧ w'.cell? ⟨gb494, 1, none⟩ = some (.int .i64 t491) ∧ w'.cell? ⟨gb494, 2, none⟩ = some (.int .i64 t492) ∧ w'.cell? ⟨gb494, 3, none⟩ = some (.bool t493)) (ds := []) mz5_0 (by kernel_rfl) rfl rfl ⟨(blk_cell BK486.out 0).trans rfl, (blk_cell BK486.out 1).trans rfl, (blk_cell BK494.out 0).trans rfl, (blk_cell BK494.out 1).trans rfl, (blk_cell BK494.out 2).trans rfl, (blk_cell BK494.out 3).trans rfl⟩ (fun hHeld => ?_); refine with_tabW laws_FnApart.tab7 laws_FnApart.bits7 (fun HT_ HW_ => ?_)
  generalize w29.drew = w30 at HO482 HO485 HO489 HO499 BK486 BK494 HB hHeld ⊢
  refine pu_z5 2 (some 36) ?_ mz5_1 rfl rfl (any_of HT_.out (by kernel_rfl)) (fun _ _ _ h => h) (Or.inl ⟨by rfl, ?_⟩) ?_ ?_ ?_
  (rotate_left; ·(intro w'; go_simp; with_reducible rfl)); (rotate_left; ·(simp only [Act.put, pq_z5]; rfl))
  refine pu_z5 4 (some 38) ?_ mz5_2 rfl rfl (any_of HT_.out (by kernel_rfl)) (fun _ _ _ h => h) (Or.inl ⟨by rfl, ?_⟩) ?_ ?_ ?_
  (rotate_left; ·(intro w'; go_simp; with_reducible rfl)); (rotate_left; ·(simp only [Act.put, pq_z5]; rfl))
  refine pu_z5 5 (some 39) ?_ mz5_3 rfl rfl (any_of HT_.out (by kernel_rfl)) (fun _ _ _ h => h) (Or.inl ⟨by rfl, ?_⟩) ?_ ?_ ?_
  (rotate_left; ·(intro w'; go_simp; with_reducible rfl)); (rotate_left; ·(simp only [Act.put, pq_z5]; rfl))
  refine take_ (i := 0) (N := some 34) (v := ?_) (a' := ?_) mz5_4 rfl rfl (take_ofW HT_.out HW_.out (by kernel_rfl)) (fun _ _ _ h => h) (Or.inl ⟨by rfl, ?_⟩) hHeld ?_ ?_
  (rotate_left; ·(rintro w' ⟨s0, s1, s2, s3, s4, s5⟩; go_simp; with_reducible rfl)); (rotate_left; ·(simp only [Act.put, pq_z5]; rfl))
  refine take_ (i := 1) (N := some 35) (v := ?_) (a' := ?_) mz5_5 rfl rfl (take_ofW HT_.out HW_.out (by kernel_rfl)) (fun _ _ _ h => h) (Or.inl ⟨by rfl, ?_⟩) hHeld ?_ ?_
  (rotate_left; ·(rintro w' ⟨s0, s1, s2, s3, s4, s5⟩; go_simp; with_reducible rfl)); (rotate_left; ·(simp only [Act.put, pq_z5]; rfl))
  refine one_ (i := 3) (N := some 37) mz5_6 rfl rfl (one_of HT_.out (by kernel_rfl)) (by decide) (fun K hK => ?_)
  refine goes_ Try.func10 (by kernel_rfl) rfl #[.slice A0 l0.length c0] (by rfl) rfl rfl (by (try simp only [List.map_toArray, List.map_cons, List.map_nil]); first | done | rfl | (simp only [List.length_drop, List.length_take]; rfl)) ?_
  with_reducible refine (spec_A8Number.calls k _ _ l0 t500 _ ?side1 ?side2 A9.out).mono ?_
  (case side1 => repeat (first | exact (Kd.C_below HR0.out HB.out) | (with_reducible refine Kd.C_alloc ?_ _) | (with_reducible refine Kd.C_drewN ?_ _) | (with_reducible refine Kd.C_drew ?_)))
  (case side2 => exact HC0.out)
  rintro e w31 ⟨rfl, hb⟩
  refine ⟨_, rfl, ?_⟩
  have n0_ := Aside0.mk (Kd.R_below (by (with_reducible repeat (first | apply Kd.R_alloc | apply Kd.R_drewN | apply Kd.R_drew)); exact HO482.out) hb)
  have n1_ := Aside0.mk (Kd.S_below (by (with_reducible repeat (first | apply Kd.S_alloc | apply Kd.S_drewN | apply Kd.S_drew)); exact HO485.out) hb)
  have n2_ := Aside0.mk (Kd.R_below (by (with_reducible repeat (first | apply Kd.R_alloc | apply Kd.R_drewN | apply Kd.R_drew)); exact HO489.out) hb)
  have n3_ := Aside0.mk (Kd.R_below (by (with_reducible repeat (first | apply Kd.R_alloc | apply Kd.R_drewN | apply Kd.R_drew)); exact HO499.out) hb)
  have n4_ := Aside0.mk (blk_below (g := gb486) (o := .cells #[.slice Ao15 t480.length co15, .slice Ao17 t483.length co17] 26 (0, 0)) (by (with_reducible repeat first | apply blk_drewN | apply blk_drew | apply blk_alloc); exact BK486.out) hb)
  have n5_ := Aside0.mk (blk_below (g := gb494) (o := .cells #[.int .i64 t490, .int .i64 t491, .int .i64 t492, .bool t493] 29 (0, 0)) (by (with_reducible repeat first | apply blk_drewN | apply blk_drew | apply blk_alloc); exact BK494.out) hb)
  have n6_ := Aside0.mk (below_step (by repeat (first | (with_reducible first | exact HB.out | apply below_alloc | apply pw_below_drewN | apply below_drew1 | refine below_set ?_ GE486.out | refine below_set ?_ GE494.out) | exact HB.out)) hb)
  clear HO482
  clear HO485
  clear HO489
  clear HO499
  clear BK486
  clear BK494
  clear HB
  have HO482 := n0_
  have HO485 := n1_
  have HO489 := n2_
  have HO499 := n3_
  have BK486 := n4_
  have BK494 := n5_
  have HB := n6_
  clear n0_ n1_ n2_ n3_ n4_ n5_ n6_
  (try clear hb)
  (try clear hb2)
  (try clear hk)
  (try clear hi)
  obtain ⟨Ao32, co32, eo32⟩ := Kd.R_slice HO499.out
  (first | subst eo32 | (injection eo32 with f1_ f2_ f3_; have f4_ := f1_.symm; have f5_ := f3_.symm; clear f1_ f2_ f3_; subst f4_; subst f5_))
  refine hK.out _ _ ⟨(blk_cell BK486.out 0).trans rfl, (blk_cell BK486.out 1).trans rfl, (blk_cell BK494.out 0).trans rfl, (blk_cell BK494.out 1).trans rfl, (blk_cell BK494.out 2).trans rfl, (blk_cell BK494.out 3).trans rfl⟩ (fun hHeld => ?_)
  clear hK K
  refine norm_ (a' := ?_) ?_ ?_
  (rotate_left; ·(show Act.put _ (some 37) _ = _; simp only [Act.put, pq_z5]; rfl))
  refine one_ (i := 6) (N := some 40) mz5_7 rfl rfl (one_of HT_.out (by kernel_rfl)) (by decide) (fun K hK => ?_)
  refine goes_ Try.func11 (by kernel_rfl) rfl #[.agg #[.slice Ao15 t480.length co15, .slice Ao17 t483.length co17], .agg #[.int .i64 t490, .int .i64 t491, .int .i64 t492, .bool t493], .int .i64 t500, .int .i64 t495, .slice Ao32 t497.length co32] (by rfl) rfl rfl (by (try simp only [List.map_toArray, List.map_cons, List.map_nil]); first | done | rfl | (simp only [List.length_drop, List.length_take]; rfl)) ?_
  with_reducible refine (impl_Place.calls k _ _ t480 _ _ t483 t490 t491 t492 t493 t500 t495 _ _ t497 t501 t504 _ ?side1 ?side2 ?side3 ?side4 ?side5 ?side6 A10.out).mono ?_
  (case side1 => repeat (first | exact (Kd.R_reads' HO482.out).2.2 | (with_reducible refine Kd.C_alloc ?_ _) | (with_reducible refine Kd.C_drewN ?_ _) | (with_reducible refine Kd.C_drew ?_)))
  (case side2 => exact (Kd.R_reads' HO482.out).2.1)
  (case side3 => repeat (first | exact (Kd.S_reads' HO485.out).2.2 | (with_reducible refine Kd.C_alloc ?_ _) | (with_reducible refine Kd.C_drewN ?_ _) | (with_reducible refine Kd.C_drew ?_)))
  (case side4 => exact (Kd.S_reads' HO485.out).2.1)
  (case side5 => repeat (first | exact (Kd.R_reads' HO499.out).2.2 | (with_reducible refine Kd.C_alloc ?_ _) | (with_reducible refine Kd.C_drewN ?_ _) | (with_reducible refine Kd.C_drew ?_)))
  (case side6 => exact (Kd.R_reads' HO499.out).2.1)
  rintro e w33 ⟨v502, rfl, ho0, hb⟩
  refine ⟨_, rfl, ?_⟩
  have n0_ := Aside0.mk (Kd.R_below (by (with_reducible repeat (first | apply Kd.R_alloc | apply Kd.R_drewN | apply Kd.R_drew)); exact HO482.out) hb)
  have n1_ := Aside0.mk (Kd.S_elder' (by (with_reducible repeat (first | apply Kd.S_alloc | apply Kd.S_drewN | apply Kd.S_drew)); exact HO485.out) (Kd.R_base ho0) hb)
  have n2_ := Aside0.mk (Kd.R_below (by (with_reducible repeat (first | apply Kd.R_alloc | apply Kd.R_drewN | apply Kd.R_drew)); exact HO489.out) hb)
  have n3_ := Aside0.mk (Kd.R_elder' (by (with_reducible repeat (first | apply Kd.R_alloc | apply Kd.R_drewN | apply Kd.R_drew)); exact HO499.out) (Kd.R_base ho0) hb)
  have n4_ := Aside0.mk (Kd.R_lower (Kd.R_new' ho0 (Kd.R_lt (by (with_reducible repeat (first | apply Kd.R_alloc | apply Kd.R_drewN | apply Kd.R_drew)); exact HO499.out))) (below_size (by repeat (first | (with_reducible first | exact HB.out | apply below_alloc | apply pw_below_drewN | apply below_drew1 | refine below_set ?_ GE486.out | refine below_set ?_ GE494.out) | exact HB.out))))
  have n5_ := Aside0.mk (blk_below (g := gb486) (o := .cells #[.slice Ao15 t480.length co15, .slice Ao17 t483.length co17] 26 (0, 0)) (by (with_reducible repeat first | apply blk_drewN | apply blk_drew | apply blk_alloc); exact BK486.out) hb)
  have n6_ := Aside0.mk (blk_below (g := gb494) (o := .cells #[.int .i64 t490, .int .i64 t491, .int .i64 t492, .bool t493] 29 (0, 0)) (by (with_reducible repeat first | apply blk_drewN | apply blk_drew | apply blk_alloc); exact BK494.out) hb)
  have n7_ := Aside0.mk (below_step (by repeat (first | (with_reducible first | exact HB.out | apply below_alloc | apply pw_below_drewN | apply below_drew1 | refine below_set ?_ GE486.out | refine below_set ?_ GE494.out) | exact HB.out)) hb)
  clear HO482
  clear HO485
  clear HO489
  clear HO499
  clear BK486
  clear BK494
  clear HB
  have HO482 := n0_
  have HO485 := n1_
  have HO489 := n2_
  have HO499 := n3_
  have HO503 := n4_
  have BK486 := n5_
  have BK494 := n6_
  have HB := n7_
  clear n0_ n1_ n2_ n3_ n4_ n5_ n6_ n7_
  (try clear hb)
  (try clear hb2)
  (try clear hk)
  (try clear hi)
  (try clear ho0)
  refine hK.out _ _ ⟨(blk_cell BK486.out 0).trans rfl, (blk_cell BK486.out 1).trans rfl, (blk_cell BK494.out 0).trans rfl, (blk_cell BK494.out 1).trans rfl, (blk_cell BK494.out 2).trans rfl, (blk_cell BK494.out 3).trans rfl⟩ (fun hHeld => ?_)
  clear hK K
  refine norm_ (a' := ?_) ?_ ?_
  (rotate_left; ·(show Act.put _ (some 40) _ = _; simp only [Act.put, pq_z5]; rfl))
  refine pu_z5 7 (some 33) ?_ mz5_8 rfl rfl (any_of HT_.out (by kernel_rfl)) (fun _ _ _ h => h) (Or.inl ⟨by rfl, ?_⟩) ?_ ?_ ?_
  (rotate_left; ·(intro w'; go_simp; with_reducible rfl)); (rotate_left; ·(simp only [Act.put, pq_z5]; rfl))
  refine pu_z5 8 (some 41) ?_ mz5_9 rfl rfl (any_of HT_.out (by kernel_rfl)) (fun _ _ _ h => h) (Or.inl ⟨by rfl, ?_⟩) ?_ ?_ ?_
  (rotate_left; ·(intro w'; go_simp; with_reducible rfl)); (rotate_left; ·(simp only [Act.put, pq_z5]; rfl))
  refine pu_z5 9 (some 42) ?_ mz5_10 rfl rfl (any_of HT_.out (by kernel_rfl)) (fun _ _ _ h => h) (Or.inl ⟨by rfl, ?_⟩) ?_ ?_ ?_
  (rotate_left; ·(intro w'; go_simp; with_reducible rfl)); (rotate_left; ·(simp only [Act.put, pq_z5]; rfl))
  refine pu_z5 10 (some 7) ?_ mz5_11 rfl rfl (any_of HT_.out (by kernel_rfl)) (fun _ _ _ h => h) (Or.inl ⟨by rfl, ?_⟩) ?_ ?_ ?_
  (rotate_left; ·(intro w'; go_simp; with_reducible rfl)); (rotate_left; ·(simp only [Act.put, pq_z5]; rfl))
  refine pu_z5 11 (some 8) ?_ mz5_12 rfl rfl (any_of HT_.out (by kernel_rfl)) (fun _ _ _ h => h) (Or.inl ⟨by rfl, ?_⟩) ?_ ?_ ?_
  (rotate_left; ·(intro w'; go_simp; with_reducible rfl)); (rotate_left; ·(simp only [Act.put, pq_z5]; rfl))
  refine done_ (done_of HT_.out (by kernel_rfl)) ?_
  have hnb34 := NB486_494.out
  have hnc34 := NB494_486.out
  have hcz35_0 : w33.cell? ⟨gb486, 0, none⟩ = some (.slice Ao15 t480.length co15) := (blk_cell BK486.out 0).trans rfl
  have hcz35_1 : w33.cell? ⟨gb486, 1, none⟩ = some (.slice Ao17 t483.length co17) := (blk_cell BK486.out 1).trans rfl
  have hfz35_0 := blk_frozen BK486.out 0
  have hfz35_1 := blk_frozen BK486.out 1
  have hcz36_0 : w33.cell? ⟨gb494, 0, none⟩ = some (.int .i64 t490) := (blk_cell BK494.out 0).trans rfl
  have hcz36_1 : w33.cell? ⟨gb494, 1, none⟩ = some (.int .i64 t491) := (blk_cell BK494.out 1).trans rfl
  have hcz36_2 : w33.cell? ⟨gb494, 2, none⟩ = some (.int .i64 t492) := (blk_cell BK494.out 2).trans rfl
  have hcz36_3 : w33.cell? ⟨gb494, 3, none⟩ = some (.bool t493) := (blk_cell BK494.out 3).trans rfl
  have hfz36_0 := blk_frozen BK494.out 0
  have hfz36_1 := blk_frozen BK494.out 1
  have hfz36_2 := blk_frozen BK494.out 2
  have hfz36_3 := blk_frozen BK494.out 3
  go_upto_region 9 with (first | ((with_reducible refine gate_callee (f := 16) rfl ?_); refine goesL_ (some 47) rfl rfl Try.func16 (by kernel_rfl) rfl #[.agg #[.slice Ao15 t480.length co15, .slice Ao17 t483.length co17], .agg #[.int .i64 t490, .int .i64 t491, .int .i64 t492, .bool t493], .slice Ao32 t497.length co32] rfl (by (try simp only [List.map_toArray, List.map_cons, List.map_nil]); first | done | rfl | (simp only [List.length_drop, List.length_take]; rfl)) ?_; (with_reducible refine (impl_CanPlace.calls k _ _ t480 _ _ t483 t490 t491 t492 t493 _ _ t497 t505 t506 _ ?side1 ?side2 ?side3 ?side4 ?side5 ?side6 A11.out).mono ?_); (case side1 => repeat (first | exact (Kd.R_reads' HO482.out).2.2 | (with_reducible refine Kd.C_alloc ?_ _) | (with_reducible refine Kd.C_drewN ?_ _) | (with_reducible refine Kd.C_drew ?_))); (case side2 => exact (Kd.R_reads' HO482.out).2.1); (case side3 => repeat (first | exact (Kd.S_reads' HO485.out).2.2 | (with_reducible refine Kd.C_alloc ?_ _) | (with_reducible refine Kd.C_drewN ?_ _) | (with_reducible refine Kd.C_drew ?_))); (case side4 => exact (Kd.S_reads' HO485.out).2.1); (case side5 => repeat (first | exact (Kd.R_reads' HO499.out).2.2 | (with_reducible refine Kd.C_alloc ?_ _) | (with_reducible refine Kd.C_drewN ?_ _) | (with_reducible refine Kd.C_drew ?_))); (case side6 => exact (Kd.R_reads' HO499.out).2.1); rintro e w37 ⟨rfl, hb⟩; refine ⟨_, rfl, ?_⟩; have n0_ := Aside0.mk (Kd.R_below (by (with_reducible repeat (first | apply Kd.R_alloc | apply Kd.R_drewN | apply Kd.R_drew)); exact HO482.out) hb); have n1_ := Aside0.mk (Kd.S_below (by (with_reducible repeat (first | apply Kd.S_alloc | apply Kd.S_drewN | apply Kd.S_drew)); exact HO485.out) hb); have n2_ := Aside0.mk (Kd.R_below (by (with_reducible repeat (first | apply Kd.R_alloc | apply Kd.R_drewN | apply Kd.R_drew)); exact HO489.out) hb); have n3_ := Aside0.mk (Kd.R_below (by (with_reducible repeat (first | apply Kd.R_alloc | apply Kd.R_drewN | apply Kd.R_drew)); exact HO499.out) hb); have n4_ := Aside0.mk (Kd.R_below (by (with_reducible repeat (first | apply Kd.R_alloc | apply Kd.R_drewN | apply Kd.R_drew)); exact HO503.out) hb); have n5_ := Aside0.mk (blk_below (g := gb486) (o := .cells #[.slice Ao15 t480.length co15, .slice Ao17 t483.length co17] 26 (0, 0)) (by (with_reducible repeat first | apply blk_drewN | apply blk_drew | apply blk_alloc); exact BK486.out) hb); have n6_ := Aside0.mk (blk_below (g := gb494) (o := .cells #[.int .i64 t490, .int .i64 t491, .int .i64 t492, .bool t493] 29 (0, 0)) (by (with_reducible repeat first | apply blk_drewN | apply blk_drew | apply blk_alloc); exact BK494.out) hb); have n7_ := Aside0.mk (below_step (by repeat (first | (with_reducible first | exact HB.out | apply below_alloc | apply pw_below_drewN | apply below_drew1 | refine below_set ?_ GE486.out | refine below_set ?_ GE494.out) | exact HB.out)) hb); clear HO482; clear HO485; clear HO489; clear HO499; clear HO503; clear BK486; clear BK494; clear HB; have HO482 := n0_; have HO485 := n1_; have HO489 := n2_; have HO499 := n3_; have HO503 := n4_; have BK486 := n5_; have BK494 := n6_; have HB := n7_; clear n0_ n1_ n2_ n3_ n4_ n5_ n6_ n7_; (try clear hb); (try clear hb2); (try clear hk); (try clear hi)))
  (try simp only [Act.put, List.setIfInBounds_toArray, List.set_cons_zero, List.set_cons_succ])
  go_cut [75] (fun v75 wc => ∃ (kq : Nat) (x75_11 : Bool), v75 = .bool x75_11 ∧ Aside0 (laws_FnApart.j0 kq t497 t501 t505 x75_11 t480 t483 t490 t491 t492 t493 = some r) ∧ Aside0 (kq ≤ k) ∧ Aside0 (Kd.R (Kd.int .i64) 2 wc w.heap.size (fun k_ => some k_ ≠ (v502 : Value).ownBlock) (.slice Ao32 t497.length co32) t497) ∧ Aside0 (Kd.R (Kd.int .i64) 2 wc w.heap.size (fun k_ => some k_ ≠ ((.slice Ao32 t497.length co32) : Value).ownBlock) v502 t501) ∧ Aside0 (Kd.R k34 34 wc w.heap.size (fun _ => True) (.slice Ao15 t480.length co15) t480) ∧ Aside0 (Kd.S k70 70 wc w.heap.size (fun k_ => some k_ ≠ ((.slice Ao32 t497.length co32) : Value).ownBlock ∧ some k_ ≠ (v502 : Value).ownBlock) (.slice Ao17 t483.length co17) t483) ∧ Aside0 (wc.heap[gb486]? = some (.cells #[(.slice Ao15 t480.length co15), (.slice Ao17 t483.length co17)] 26 (0, 0))) ∧ Aside0 (wc.heap[gb494]? = some (.cells #[.int .i64 t490, .int .i64 t491, .int .i64 t492, .bool t493] 29 (0, 0))) ∧ Aside0 (Below w.heap.size w wc))
  case first =>
   have H := HC12.out
   clear HC12
   by_cases c38 : t504 = true
   ·subst c38
    have H1 : (if t506 = true then (if (t501.length : Int) = t495 then ((impl_Apart.f k t480 t483 t492 t501).bind fun t507 => (if t507 = true then ((impl_RuleOk.f k t480 t483 t490 t491 t492 t493).bind fun t508 => (laws_FnApart.j0 k t497 t501 t505 (!t508) t480 t483 t490 t491 t492 t493)) else (none))) else (none)) else (none)) = some r := by rw [if_pos rfl] at H; exact H
    clear H
    have H := H1
    clear H1
    by_cases c39 : t506 = true
    ·subst c39
     have H1 : (if (t501.length : Int) = t495 then ((impl_Apart.f k t480 t483 t492 t501).bind fun t507 => (if t507 = true then ((impl_RuleOk.f k t480 t483 t490 t491 t492 t493).bind fun t508 => (laws_FnApart.j0 k t497 t501 t505 (!t508) t480 t483 t490 t491 t492 t493)) else (none))) else (none)) = some r := by rw [if_pos rfl] at H; exact H
     clear H
     have H := H1
     clear H1
     by_cases c40 : (t501.length : Int) = t495
     ·rw [if_pos c40] at H
      have c40b0 : ((t501.length : Int) == t495) = true := beq_iff_eq.mpr c40
      have c40b1 : ((t501.length : Int) != t495) = false := bne_eq_false_iff_eq.mpr c40
      clear c40
      (first | rw [c40b0] | (simp only [i64_w, i32_w]; rw [c40b0]) | skip)
      replace H := Option.bind_eq_some_iff.mp H
      obtain ⟨t507, A410, H⟩ := H
      replace H : (if t507 = true then ((impl_RuleOk.f k t480 t483 t490 t491 t492 t493).bind fun t508 => (laws_FnApart.j0 k t497 t501 t505 (!t508) t480 t483 t490 t491 t492 t493)) else (none)) = some r := H
      have A41 := Aside0.mk A410
      clear A410
      by_cases c42 : t507 = true
      ·subst c42
       have H1 : ((impl_RuleOk.f k t480 t483 t490 t491 t492 t493).bind fun t508 => (laws_FnApart.j0 k t497 t501 t505 (!t508) t480 t483 t490 t491 t492 t493)) = some r := by rw [if_pos rfl] at H; exact H
       clear H
       have H := H1
       clear H1
       replace H := Option.bind_eq_some_iff.mp H
       obtain ⟨t508, A430, H⟩ := H
       replace H : (laws_FnApart.j0 k t497 t501 t505 (!t508) t480 t483 t490 t491 t492 t493) = some r := H
       have A43 := Aside0.mk A430
       clear A430
       have H' := Aside0.mk H
       clear H
       obtain ⟨Ao44, co44, eo44⟩ := Kd.R_slice HO503.out
       subst eo44
       have hnb45 := NB486_494.out
       have hnc45 := NB494_486.out
       have hcz46_0 : w37.cell? ⟨gb486, 0, none⟩ = some (.slice Ao15 t480.length co15) := (blk_cell BK486.out 0).trans rfl
       have hcz46_1 : w37.cell? ⟨gb486, 1, none⟩ = some (.slice Ao17 t483.length co17) := (blk_cell BK486.out 1).trans rfl
       have hfz46_0 := blk_frozen BK486.out 0
       have hfz46_1 := blk_frozen BK486.out 1
       have hcz47_0 : w37.cell? ⟨gb494, 0, none⟩ = some (.int .i64 t490) := (blk_cell BK494.out 0).trans rfl
       have hcz47_1 : w37.cell? ⟨gb494, 1, none⟩ = some (.int .i64 t491) := (blk_cell BK494.out 1).trans rfl
       have hcz47_2 : w37.cell? ⟨gb494, 2, none⟩ = some (.int .i64 t492) := (blk_cell BK494.out 2).trans rfl
       have hcz47_3 : w37.cell? ⟨gb494, 3, none⟩ = some (.bool t493) := (blk_cell BK494.out 3).trans rfl
       have hfz47_0 := blk_frozen BK494.out 0
       have hfz47_1 := blk_frozen BK494.out 1
       have hfz47_2 := blk_frozen BK494.out 2
       have hfz47_3 := blk_frozen BK494.out 3
       go_wp2_with (first | (go_at_call 17; (with_reducible refine (impl_Apart.calls k _ _ t480 _ _ t483 t492 _ _ t501 true _ ?side1 ?side2 ?side3 ?side4 ?side5 ?side6 A41.out).mono ?_); (case side1 => repeat (first | exact (Kd.R_reads' HO482.out).2.2 | (with_reducible refine Kd.C_alloc ?_ _) | (with_reducible refine Kd.C_drewN ?_ _) | (with_reducible refine Kd.C_drew ?_))); (case side2 => exact (Kd.R_reads' HO482.out).2.1); (case side3 => repeat (first | exact (Kd.S_reads' HO485.out).2.2 | (with_reducible refine Kd.C_alloc ?_ _) | (with_reducible refine Kd.C_drewN ?_ _) | (with_reducible refine Kd.C_drew ?_))); (case side4 => exact (Kd.S_reads' HO485.out).2.1); (case side5 => repeat (first | exact (Kd.R_reads' HO503.out).2.2 | (with_reducible refine Kd.C_alloc ?_ _) | (with_reducible refine Kd.C_drewN ?_ _) | (with_reducible refine Kd.C_drew ?_))); (case side6 => exact (Kd.R_reads' HO503.out).2.1); rintro e w48 ⟨rfl, hb⟩; have n0_ := Aside0.mk (Kd.R_below (by (with_reducible repeat (first | apply Kd.R_alloc | apply Kd.R_drewN | apply Kd.R_drew)); exact HO482.out) hb); have n1_ := Aside0.mk (Kd.S_below (by (with_reducible repeat (first | apply Kd.S_alloc | apply Kd.S_drewN | apply Kd.S_drew)); exact HO485.out) hb); have n2_ := Aside0.mk (Kd.R_below (by (with_reducible repeat (first | apply Kd.R_alloc | apply Kd.R_drewN | apply Kd.R_drew)); exact HO489.out) hb); have n3_ := Aside0.mk (Kd.R_below (by (with_reducible repeat (first | apply Kd.R_alloc | apply Kd.R_drewN | apply Kd.R_drew)); exact HO499.out) hb); have n4_ := Aside0.mk (Kd.R_below (by (with_reducible repeat (first | apply Kd.R_alloc | apply Kd.R_drewN | apply Kd.R_drew)); exact HO503.out) hb); have n5_ := Aside0.mk (blk_below (g := gb486) (o := .cells #[.slice Ao15 t480.length co15, .slice Ao17 t483.length co17] 26 (0, 0)) (by (with_reducible repeat first | apply blk_drewN | apply blk_drew | apply blk_alloc); exact BK486.out) hb); have n6_ := Aside0.mk (blk_below (g := gb494) (o := .cells #[.int .i64 t490, .int .i64 t491, .int .i64 t492, .bool t493] 29 (0, 0)) (by (with_reducible repeat first | apply blk_drewN | apply blk_drew | apply blk_alloc); exact BK494.out) hb); have n7_ := Aside0.mk (below_step (by repeat (first | (with_reducible first | exact HB.out | apply below_alloc | apply pw_below_drewN | apply below_drew1 | refine below_set ?_ GE486.out | refine below_set ?_ GE494.out) | exact HB.out)) hb); clear HO482; clear HO485; clear HO489; clear HO499; clear HO503; clear BK486; clear BK494; clear HB; have HO482 := n0_; have HO485 := n1_; have HO489 := n2_; have HO499 := n3_; have HO503 := n4_; have BK486 := n5_; have BK494 := n6_; have HB := n7_; clear n0_ n1_ n2_ n3_ n4_ n5_ n6_ n7_; (try clear hb); (try clear hb2); (try clear hk); (try clear hi); have hcz49_0 : w48.cell? ⟨gb486, 0, none⟩ = some (.slice Ao15 t480.length co15) := (blk_cell BK486.out 0).trans rfl; have hcz49_1 : w48.cell? ⟨gb486, 1, none⟩ = some (.slice Ao17 t483.length co17) := (blk_cell BK486.out 1).trans rfl; have hfz49_0 := blk_frozen BK486.out 0; have hfz49_1 := blk_frozen BK486.out 1; have hcz50_0 : w48.cell? ⟨gb494, 0, none⟩ = some (.int .i64 t490) := (blk_cell BK494.out 0).trans rfl; have hcz50_1 : w48.cell? ⟨gb494, 1, none⟩ = some (.int .i64 t491) := (blk_cell BK494.out 1).trans rfl; have hcz50_2 : w48.cell? ⟨gb494, 2, none⟩ = some (.int .i64 t492) := (blk_cell BK494.out 2).trans rfl; have hcz50_3 : w48.cell? ⟨gb494, 3, none⟩ = some (.bool t493) := (blk_cell BK494.out 3).trans rfl; have hfz50_0 := blk_frozen BK494.out 0; have hfz50_1 := blk_frozen BK494.out 1; have hfz50_2 := blk_frozen BK494.out 2; have hfz50_3 := blk_frozen BK494.out 3) | (go_at_call 18; (with_reducible refine (impl_RuleOk.calls k _ _ t480 _ _ t483 t490 t491 t492 t493 t508 _ ?side1 ?side2 ?side3 ?side4 A43.out).mono ?_); (case side1 => repeat (first | exact (Kd.R_reads' HO482.out).2.2 | (with_reducible refine Kd.C_alloc ?_ _) | (with_reducible refine Kd.C_drewN ?_ _) | (with_reducible refine Kd.C_drew ?_))); (case side2 => exact (Kd.R_reads' HO482.out).2.1); (case side3 => repeat (first | exact (Kd.S_reads' HO485.out).2.2 | (with_reducible refine Kd.C_alloc ?_ _) | (with_reducible refine Kd.C_drewN ?_ _) | (with_reducible refine Kd.C_drew ?_))); (case side4 => exact (Kd.S_reads' HO485.out).2.1); rintro e w51 ⟨rfl, hb⟩; have n0_ := Aside0.mk (Kd.R_below (by (with_reducible repeat (first | apply Kd.R_alloc | apply Kd.R_drewN | apply Kd.R_drew)); exact HO482.out) hb); have n1_ := Aside0.mk (Kd.S_below (by (with_reducible repeat (first | apply Kd.S_alloc | apply Kd.S_drewN | apply Kd.S_drew)); exact HO485.out) hb); have n2_ := Aside0.mk (Kd.R_below (by (with_reducible repeat (first | apply Kd.R_alloc | apply Kd.R_drewN | apply Kd.R_drew)); exact HO489.out) hb); have n3_ := Aside0.mk (Kd.R_below (by (with_reducible repeat (first | apply Kd.R_alloc | apply Kd.R_drewN | apply Kd.R_drew)); exact HO499.out) hb); have n4_ := Aside0.mk (Kd.R_below (by (with_reducible repeat (first | apply Kd.R_alloc | apply Kd.R_drewN | apply Kd.R_drew)); exact HO503.out) hb); have n5_ := Aside0.mk (blk_below (g := gb486) (o := .cells #[.slice Ao15 t480.length co15, .slice Ao17 t483.length co17] 26 (0, 0)) (by (with_reducible repeat first | apply blk_drewN | apply blk_drew | apply blk_alloc); exact BK486.out) hb); have n6_ := Aside0.mk (blk_below (g := gb494) (o := .cells #[.int .i64 t490, .int .i64 t491, .int .i64 t492, .bool t493] 29 (0, 0)) (by (with_reducible repeat first | apply blk_drewN | apply blk_drew | apply blk_alloc); exact BK494.out) hb); have n7_ := Aside0.mk (below_step (by repeat (first | (with_reducible first | exact HB.out | apply below_alloc | apply pw_below_drewN | apply below_drew1 | refine below_set ?_ GE486.out | refine below_set ?_ GE494.out) | exact HB.out)) hb); clear HO482; clear HO485; clear HO489; clear HO499; clear HO503; clear BK486; clear BK494; clear HB; have HO482 := n0_; have HO485 := n1_; have HO489 := n2_; have HO499 := n3_; have HO503 := n4_; have BK486 := n5_; have BK494 := n6_; have HB := n7_; clear n0_ n1_ n2_ n3_ n4_ n5_ n6_ n7_; (try clear hb); (try clear hb2); (try clear hk); (try clear hi)))
       go_meet
       case rel => exact ⟨_, (!t508), (by first | rfl | (simp; done) | (simp [*]; done)), H', ⟨by first | omega | exact Nat.le_refl _⟩, ⟨by (with_reducible repeat (first | apply Kd.R_alloc | apply Kd.R_drewN | apply Kd.R_drew)); exact Kd.R_mono HO499.out (fun _ hk => hk.2)⟩, ⟨by (with_reducible repeat (first | apply Kd.R_alloc | apply Kd.R_drewN | apply Kd.R_drew)); exact Kd.R_mono HO503.out (fun _ hk => hk.2)⟩, ⟨by (with_reducible repeat (first | apply Kd.R_alloc | apply Kd.R_drewN | apply Kd.R_drew)); exact HO482.out⟩, ⟨by (with_reducible repeat (first | apply Kd.S_alloc | apply Kd.S_drewN | apply Kd.S_drew)); exact Kd.S_mono HO485.out (fun _ hk => ⟨hk.1.2, hk.2⟩)⟩, ⟨by (with_reducible repeat first | apply blk_drewN | apply blk_drew | apply blk_alloc); exact BK486.out⟩, ⟨by (with_reducible repeat first | apply blk_drewN | apply blk_drew | apply blk_alloc); exact BK494.out⟩, ⟨by repeat (first | (with_reducible first | exact HB.out | apply below_alloc | apply pw_below_drewN | apply below_drew1 | refine below_set ?_ GE486.out | refine below_set ?_ GE494.out) | exact HB.out)⟩⟩
      ·replace c42 := Bool.eq_false_iff.mpr c42
       subst c42
       have H1 : (none) = some r := by rw [if_neg (show ¬ (false = true) by decide)] at H; exact H
       exact absurd H1 (by simp)
     ·rw [if_neg c40] at H
      exact absurd H (by simp)
    ·replace c39 := Bool.eq_false_iff.mpr c39
     subst c39
     have H1 : (none) = some r := by rw [if_neg (show ¬ (false = true) by decide)] at H; exact H
     exact absurd H1 (by simp)
   ·replace c38 := Bool.eq_false_iff.mpr c38
    subst c38
    have H1 : (none) = some r := by rw [if_neg (show ¬ (false = true) by decide)] at H; exact H
    exact absurd H1 (by simp)
  case rest =>
   clear HC12
   try clear c1
   try clear p2
   try clear c3
   try clear c4
   try clear c5
   try clear c7
   try clear c8
   try clear c9
   try clear c10
   try clear c11
   try clear c15
   try clear c16
   try clear c34
   try clear c38
   try clear c39
   try clear c40
   try clear c40b0
   try clear c40b1
   try clear c42
   try clear c45
   try clear c53
   try clear hcz35_0
   try clear hcz35_1
   try clear hcz36_0
   try clear hcz36_1
   try clear hcz36_2
   try clear hcz36_3
   try clear hcz46_0
   try clear hcz46_1
   try clear hcz47_0
   try clear hcz47_1
   try clear hcz47_2
   try clear hcz47_3
   try clear hcz49_0
   try clear hcz49_1
   try clear hcz50_0
   try clear hcz50_1
   try clear hcz50_2
   try clear hcz50_3
   try clear hcz54_0
   try clear hcz54_1
   try clear hcz55_0
   try clear hcz55_1
   try clear hcz55_2
   try clear hcz55_3
   try clear hfz35_0
   try clear hfz35_1
   try clear hfz36_0
   try clear hfz36_1
   try clear hfz36_2
   try clear hfz36_3
   try clear hfz46_0
   try clear hfz46_1
   try clear hfz47_0
   try clear hfz47_1
   try clear hfz47_2
   try clear hfz47_3
   try clear hfz49_0
   try clear hfz49_1
   try clear hfz50_0
   try clear hfz50_1
   try clear hfz50_2
   try clear hfz50_3
   try clear hfz54_0
   try clear hfz54_1
   try clear hfz55_0
   try clear hfz55_1
   try clear hfz55_2
   try clear hfz55_3
   obtain ⟨kq, x75_11, rfl, HA, HJ11, HO_6, HO_7, HO_487000, HO_487001, BK486, BK494, HB⟩ := hcut
   cases kq with
   | zero => exact absurd HA.out (by simp [laws_FnApart.j0])
   | succ kj11 =>
    have H := HA.out
    clear HA
    simp only [laws_FnApart.j0] at H
    by_cases c58 : x75_11 = true
    ·subst c58
     have H1 : (none) = some r := by rw [if_pos rfl] at H; exact H
     exact absurd H1 (by simp)
    ·replace c58 := Bool.eq_false_iff.mpr c58
     subst c58
     have H1 : (laws_FnApart.l0 kj11 t497 t501 t505 0 false 0 t480 t483 t490 t491 t492 t493) = some r := by rw [if_neg (show ¬ (false = true) by decide)] at H; exact H
     clear H
     have H := H1
     clear H1
     have H' := Aside0.mk H
     clear H
     go_wp2
     go_loopg [11, 12, 13] kj11 (fun kq v11 v12 v13 w' => ∃ (x11_2 : Int) (x12_2 : Bool) (x13_2 : Int), v11 = .int .i64 x11_2 ∧ v12 = .bool x12_2 ∧ v13 = .int .i64 x13_2 ∧ Aside0 (laws_FnApart.l0 kq t497 t501 t505 x11_2 x12_2 x13_2 t480 t483 t490 t491 t492 t493 = some r) ∧ Aside0 (kq ≤ kj11) ∧ Aside0 (Kd.R (Kd.int .i64) 2 w' w.heap.size (fun k_ => some k_ ≠ (v502 : Value).ownBlock) (.slice Ao32 t497.length co32) t497) ∧ Aside0 (Kd.R (Kd.int .i64) 2 w' w.heap.size (fun k_ => some k_ ≠ ((.slice Ao32 t497.length co32) : Value).ownBlock) v502 t501) ∧ Aside0 (Kd.R k34 34 w' w.heap.size (fun _ => True) (.slice Ao15 t480.length co15) t480) ∧ Aside0 (Kd.S k70 70 w' w.heap.size (fun k_ => some k_ ≠ ((.slice Ao32 t497.length co32) : Value).ownBlock ∧ some k_ ≠ (v502 : Value).ownBlock) (.slice Ao17 t483.length co17) t483) ∧ Aside0 (w'.heap[gb486]? = some (.cells #[(.slice Ao15 t480.length co15), (.slice Ao17 t483.length co17)] 26 (0, 0))) ∧ Aside0 (w'.heap[gb494]? = some (.cells #[.int .i64 t490, .int .i64 t491, .int .i64 t492, .bool t493] 29 (0, 0))) ∧ Aside0 (Below w.heap.size w w'))
     case atStart => exact ⟨(0), (false), (0), (by first | rfl | (simp; done) | (simp [*]; done)), (by first | rfl | (simp; done) | (simp [*]; done)), (by first | rfl | (simp; done) | (simp [*]; done)), H', ⟨Nat.le_refl _⟩, ⟨by (with_reducible repeat (first | apply Kd.R_alloc | apply Kd.R_drewN | apply Kd.R_drew)); exact HO_6.out⟩, ⟨by (with_reducible repeat (first | apply Kd.R_alloc | apply Kd.R_drewN | apply Kd.R_drew)); exact HO_7.out⟩, ⟨by (with_reducible repeat (first | apply Kd.R_alloc | apply Kd.R_drewN | apply Kd.R_drew)); exact HO_487000.out⟩, ⟨by (with_reducible repeat (first | apply Kd.S_alloc | apply Kd.S_drewN | apply Kd.S_drew)); exact HO_487001.out⟩, ⟨by (with_reducible repeat first | apply blk_drewN | apply blk_drew | apply blk_alloc); exact BK486.out⟩, ⟨by (with_reducible repeat first | apply blk_drewN | apply blk_drew | apply blk_alloc); exact BK494.out⟩, ⟨by repeat (first | (with_reducible first | exact HB.out | apply below_alloc | apply pw_below_drewN | apply below_drew1 | refine below_set ?_ GE486.out | refine below_set ?_ GE494.out) | exact HB.out)⟩⟩
     case round =>
      clear H'
      try clear c1
      try clear p2
      try clear c3
      try clear c4
      try clear c5
      try clear c7
      try clear c8
      try clear c9
      try clear c10
      try clear c11
      try clear c15
      try clear c16
      try clear c34
      try clear c38
      try clear c39
      try clear c40
      try clear c40b0
      try clear c40b1
      try clear c42
      try clear c45
      try clear c53
      try clear c58
      try clear hcz35_0
      try clear hcz35_1
      try clear hcz36_0
      try clear hcz36_1
      try clear hcz36_2
      try clear hcz36_3
      try clear hcz46_0
      try clear hcz46_1
      try clear hcz47_0
      try clear hcz47_1
      try clear hcz47_2
      try clear hcz47_3
      try clear hcz49_0
      try clear hcz49_1
      try clear hcz50_0
      try clear hcz50_1
      try clear hcz50_2
      try clear hcz50_3
      try clear hcz54_0
      try clear hcz54_1
      try clear hcz55_0
      try clear hcz55_1
      try clear hcz55_2
      try clear hcz55_3
      try clear hfz35_0
      try clear hfz35_1
      try clear hfz36_0
      try clear hfz36_1
      try clear hfz36_2
      try clear hfz36_3
      try clear hfz46_0
      try clear hfz46_1
      try clear hfz47_0
      try clear hfz47_1
      try clear hfz47_2
      try clear hfz47_3
      try clear hfz49_0
      try clear hfz49_1
      try clear hfz50_0
      try clear hfz50_1
      try clear hfz50_2
      try clear hfz50_3
      try clear hfz54_0
      try clear hfz54_1
      try clear hfz55_0
      try clear hfz55_1
      try clear hfz55_2
      try clear hfz55_3
      try clear p2
      obtain ⟨x11_2, x12_2, x13_2, rfl, rfl, rfl, HA, HK2, HO_6, HO_7, HO_487000, HO_487001, BK486, BK494, HB⟩ := hrel
      cases gk with
      | zero => exact absurd HA.out (by simp [laws_FnApart.l0])
      | succ k2 =>
       have H := HA.out
       clear HA
       simp only [laws_FnApart.l0] at H
       by_cases c59 : x13_2 < (t501.length : Int)
       ·rw [if_pos c59] at H
        have c59b0 : decide (x13_2 < (t501.length : Int)) = true := decide_eq_true c59
        clear c59
        by_cases c60 : 0 ≤ x13_2
        ·rw [if_pos c60] at H
         have c60b0 : decide (0 ≤ x13_2) = true := decide_eq_true c60
         clear c60
         by_cases c61 : (rd t501 x13_2) < 0
         ·rw [if_pos c61] at H
          have c61b0 : decide ((rd t501 x13_2) < 0) = true := decide_eq_true c61
          clear c61
          have H' := Aside0.mk H
          clear H
          obtain ⟨Ao62, co62, eo62⟩ := Kd.R_slice HO_7.out
          subst eo62
          have p509 : 0 ≤ (x13_2 : Int) := of_decide_eq_true (by assumption)
          have q509 : x13_2 < (t501.length : Int) := of_decide_eq_true (by assumption)
          obtain ⟨ad509, e509, hx509_0⟩ := Kd.at_int (Kd.R_reads' HO_7.out).2.2 x13_2 p509 q509
          cases e509
          replace p509 := eq_true p509
          replace q509 := eq_true q509
          go_wp2
          go_roundg k2
          case measure => have := HJ11.out; have := HK2.out; omega
          case rel => exact ⟨(x11_2), (true), (wrap64 (x13_2 + 1)), (by first | rfl | (simp; done) | (simp [*]; done)), (by first | rfl | (simp; done) | (simp [*]; done)), (by first | rfl | (simp; done) | (simp [*]; done)), H', ⟨by have := HJ11.out; have := HK2.out; omega⟩, ⟨by (with_reducible repeat (first | apply Kd.R_alloc | apply Kd.R_drewN | apply Kd.R_drew)); exact HO_6.out⟩, ⟨by (with_reducible repeat (first | apply Kd.R_alloc | apply Kd.R_drewN | apply Kd.R_drew)); exact HO_7.out⟩, ⟨by (with_reducible repeat (first | apply Kd.R_alloc | apply Kd.R_drewN | apply Kd.R_drew)); exact HO_487000.out⟩, ⟨by (with_reducible repeat (first | apply Kd.S_alloc | apply Kd.S_drewN | apply Kd.S_drew)); exact HO_487001.out⟩, ⟨by (with_reducible repeat first | apply blk_drewN | apply blk_drew | apply blk_alloc); exact BK486.out⟩, ⟨by (with_reducible repeat first | apply blk_drewN | apply blk_drew | apply blk_alloc); exact BK494.out⟩, ⟨by repeat (first | (with_reducible first | exact HB.out | apply below_alloc | apply pw_below_drewN | apply below_drew1 | refine below_set ?_ GE486.out | refine below_set ?_ GE494.out) | exact HB.out)⟩⟩
         ·rw [if_neg c61] at H
          have c61b0 : decide ((rd t501 x13_2) < 0) = false := decide_eq_false c61
          clear c61
          replace H := Option.bind_eq_some_iff.mp H
          obtain ⟨⟨t511, t512⟩, A630, H⟩ := H
          replace H : ((impl_DomainOf.f k2 t480 t483 t492 (rd t501 x13_2)).bind fun bt514 => ((laws_a8Has.f k2 t497 (rd t501 x13_2)).bind fun t517 => (if t517 = true then (none) else (if t512 = 0 then (if t511 = 0 then (none) else (if bt514.2 = 0 then (if t492 = 0 then (if bt514.1 = (rd t501 x13_2) then (if x12_2 = true then (if t493 = true then (laws_FnApart.l0 k2 t497 t501 t505 (wrap64 (x11_2 + 1)) x12_2 (wrap64 (x13_2 + 1)) t480 t483 t490 t491 t492 t493) else (none)) else (laws_FnApart.l0 k2 t497 t501 t505 (wrap64 (x11_2 + 1)) x12_2 (wrap64 (x13_2 + 1)) t480 t483 t490 t491 t492 t493)) else (none)) else (if x12_2 = true then (if t493 = true then (laws_FnApart.l0 k2 t497 t501 t505 (wrap64 (x11_2 + 1)) x12_2 (wrap64 (x13_2 + 1)) t480 t483 t490 t491 t492 t493) else (none)) else (laws_FnApart.l0 k2 t497 t501 t505 (wrap64 (x11_2 + 1)) x12_2 (wrap64 (x13_2 + 1)) t480 t483 t490 t491 t492 t493))) else (none))) else (none))))) = some r := H
          have A63 := Aside0.mk A630
          clear A630
          replace H := Option.bind_eq_some_iff.mp H
          obtain ⟨⟨t514, t515⟩, A640, H⟩ := H
          replace H : ((laws_a8Has.f k2 t497 (rd t501 x13_2)).bind fun t517 => (if t517 = true then (none) else (if t512 = 0 then (if t511 = 0 then (none) else (if t515 = 0 then (if t492 = 0 then (if t514 = (rd t501 x13_2) then (if x12_2 = true then (if t493 = true then (laws_FnApart.l0 k2 t497 t501 t505 (wrap64 (x11_2 + 1)) x12_2 (wrap64 (x13_2 + 1)) t480 t483 t490 t491 t492 t493) else (none)) else (laws_FnApart.l0 k2 t497 t501 t505 (wrap64 (x11_2 + 1)) x12_2 (wrap64 (x13_2 + 1)) t480 t483 t490 t491 t492 t493)) else (none)) else (if x12_2 = true then (if t493 = true then (laws_FnApart.l0 k2 t497 t501 t505 (wrap64 (x11_2 + 1)) x12_2 (wrap64 (x13_2 + 1)) t480 t483 t490 t491 t492 t493) else (none)) else (laws_FnApart.l0 k2 t497 t501 t505 (wrap64 (x11_2 + 1)) x12_2 (wrap64 (x13_2 + 1)) t480 t483 t490 t491 t492 t493))) else (none))) else (none)))) = some r := H
          have A64 := Aside0.mk A640
          clear A640
          replace H := Option.bind_eq_some_iff.mp H
          obtain ⟨t517, A650, H⟩ := H
          replace H : (if t517 = true then (none) else (if t512 = 0 then (if t511 = 0 then (none) else (if t515 = 0 then (if t492 = 0 then (if t514 = (rd t501 x13_2) then (if x12_2 = true then (if t493 = true then (laws_FnApart.l0 k2 t497 t501 t505 (wrap64 (x11_2 + 1)) x12_2 (wrap64 (x13_2 + 1)) t480 t483 t490 t491 t492 t493) else (none)) else (laws_FnApart.l0 k2 t497 t501 t505 (wrap64 (x11_2 + 1)) x12_2 (wrap64 (x13_2 + 1)) t480 t483 t490 t491 t492 t493)) else (none)) else (if x12_2 = true then (if t493 = true then (laws_FnApart.l0 k2 t497 t501 t505 (wrap64 (x11_2 + 1)) x12_2 (wrap64 (x13_2 + 1)) t480 t483 t490 t491 t492 t493) else (none)) else (laws_FnApart.l0 k2 t497 t501 t505 (wrap64 (x11_2 + 1)) x12_2 (wrap64 (x13_2 + 1)) t480 t483 t490 t491 t492 t493))) else (none))) else (none))) = some r := H
          have A65 := Aside0.mk A650
          clear A650
          by_cases c66 : t517 = true
          ·subst c66
           have H1 : (none) = some r := by rw [if_pos rfl] at H; exact H
           exact absurd H1 (by simp)
          ·replace c66 := Bool.eq_false_iff.mpr c66
           subst c66
           have H1 : (if t512 = 0 then (if t511 = 0 then (none) else (if t515 = 0 then (if t492 = 0 then (if t514 = (rd t501 x13_2) then (if x12_2 = true then (if t493 = true then (laws_FnApart.l0 k2 t497 t501 t505 (wrap64 (x11_2 + 1)) x12_2 (wrap64 (x13_2 + 1)) t480 t483 t490 t491 t492 t493) else (none)) else (laws_FnApart.l0 k2 t497 t501 t505 (wrap64 (x11_2 + 1)) x12_2 (wrap64 (x13_2 + 1)) t480 t483 t490 t491 t492 t493)) else (none)) else (if x12_2 = true then (if t493 = true then (laws_FnApart.l0 k2 t497 t501 t505 (wrap64 (x11_2 + 1)) x12_2 (wrap64 (x13_2 + 1)) t480 t483 t490 t491 t492 t493) else (none)) else (laws_FnApart.l0 k2 t497 t501 t505 (wrap64 (x11_2 + 1)) x12_2 (wrap64 (x13_2 + 1)) t480 t483 t490 t491 t492 t493))) else (none))) else (none)) = some r := by rw [if_neg (show ¬ (false = true) by decide)] at H; exact H
           clear H
           have H := H1
           clear H1
           by_cases c72 : t512 = 0
           ·rw [if_pos c72] at H
            have c72b0 : (t512 == 0) = true := beq_iff_eq.mpr c72
            have c72b1 : (t512 != 0) = false := bne_eq_false_iff_eq.mpr c72
            clear c72
            by_cases c73 : t511 = 0
            ·rw [if_pos c73] at H
             exact absurd H (by simp)
            ·rw [if_neg c73] at H
             have c73b0 : (t511 == 0) = false := beq_eq_false_iff_ne.mpr c73
             have c73b1 : (t511 != 0) = true := bne_iff_ne.mpr c73
             by_cases c79 : t515 = 0
             ·rw [if_pos c79] at H
              have c79b0 : (t515 == 0) = true := beq_iff_eq.mpr c79
              have c79b1 : (t515 != 0) = false := bne_eq_false_iff_eq.mpr c79
              clear c79
              by_cases c80 : t492 = 0
              ·rw [if_pos c80] at H
               have c80b0 : (t492 == 0) = true := beq_iff_eq.mpr c80
               have c80b1 : (t492 != 0) = false := bne_eq_false_iff_eq.mpr c80
               clear c80
               by_cases c81 : t514 = (rd t501 x13_2)
               ·rw [if_pos c81] at H
                have c81b0 : (t514 == (rd t501 x13_2)) = true := beq_iff_eq.mpr c81
                have c81b1 : (t514 != (rd t501 x13_2)) = false := bne_eq_false_iff_eq.mpr c81
                clear c81
                by_cases c82 : x12_2 = true
                ·subst c82
                 have H1 : (if t493 = true then (laws_FnApart.l0 k2 t497 t501 t505 (wrap64 (x11_2 + 1)) true (wrap64 (x13_2 + 1)) t480 t483 t490 t491 t492 t493) else (none)) = some r := by rw [if_pos rfl] at H; exact H
                 clear H
                 have H := H1
                 clear H1
                 by_cases c83 : t493 = true
                 ·subst c83
                  have H1 : (laws_FnApart.l0 k2 t497 t501 t505 (wrap64 (x11_2 + 1)) true (wrap64 (x13_2 + 1)) t480 t483 t490 t491 t492 true) = some r := by rw [if_pos rfl] at H; exact H
                  clear H
                  have H := H1
                  clear H1
                  have H' := Aside0.mk H
                  clear H
                  obtain ⟨Ao84, co84, eo84⟩ := Kd.R_slice HO_7.out
                  subst eo84
                  have p509 : 0 ≤ (x13_2 : Int) := of_decide_eq_true (by assumption)
                  have q509 : x13_2 < (t501.length : Int) := of_decide_eq_true (by assumption)
                  obtain ⟨ad509, e509, hx509_0⟩ := Kd.at_int (Kd.R_reads' HO_7.out).2.2 x13_2 p509 q509
                  cases e509
                  replace p509 := eq_true p509
                  replace q509 := eq_true q509
                  try go_wp2
                  have n0_ := Aside0.mk (Kd.R_drew HO_6.out)
                  have n1_ := Aside0.mk (Kd.R_drew HO_7.out)
                  have n2_ := Aside0.mk (Kd.R_drew HO_487000.out)
                  have n3_ := Aside0.mk (Kd.S_drew HO_487001.out)
                  have n4_ := Aside0.mk (blk_drew BK486.out)
                  have n5_ := Aside0.mk (blk_drew BK494.out)
                  have n6_ := Aside0.mk (below_drew1 HB.out)
                  clear HO_6
                  clear HO_7
                  clear HO_487000
                  clear HO_487001
                  clear BK486
                  clear BK494
                  clear HB
                  have HO_6 := n0_
                  have HO_7 := n1_
                  have HO_487000 := n2_
                  have HO_487001 := n3_
                  have BK486 := n4_
                  have BK494 := n5_
                  have HB := n6_
                  clear n0_ n1_ n2_ n3_ n4_ n5_ n6_
                  have p510 : 0 ≤ (x13_2 : Int) := of_decide_eq_true (by assumption)
                  have q510 : x13_2 < (t501.length : Int) := of_decide_eq_true (by assumption)
                  obtain ⟨ad510, e510, hx510_0⟩ := Kd.at_int (Kd.R_reads' HO_7.out).2.2 x13_2 p510 q510
                  obtain rfl : ad509 = ad510 := (by injection e510)
                  replace p510 := eq_true p510
                  replace q510 := eq_true q510
                  refine start_ (n := 11) (S := fun w' => w'.cell? ⟨gb486, 0, none⟩ = some (.slice Ao15 t480.length co15) ∧ w'.cell? ⟨gb486, 1, none⟩ = some (.slice Ao17 t483.length co17) ∧ w'.cell? (ad509.add (x13_2).toNat) = some (.int .i64 (rd t501 x13_2))) (ds := []) mz5_13 (by kernel_rfl) rfl rfl ⟨(blk_cell BK486.out 0).trans rfl, (blk_cell BK486.out 1).trans rfl, hx510_0⟩ (fun hHeld => ?_); refine with_tabW laws_FnApart.tab18 laws_FnApart.bits18 (fun HT_ HW_ => ?_)
                  generalize wr.drew = w85 at HO_6 HO_7 HO_487000 HO_487001 BK486 BK494 HB hx510_0 hHeld ⊢
                  refine pu_z5 1 (some 89) ?_ mz5_14 rfl rfl (any_of HT_.out (by kernel_rfl)) (fun _ _ _ h => h) (Or.inl ⟨by rfl, ?_⟩) ?_ ?_ ?_
                  (rotate_left; ·(intro w'; go_simp; with_reducible rfl)); (rotate_left; ·(simp only [Act.put, pq_z5]; rfl))
                  refine pu_z5 2 (some 90) ?_ mz5_15 rfl rfl (any_of HT_.out (by kernel_rfl)) (fun _ _ _ h => h) (Or.inl ⟨by rfl, ?_⟩) ?_ ?_ ?_
                  (rotate_left; ·(intro w'; go_simp; with_reducible rfl)); (rotate_left; ·(simp only [Act.put, pq_z5]; rfl))
                  refine pu_z5 3 (some 91) ?_ mz5_16 rfl rfl (any_of HT_.out (by kernel_rfl)) (fun _ _ _ h => h) (Or.inl ⟨by rfl, ?_⟩) ?_ ?_ ?_
                  (rotate_left; ·(intro w'; go_simp; with_reducible rfl)); (rotate_left; ·(simp only [Act.put, pq_z5]; rfl))
                  refine take_ (i := 0) (N := some 88) (v := ?_) (a' := ?_) mz5_17 rfl rfl (take_ofW HT_.out HW_.out (by kernel_rfl)) (fun _ _ _ h => h) (Or.inl ⟨by rfl, ?_⟩) hHeld ?_ ?_
                  (rotate_left; ·(rintro w' ⟨s0, s1, s2⟩; go_simp; with_reducible rfl)); (rotate_left; ·(simp only [Act.put, pq_z5]; rfl))
                  refine take_ (i := 4) (N := some 92) (v := ?_) (a' := ?_) mz5_18 rfl rfl (take_ofW HT_.out HW_.out (by kernel_rfl)) (fun _ _ _ h => h) (Or.inl ⟨by rfl, ?_⟩) hHeld ?_ ?_
                  (rotate_left; ·(rintro w' ⟨s0, s1, s2⟩; go_simp; with_reducible rfl)); (rotate_left; ·(simp only [Act.put, pq_z5]; rfl))
                  refine one_ (i := 5) (N := some 93) mz5_19 rfl rfl (one_of HT_.out (by kernel_rfl)) (by decide) (fun K hK => ?_)
                  refine goes_ Try.func19 (by kernel_rfl) rfl #[.agg #[.slice Ao15 t480.length co15, .slice Ao17 t483.length co17], .int .i64 (rd t501 x13_2)] (by rfl) rfl rfl (by (try simp only [List.map_toArray, List.map_cons, List.map_nil]); first | done | rfl | (simp only [List.length_drop, List.length_take]; rfl)) ?_
                  with_reducible refine (impl_WeightOf.calls k2 _ _ t480 _ _ t483 (rd t501 x13_2) t511 t512 _ ?side1 ?side2 ?side3 ?side4 A63.out).mono ?_
                  (case side1 => repeat (first | exact (Kd.R_reads' HO_487000.out).2.2 | (with_reducible refine Kd.C_alloc ?_ _) | (with_reducible refine Kd.C_drewN ?_ _) | (with_reducible refine Kd.C_drew ?_)))
                  (case side2 => exact (Kd.R_reads' HO_487000.out).2.1)
                  (case side3 => repeat (first | exact (Kd.S_reads' HO_487001.out).2.2 | (with_reducible refine Kd.C_alloc ?_ _) | (with_reducible refine Kd.C_drewN ?_ _) | (with_reducible refine Kd.C_drew ?_)))
                  (case side4 => exact (Kd.S_reads' HO_487001.out).2.1)
                  rintro e w86 ⟨rfl, hb⟩
                  have HS2_ := (hb.cell (World.block_lt_of_cell? _ _ (hHeld.2.2))).trans (hHeld.2.2)
                  refine ⟨_, rfl, ?_⟩
                  have n0_ := Aside0.mk (Kd.R_below (by (with_reducible repeat (first | apply Kd.R_alloc | apply Kd.R_drewN | apply Kd.R_drew)); exact HO_6.out) hb)
                  have n1_ := Aside0.mk (Kd.R_below (by (with_reducible repeat (first | apply Kd.R_alloc | apply Kd.R_drewN | apply Kd.R_drew)); exact HO_7.out) hb)
                  have n2_ := Aside0.mk (Kd.R_below (by (with_reducible repeat (first | apply Kd.R_alloc | apply Kd.R_drewN | apply Kd.R_drew)); exact HO_487000.out) hb)
                  have n3_ := Aside0.mk (Kd.S_below (by (with_reducible repeat (first | apply Kd.S_alloc | apply Kd.S_drewN | apply Kd.S_drew)); exact HO_487001.out) hb)
                  have n4_ := Aside0.mk (blk_below (g := gb486) (o := .cells #[.slice Ao15 t480.length co15, .slice Ao17 t483.length co17] 26 (0, 0)) (by (with_reducible repeat first | apply blk_drewN | apply blk_drew | apply blk_alloc); exact BK486.out) hb)
                  have n5_ := Aside0.mk (blk_below (g := gb494) (o := .cells #[.int .i64 t490, .int .i64 t491, .int .i64 t492, .bool true] 29 (0, 0)) (by (with_reducible repeat first | apply blk_drewN | apply blk_drew | apply blk_alloc); exact BK494.out) hb)
                  have n6_ := Aside0.mk (below_step (by repeat (first | (with_reducible first | exact HB.out | apply below_alloc | apply pw_below_drewN | apply below_drew1 | refine below_set ?_ GE486.out | refine below_set ?_ GE494.out) | exact HB.out)) hb)
                  clear HO_6
                  clear HO_7
                  clear HO_487000
                  clear HO_487001
                  clear BK486
                  clear BK494
                  clear HB
                  have HO_6 := n0_
                  have HO_7 := n1_
                  have HO_487000 := n2_
                  have HO_487001 := n3_
                  have BK486 := n4_
                  have BK494 := n5_
                  have HB := n6_
                  clear n0_ n1_ n2_ n3_ n4_ n5_ n6_
                  (try clear hb)
                  (try clear hb2)
                  (try clear hk)
                  (try clear hi)
                  refine hK.out _ _ ⟨(blk_cell BK486.out 0).trans rfl, (blk_cell BK486.out 1).trans rfl, HS2_⟩ (fun hHeld => ?_)
                  clear hK K
                  refine norm_ (a' := ?_) ?_ ?_
                  (rotate_left; ·(show Act.put _ (some 93) _ = _; simp only [Act.put, pq_z5]; rfl))
                  refine pu_z5 6 (some 87) ?_ mz5_20 rfl rfl (any_of HT_.out (by kernel_rfl)) (fun _ _ _ h => h) (Or.inl ⟨by rfl, ?_⟩) ?_ ?_ ?_
                  (rotate_left; ·(intro w'; go_simp; with_reducible rfl)); (rotate_left; ·(simp only [Act.put, pq_z5]; rfl))
                  refine pu_z5 7 (some 94) ?_ mz5_21 rfl rfl (any_of HT_.out (by kernel_rfl)) (fun _ _ _ h => h) (Or.inl ⟨by rfl, ?_⟩) ?_ ?_ ?_
                  (rotate_left; ·(intro w'; go_simp; with_reducible rfl)); (rotate_left; ·(simp only [Act.put, pq_z5]; rfl))
                  refine pu_z5 8 (some 95) ?_ mz5_22 rfl rfl (any_of HT_.out (by kernel_rfl)) (fun _ _ _ h => h) (Or.inl ⟨by rfl, ?_⟩) ?_ ?_ ?_
                  (rotate_left; ·(intro w'; go_simp; with_reducible rfl)); (rotate_left; ·(simp only [Act.put, pq_z5]; rfl))
                  refine pu_z5 9 (some 14) ?_ mz5_23 rfl rfl (any_of HT_.out (by kernel_rfl)) (fun _ _ _ h => h) (Or.inl ⟨by rfl, ?_⟩) ?_ ?_ ?_
                  (rotate_left; ·(intro w'; go_simp; with_reducible rfl)); (rotate_left; ·(simp only [Act.put, pq_z5]; rfl))
                  refine pu_z5 10 (some 15) ?_ mz5_24 rfl rfl (any_of HT_.out (by kernel_rfl)) (fun _ _ _ h => h) (Or.inl ⟨by rfl, ?_⟩) ?_ ?_ ?_
                  (rotate_left; ·(intro w'; go_simp; with_reducible rfl)); (rotate_left; ·(simp only [Act.put, pq_z5]; rfl))
                  refine done_ (done_of HT_.out (by kernel_rfl)) ?_
                  try go_wp2
                  have n0_ := Aside0.mk (Kd.R_drew HO_6.out)
                  have n1_ := Aside0.mk (Kd.R_drew HO_7.out)
                  have n2_ := Aside0.mk (Kd.R_drew HO_487000.out)
                  have n3_ := Aside0.mk (Kd.S_drew HO_487001.out)
                  have n4_ := Aside0.mk (blk_drew BK486.out)
                  have n5_ := Aside0.mk (blk_drew BK494.out)
                  have n6_ := Aside0.mk (below_drew1 HB.out)
                  clear HO_6
                  clear HO_7
                  clear HO_487000
                  clear HO_487001
                  clear BK486
                  clear BK494
                  clear HB
                  have HO_6 := n0_
                  have HO_7 := n1_
                  have HO_487000 := n2_
                  have HO_487001 := n3_
                  have BK486 := n4_
                  have BK494 := n5_
                  have HB := n6_
                  clear n0_ n1_ n2_ n3_ n4_ n5_ n6_
                  have p513 : 0 ≤ (x13_2 : Int) := of_decide_eq_true (by assumption)
                  have q513 : x13_2 < (t501.length : Int) := of_decide_eq_true (by assumption)
                  obtain ⟨ad513, e513, hx513_0⟩ := Kd.at_int (Kd.R_reads' HO_7.out).2.2 x13_2 p513 q513
                  obtain rfl : ad509 = ad513 := (by injection e513)
                  replace p513 := eq_true p513
                  replace q513 := eq_true q513
                  refine start_ (n := 13) (S := fun w' => w'.cell? ⟨gb486, 0, none⟩ = some (.slice Ao15 t480.length co15) ∧ w'.cell? ⟨gb486, 1, none⟩ = some (.slice Ao17 t483.length co17) ∧ w'.cell? ⟨gb494, 0, none⟩ = some (.int .i64 t490) ∧ w'.cell? ⟨gb494, 1, none⟩ = some (.int .i64 t491) ∧ w'.cell? ⟨gb494, 2, none⟩ = some (.int .i64 t492) ∧ w'.cell? ⟨gb494, 3, none⟩ = some (.bool true) ∧ w'.cell? (ad509.add (x13_2).toNat) = some (.int .i64 (rd t501 x13_2))) (ds := []) mz5_25 (by kernel_rfl) rfl rfl ⟨(blk_cell BK486.out 0).trans rfl, (blk_cell BK486.out 1).trans rfl, (blk_cell BK494.out 0).trans rfl, (blk_cell BK494.out 1).trans rfl, (blk_cell BK494.out 2).trans rfl, (blk_cell BK494.out 3).trans rfl, hx513_0⟩ (fun hHeld => ?_); refine with_tabW laws_FnApart.tab19 laws_FnApart.bits19 (fun HT_ HW_ => ?_)
                  generalize w86.drew = w87 at HO_6 HO_7 HO_487000 HO_487001 BK486 BK494 HB hx513_0 hHeld ⊢
                  refine pu_z5 1 (some 98) ?_ mz5_26 rfl rfl (any_of HT_.out (by kernel_rfl)) (fun _ _ _ h => h) (Or.inl ⟨by rfl, ?_⟩) ?_ ?_ ?_
                  (rotate_left; ·(intro w'; go_simp; with_reducible rfl)); (rotate_left; ·(simp only [Act.put, pq_z5]; rfl))
                  refine pu_z5 3 (some 100) ?_ mz5_27 rfl rfl (any_of HT_.out (by kernel_rfl)) (fun _ _ _ h => h) (Or.inl ⟨by rfl, ?_⟩) ?_ ?_ ?_
                  (rotate_left; ·(intro w'; go_simp; with_reducible rfl)); (rotate_left; ·(simp only [Act.put, pq_z5]; rfl))
                  refine pu_z5 4 (some 101) ?_ mz5_28 rfl rfl (any_of HT_.out (by kernel_rfl)) (fun _ _ _ h => h) (Or.inl ⟨by rfl, ?_⟩) ?_ ?_ ?_
                  (rotate_left; ·(intro w'; go_simp; with_reducible rfl)); (rotate_left; ·(simp only [Act.put, pq_z5]; rfl))
                  refine pu_z5 5 (some 102) ?_ mz5_29 rfl rfl (any_of HT_.out (by kernel_rfl)) (fun _ _ _ h => h) (Or.inl ⟨by rfl, ?_⟩) ?_ ?_ ?_
                  (rotate_left; ·(intro w'; go_simp; with_reducible rfl)); (rotate_left; ·(simp only [Act.put, pq_z5]; rfl))
                  refine take_ (i := 0) (N := some 97) (v := ?_) (a' := ?_) mz5_30 rfl rfl (take_ofW HT_.out HW_.out (by kernel_rfl)) (fun _ _ _ h => h) (Or.inl ⟨by rfl, ?_⟩) hHeld ?_ ?_
                  (rotate_left; ·(rintro w' ⟨s0, s1, s2, s3, s4, s5, s6⟩; go_simp; with_reducible rfl)); (rotate_left; ·(simp only [Act.put, pq_z5]; rfl))
                  refine take_ (i := 2) (N := some 99) (v := ?_) (a' := ?_) mz5_31 rfl rfl (take_ofW HT_.out HW_.out (by kernel_rfl)) (fun _ _ _ h => h) (Or.inl ⟨by rfl, ?_⟩) hHeld ?_ ?_
                  (rotate_left; ·(rintro w' ⟨s0, s1, s2, s3, s4, s5, s6⟩; go_simp; with_reducible rfl)); (rotate_left; ·(simp only [Act.put, pq_z5]; rfl))
                  refine take_ (i := 6) (N := some 103) (v := ?_) (a' := ?_) mz5_32 rfl rfl (take_ofW HT_.out HW_.out (by kernel_rfl)) (fun _ _ _ h => h) (Or.inl ⟨by rfl, ?_⟩) hHeld ?_ ?_
                  (rotate_left; ·(rintro w' ⟨s0, s1, s2, s3, s4, s5, s6⟩; go_simp; with_reducible rfl)); (rotate_left; ·(simp only [Act.put, pq_z5]; rfl))
                  refine one_ (i := 7) (N := some 104) mz5_33 rfl rfl (one_of HT_.out (by kernel_rfl)) (by decide) (fun K hK => ?_)
                  refine goes_ Try.func20 (by kernel_rfl) rfl #[.agg #[.slice Ao15 t480.length co15, .slice Ao17 t483.length co17], .int .i64 t492, .int .i64 (rd t501 x13_2)] (by rfl) rfl rfl (by (try simp only [List.map_toArray, List.map_cons, List.map_nil]); first | done | rfl | (simp only [List.length_drop, List.length_take]; rfl)) ?_
                  with_reducible refine (impl_DomainOf.calls k2 _ _ t480 _ _ t483 t492 (rd t501 x13_2) t514 t515 _ ?side1 ?side2 ?side3 ?side4 A64.out).mono ?_
                  (case side1 => repeat (first | exact (Kd.R_reads' HO_487000.out).2.2 | (with_reducible refine Kd.C_alloc ?_ _) | (with_reducible refine Kd.C_drewN ?_ _) | (with_reducible refine Kd.C_drew ?_)))
                  (case side2 => exact (Kd.R_reads' HO_487000.out).2.1)
                  (case side3 => repeat (first | exact (Kd.S_reads' HO_487001.out).2.2 | (with_reducible refine Kd.C_alloc ?_ _) | (with_reducible refine Kd.C_drewN ?_ _) | (with_reducible refine Kd.C_drew ?_)))
                  (case side4 => exact (Kd.S_reads' HO_487001.out).2.1)
                  rintro e w88 ⟨rfl, hb⟩
                  have HS6_ := (hb.cell (World.block_lt_of_cell? _ _ (hHeld.2.2.2.2.2.2))).trans (hHeld.2.2.2.2.2.2)
                  refine ⟨_, rfl, ?_⟩
                  have n0_ := Aside0.mk (Kd.R_below (by (with_reducible repeat (first | apply Kd.R_alloc | apply Kd.R_drewN | apply Kd.R_drew)); exact HO_6.out) hb)
                  have n1_ := Aside0.mk (Kd.R_below (by (with_reducible repeat (first | apply Kd.R_alloc | apply Kd.R_drewN | apply Kd.R_drew)); exact HO_7.out) hb)
                  have n2_ := Aside0.mk (Kd.R_below (by (with_reducible repeat (first | apply Kd.R_alloc | apply Kd.R_drewN | apply Kd.R_drew)); exact HO_487000.out) hb)
                  have n3_ := Aside0.mk (Kd.S_below (by (with_reducible repeat (first | apply Kd.S_alloc | apply Kd.S_drewN | apply Kd.S_drew)); exact HO_487001.out) hb)
                  have n4_ := Aside0.mk (blk_below (g := gb486) (o := .cells #[.slice Ao15 t480.length co15, .slice Ao17 t483.length co17] 26 (0, 0)) (by (with_reducible repeat first | apply blk_drewN | apply blk_drew | apply blk_alloc); exact BK486.out) hb)
                  have n5_ := Aside0.mk (blk_below (g := gb494) (o := .cells #[.int .i64 t490, .int .i64 t491, .int .i64 t492, .bool true] 29 (0, 0)) (by (with_reducible repeat first | apply blk_drewN | apply blk_drew | apply blk_alloc); exact BK494.out) hb)
                  have n6_ := Aside0.mk (below_step (by repeat (first | (with_reducible first | exact HB.out | apply below_alloc | apply pw_below_drewN | apply below_drew1 | refine below_set ?_ GE486.out | refine below_set ?_ GE494.out) | exact HB.out)) hb)
                  clear HO_6
                  clear HO_7
                  clear HO_487000
                  clear HO_487001
                  clear BK486
                  clear BK494
                  clear HB
                  have HO_6 := n0_
                  have HO_7 := n1_
                  have HO_487000 := n2_
                  have HO_487001 := n3_
                  have BK486 := n4_
                  have BK494 := n5_
                  have HB := n6_
                  clear n0_ n1_ n2_ n3_ n4_ n5_ n6_
                  (try clear hb)
                  (try clear hb2)
                  (try clear hk)
                  (try clear hi)
                  refine hK.out _ _ ⟨(blk_cell BK486.out 0).trans rfl, (blk_cell BK486.out 1).trans rfl, (blk_cell BK494.out 0).trans rfl, (blk_cell BK494.out 1).trans rfl, (blk_cell BK494.out 2).trans rfl, (blk_cell BK494.out 3).trans rfl, HS6_⟩ (fun hHeld => ?_)
                  clear hK K
                  refine norm_ (a' := ?_) ?_ ?_
                  (rotate_left; ·(show Act.put _ (some 104) _ = _; simp only [Act.put, pq_z5]; rfl))
                  refine pu_z5 8 (some 96) ?_ mz5_34 rfl rfl (any_of HT_.out (by kernel_rfl)) (fun _ _ _ h => h) (Or.inl ⟨by rfl, ?_⟩) ?_ ?_ ?_
                  (rotate_left; ·(intro w'; go_simp; with_reducible rfl)); (rotate_left; ·(simp only [Act.put, pq_z5]; rfl))
                  refine pu_z5 9 (some 105) ?_ mz5_35 rfl rfl (any_of HT_.out (by kernel_rfl)) (fun _ _ _ h => h) (Or.inl ⟨by rfl, ?_⟩) ?_ ?_ ?_
                  (rotate_left; ·(intro w'; go_simp; with_reducible rfl)); (rotate_left; ·(simp only [Act.put, pq_z5]; rfl))
                  refine pu_z5 10 (some 106) ?_ mz5_36 rfl rfl (any_of HT_.out (by kernel_rfl)) (fun _ _ _ h => h) (Or.inl ⟨by rfl, ?_⟩) ?_ ?_ ?_
                  (rotate_left; ·(intro w'; go_simp; with_reducible rfl)); (rotate_left; ·(simp only [Act.put, pq_z5]; rfl))
                  refine pu_z5 11 (some 16) ?_ mz5_37 rfl rfl (any_of HT_.out (by kernel_rfl)) (fun _ _ _ h => h) (Or.inl ⟨by rfl, ?_⟩) ?_ ?_ ?_
                  (rotate_left; ·(intro w'; go_simp; with_reducible rfl)); (rotate_left; ·(simp only [Act.put, pq_z5]; rfl))
                  refine pu_z5 12 (some 17) ?_ mz5_38 rfl rfl (any_of HT_.out (by kernel_rfl)) (fun _ _ _ h => h) (Or.inl ⟨by rfl, ?_⟩) ?_ ?_ ?_
                  (rotate_left; ·(intro w'; go_simp; with_reducible rfl)); (rotate_left; ·(simp only [Act.put, pq_z5]; rfl))
                  refine done_ (done_of HT_.out (by kernel_rfl)) ?_
                  have p516 : 0 ≤ (x13_2 : Int) := of_decide_eq_true (by assumption)
                  have q516 : x13_2 < (t501.length : Int) := of_decide_eq_true (by assumption)
                  obtain ⟨ad516, e516, hx516_0⟩ := Kd.at_int (Kd.R_reads' HO_7.out).2.2 x13_2 p516 q516
                  obtain rfl : ad509 = ad516 := (by injection e516)
                  replace p516 := eq_true p516
                  replace q516 := eq_true q516
                  try go_wp2_with (first | ((with_reducible refine gate_callee (f := 12) rfl ?_); refine goesL_ (some 112) rfl rfl Try.func12 (by kernel_rfl) rfl #[.slice Ao32 t497.length co32, .int .i64 (rd t501 x13_2)] rfl (by (try simp only [List.map_toArray, List.map_cons, List.map_nil]); first | done | rfl | (simp only [List.length_drop, List.length_take]; rfl)) ?_; (with_reducible refine (laws_a8Has.calls k2 _ _ t497 (rd t501 x13_2) false _ ?side1 ?side2 A65.out).mono ?_); (case side1 => repeat (first | exact (Kd.R_reads' HO_6.out).2.2 | (with_reducible refine Kd.C_alloc ?_ _) | (with_reducible refine Kd.C_drewN ?_ _) | (with_reducible refine Kd.C_drew ?_))); (case side2 => exact (Kd.R_reads' HO_6.out).2.1); rintro e w' ⟨rfl, ⟨nd, rfl⟩⟩; refine ⟨_, rfl, ?_⟩; have hnb89 := NB494_486.out; have hnc89 := NB486_494.out; have hcz90_0 : w88.cell? ⟨gb494, 0, none⟩ = some (.int .i64 t490) := (blk_cell BK494.out 0).trans rfl; have hcz90_1 : w88.cell? ⟨gb494, 1, none⟩ = some (.int .i64 t491) := (blk_cell BK494.out 1).trans rfl; have hcz90_2 : w88.cell? ⟨gb494, 2, none⟩ = some (.int .i64 t492) := (blk_cell BK494.out 2).trans rfl; have hcz90_3 : w88.cell? ⟨gb494, 3, none⟩ = some (.bool true) := (blk_cell BK494.out 3).trans rfl; have hfz90_0 := blk_frozen BK494.out 0; have hfz90_1 := blk_frozen BK494.out 1; have hfz90_2 := blk_frozen BK494.out 2; have hfz90_3 := blk_frozen BK494.out 3; have p518 : 0 ≤ (x13_2 : Int) := of_decide_eq_true (by assumption); have q518 : x13_2 < (t501.length : Int) := of_decide_eq_true (by assumption); obtain ⟨ad518, e518, hx518_0⟩ := Kd.at_int (Kd.R_reads' HO_7.out).2.2 x13_2 p518 q518; obtain rfl : ad509 = ad518 := (by injection e518); replace p518 := eq_true p518; replace q518 := eq_true q518))
                  go_roundg k2
                  case measure => have := HJ11.out; have := HK2.out; omega
                  case rel => exact ⟨(wrap64 (x11_2 + 1)), (true), (wrap64 (x13_2 + 1)), (by first | rfl | (simp; done) | (simp [*]; done)), (by first | rfl | (simp; done) | (simp [*]; done)), (by first | rfl | (simp; done) | (simp [*]; done)), H', ⟨by have := HJ11.out; have := HK2.out; omega⟩, ⟨by (with_reducible repeat (first | apply Kd.R_alloc | apply Kd.R_drewN | apply Kd.R_drew)); exact HO_6.out⟩, ⟨by (with_reducible repeat (first | apply Kd.R_alloc | apply Kd.R_drewN | apply Kd.R_drew)); exact HO_7.out⟩, ⟨by (with_reducible repeat (first | apply Kd.R_alloc | apply Kd.R_drewN | apply Kd.R_drew)); exact HO_487000.out⟩, ⟨by (with_reducible repeat (first | apply Kd.S_alloc | apply Kd.S_drewN | apply Kd.S_drew)); exact HO_487001.out⟩, ⟨by (with_reducible repeat first | apply blk_drewN | apply blk_drew | apply blk_alloc); exact BK486.out⟩, ⟨by (with_reducible repeat first | apply blk_drewN | apply blk_drew | apply blk_alloc); exact BK494.out⟩, ⟨by repeat (first | (with_reducible first | exact HB.out | apply below_alloc | apply pw_below_drewN | apply below_drew1 | refine below_set ?_ GE486.out | refine below_set ?_ GE494.out) | exact HB.out)⟩⟩
                 ·replace c83 := Bool.eq_false_iff.mpr c83
                  subst c83
                  have H1 : (none) = some r := by rw [if_neg (show ¬ (false = true) by decide)] at H; exact H
                  exact absurd H1 (by simp)
                ·replace c82 := Bool.eq_false_iff.mpr c82
                 subst c82
                 have H1 : (laws_FnApart.l0 k2 t497 t501 t505 (wrap64 (x11_2 + 1)) false (wrap64 (x13_2 + 1)) t480 t483 t490 t491 t492 t493) = some r := by rw [if_neg (show ¬ (false = true) by decide)] at H; exact H
                 clear H
                 have H := H1
                 clear H1
                 have H' := Aside0.mk H
                 clear H
                 obtain ⟨Ao98, co98, eo98⟩ := Kd.R_slice HO_7.out
                 subst eo98
                 have p509 : 0 ≤ (x13_2 : Int) := of_decide_eq_true (by assumption)
                 have q509 : x13_2 < (t501.length : Int) := of_decide_eq_true (by assumption)
                 obtain ⟨ad509, e509, hx509_0⟩ := Kd.at_int (Kd.R_reads' HO_7.out).2.2 x13_2 p509 q509
                 cases e509
                 replace p509 := eq_true p509
                 replace q509 := eq_true q509
                 try go_wp2
                 have n0_ := Aside0.mk (Kd.R_drew HO_6.out)
                 have n1_ := Aside0.mk (Kd.R_drew HO_7.out)
                 have n2_ := Aside0.mk (Kd.R_drew HO_487000.out)
                 have n3_ := Aside0.mk (Kd.S_drew HO_487001.out)
                 have n4_ := Aside0.mk (blk_drew BK486.out)
                 have n5_ := Aside0.mk (blk_drew BK494.out)
                 have n6_ := Aside0.mk (below_drew1 HB.out)
                 clear HO_6
                 clear HO_7
                 clear HO_487000
                 clear HO_487001
                 clear BK486
                 clear BK494
                 clear HB
                 have HO_6 := n0_
                 have HO_7 := n1_
                 have HO_487000 := n2_
                 have HO_487001 := n3_
                 have BK486 := n4_
                 have BK494 := n5_
                 have HB := n6_
                 clear n0_ n1_ n2_ n3_ n4_ n5_ n6_
                 have p510 : 0 ≤ (x13_2 : Int) := of_decide_eq_true (by assumption)
                 have q510 : x13_2 < (t501.length : Int) := of_decide_eq_true (by assumption)
                 obtain ⟨ad510, e510, hx510_0⟩ := Kd.at_int (Kd.R_reads' HO_7.out).2.2 x13_2 p510 q510
                 obtain rfl : ad509 = ad510 := (by injection e510)
                 replace p510 := eq_true p510
                 replace q510 := eq_true q510
                 refine start_ (n := 11) (S := fun w' => w'.cell? ⟨gb486, 0, none⟩ = some (.slice Ao15 t480.length co15) ∧ w'.cell? ⟨gb486, 1, none⟩ = some (.slice Ao17 t483.length co17) ∧ w'.cell? (ad509.add (x13_2).toNat) = some (.int .i64 (rd t501 x13_2))) (ds := []) mz5_13 (by kernel_rfl) rfl rfl ⟨(blk_cell BK486.out 0).trans rfl, (blk_cell BK486.out 1).trans rfl, hx510_0⟩ (fun hHeld => ?_); refine with_tabW laws_FnApart.tab18 laws_FnApart.bits18 (fun HT_ HW_ => ?_)
                 generalize wr.drew = w99 at HO_6 HO_7 HO_487000 HO_487001 BK486 BK494 HB hx510_0 hHeld ⊢
                 refine pu_z5 1 (some 89) ?_ mz5_14 rfl rfl (any_of HT_.out (by kernel_rfl)) (fun _ _ _ h => h) (Or.inl ⟨by rfl, ?_⟩) ?_ ?_ ?_
                 (rotate_left; ·(intro w'; go_simp; with_reducible rfl)); (rotate_left; ·(simp only [Act.put, pq_z5]; rfl))
                 refine pu_z5 2 (some 90) ?_ mz5_15 rfl rfl (any_of HT_.out (by kernel_rfl)) (fun _ _ _ h => h) (Or.inl ⟨by rfl, ?_⟩) ?_ ?_ ?_
                 (rotate_left; ·(intro w'; go_simp; with_reducible rfl)); (rotate_left; ·(simp only [Act.put, pq_z5]; rfl))
                 refine pu_z5 3 (some 91) ?_ mz5_16 rfl rfl (any_of HT_.out (by kernel_rfl)) (fun _ _ _ h => h) (Or.inl ⟨by rfl, ?_⟩) ?_ ?_ ?_
                 (rotate_left; ·(intro w'; go_simp; with_reducible rfl)); (rotate_left; ·(simp only [Act.put, pq_z5]; rfl))
                 refine take_ (i := 0) (N := some 88) (v := ?_) (a' := ?_) mz5_17 rfl rfl (take_ofW HT_.out HW_.out (by kernel_rfl)) (fun _ _ _ h => h) (Or.inl ⟨by rfl, ?_⟩) hHeld ?_ ?_
                 (rotate_left; ·(rintro w' ⟨s0, s1, s2⟩; go_simp; with_reducible rfl)); (rotate_left; ·(simp only [Act.put, pq_z5]; rfl))
                 refine take_ (i := 4) (N := some 92) (v := ?_) (a' := ?_) mz5_18 rfl rfl (take_ofW HT_.out HW_.out (by kernel_rfl)) (fun _ _ _ h => h) (Or.inl ⟨by rfl, ?_⟩) hHeld ?_ ?_
                 (rotate_left; ·(rintro w' ⟨s0, s1, s2⟩; go_simp; with_reducible rfl)); (rotate_left; ·(simp only [Act.put, pq_z5]; rfl))
                 refine one_ (i := 5) (N := some 93) mz5_19 rfl rfl (one_of HT_.out (by kernel_rfl)) (by decide) (fun K hK => ?_)
                 refine goes_ Try.func19 (by kernel_rfl) rfl #[.agg #[.slice Ao15 t480.length co15, .slice Ao17 t483.length co17], .int .i64 (rd t501 x13_2)] (by rfl) rfl rfl (by (try simp only [List.map_toArray, List.map_cons, List.map_nil]); first | done | rfl | (simp only [List.length_drop, List.length_take]; rfl)) ?_
                 with_reducible refine (impl_WeightOf.calls k2 _ _ t480 _ _ t483 (rd t501 x13_2) t511 t512 _ ?side1 ?side2 ?side3 ?side4 A63.out).mono ?_
                 (case side1 => repeat (first | exact (Kd.R_reads' HO_487000.out).2.2 | (with_reducible refine Kd.C_alloc ?_ _) | (with_reducible refine Kd.C_drewN ?_ _) | (with_reducible refine Kd.C_drew ?_)))
                 (case side2 => exact (Kd.R_reads' HO_487000.out).2.1)
                 (case side3 => repeat (first | exact (Kd.S_reads' HO_487001.out).2.2 | (with_reducible refine Kd.C_alloc ?_ _) | (with_reducible refine Kd.C_drewN ?_ _) | (with_reducible refine Kd.C_drew ?_)))
                 (case side4 => exact (Kd.S_reads' HO_487001.out).2.1)
                 rintro e w100 ⟨rfl, hb⟩
                 have HS2_ := (hb.cell (World.block_lt_of_cell? _ _ (hHeld.2.2))).trans (hHeld.2.2)
                 refine ⟨_, rfl, ?_⟩
                 have n0_ := Aside0.mk (Kd.R_below (by (with_reducible repeat (first | apply Kd.R_alloc | apply Kd.R_drewN | apply Kd.R_drew)); exact HO_6.out) hb)
                 have n1_ := Aside0.mk (Kd.R_below (by (with_reducible repeat (first | apply Kd.R_alloc | apply Kd.R_drewN | apply Kd.R_drew)); exact HO_7.out) hb)
                 have n2_ := Aside0.mk (Kd.R_below (by (with_reducible repeat (first | apply Kd.R_alloc | apply Kd.R_drewN | apply Kd.R_drew)); exact HO_487000.out) hb)
                 have n3_ := Aside0.mk (Kd.S_below (by (with_reducible repeat (first | apply Kd.S_alloc | apply Kd.S_drewN | apply Kd.S_drew)); exact HO_487001.out) hb)
                 have n4_ := Aside0.mk (blk_below (g := gb486) (o := .cells #[.slice Ao15 t480.length co15, .slice Ao17 t483.length co17] 26 (0, 0)) (by (with_reducible repeat first | apply blk_drewN | apply blk_drew | apply blk_alloc); exact BK486.out) hb)
                 have n5_ := Aside0.mk (blk_below (g := gb494) (o := .cells #[.int .i64 t490, .int .i64 t491, .int .i64 t492, .bool t493] 29 (0, 0)) (by (with_reducible repeat first | apply blk_drewN | apply blk_drew | apply blk_alloc); exact BK494.out) hb)
                 have n6_ := Aside0.mk (below_step (by repeat (first | (with_reducible first | exact HB.out | apply below_alloc | apply pw_below_drewN | apply below_drew1 | refine below_set ?_ GE486.out | refine below_set ?_ GE494.out) | exact HB.out)) hb)
                 clear HO_6
                 clear HO_7
                 clear HO_487000
                 clear HO_487001
                 clear BK486
                 clear BK494
                 clear HB
                 have HO_6 := n0_
                 have HO_7 := n1_
                 have HO_487000 := n2_
                 have HO_487001 := n3_
                 have BK486 := n4_
                 have BK494 := n5_
                 have HB := n6_
                 clear n0_ n1_ n2_ n3_ n4_ n5_ n6_
                 (try clear hb)
                 (try clear hb2)
                 (try clear hk)
                 (try clear hi)
                 refine hK.out _ _ ⟨(blk_cell BK486.out 0).trans rfl, (blk_cell BK486.out 1).trans rfl, HS2_⟩ (fun hHeld => ?_)
                 clear hK K
                 refine norm_ (a' := ?_) ?_ ?_
                 (rotate_left; ·(show Act.put _ (some 93) _ = _; simp only [Act.put, pq_z5]; rfl))
                 refine pu_z5 6 (some 87) ?_ mz5_20 rfl rfl (any_of HT_.out (by kernel_rfl)) (fun _ _ _ h => h) (Or.inl ⟨by rfl, ?_⟩) ?_ ?_ ?_
                 (rotate_left; ·(intro w'; go_simp; with_reducible rfl)); (rotate_left; ·(simp only [Act.put, pq_z5]; rfl))
                 refine pu_z5 7 (some 94) ?_ mz5_21 rfl rfl (any_of HT_.out (by kernel_rfl)) (fun _ _ _ h => h) (Or.inl ⟨by rfl, ?_⟩) ?_ ?_ ?_
                 (rotate_left; ·(intro w'; go_simp; with_reducible rfl)); (rotate_left; ·(simp only [Act.put, pq_z5]; rfl))
                 refine pu_z5 8 (some 95) ?_ mz5_22 rfl rfl (any_of HT_.out (by kernel_rfl)) (fun _ _ _ h => h) (Or.inl ⟨by rfl, ?_⟩) ?_ ?_ ?_
                 (rotate_left; ·(intro w'; go_simp; with_reducible rfl)); (rotate_left; ·(simp only [Act.put, pq_z5]; rfl))
                 refine pu_z5 9 (some 14) ?_ mz5_23 rfl rfl (any_of HT_.out (by kernel_rfl)) (fun _ _ _ h => h) (Or.inl ⟨by rfl, ?_⟩) ?_ ?_ ?_
                 (rotate_left; ·(intro w'; go_simp; with_reducible rfl)); (rotate_left; ·(simp only [Act.put, pq_z5]; rfl))
                 refine pu_z5 10 (some 15) ?_ mz5_24 rfl rfl (any_of HT_.out (by kernel_rfl)) (fun _ _ _ h => h) (Or.inl ⟨by rfl, ?_⟩) ?_ ?_ ?_
                 (rotate_left; ·(intro w'; go_simp; with_reducible rfl)); (rotate_left; ·(simp only [Act.put, pq_z5]; rfl))
                 refine done_ (done_of HT_.out (by kernel_rfl)) ?_
                 try go_wp2
                 have n0_ := Aside0.mk (Kd.R_drew HO_6.out)
                 have n1_ := Aside0.mk (Kd.R_drew HO_7.out)
                 have n2_ := Aside0.mk (Kd.R_drew HO_487000.out)
                 have n3_ := Aside0.mk (Kd.S_drew HO_487001.out)
                 have n4_ := Aside0.mk (blk_drew BK486.out)
                 have n5_ := Aside0.mk (blk_drew BK494.out)
                 have n6_ := Aside0.mk (below_drew1 HB.out)
                 clear HO_6
                 clear HO_7
                 clear HO_487000
                 clear HO_487001
                 clear BK486
                 clear BK494
                 clear HB
                 have HO_6 := n0_
                 have HO_7 := n1_
                 have HO_487000 := n2_
                 have HO_487001 := n3_
                 have BK486 := n4_
                 have BK494 := n5_
                 have HB := n6_
                 clear n0_ n1_ n2_ n3_ n4_ n5_ n6_
                 have p513 : 0 ≤ (x13_2 : Int) := of_decide_eq_true (by assumption)
                 have q513 : x13_2 < (t501.length : Int) := of_decide_eq_true (by assumption)
                 obtain ⟨ad513, e513, hx513_0⟩ := Kd.at_int (Kd.R_reads' HO_7.out).2.2 x13_2 p513 q513
                 obtain rfl : ad509 = ad513 := (by injection e513)
                 replace p513 := eq_true p513
                 replace q513 := eq_true q513
                 refine start_ (n := 13) (S := fun w' => w'.cell? ⟨gb486, 0, none⟩ = some (.slice Ao15 t480.length co15) ∧ w'.cell? ⟨gb486, 1, none⟩ = some (.slice Ao17 t483.length co17) ∧ w'.cell? ⟨gb494, 0, none⟩ = some (.int .i64 t490) ∧ w'.cell? ⟨gb494, 1, none⟩ = some (.int .i64 t491) ∧ w'.cell? ⟨gb494, 2, none⟩ = some (.int .i64 t492) ∧ w'.cell? ⟨gb494, 3, none⟩ = some (.bool t493) ∧ w'.cell? (ad509.add (x13_2).toNat) = some (.int .i64 (rd t501 x13_2))) (ds := []) mz5_25 (by kernel_rfl) rfl rfl ⟨(blk_cell BK486.out 0).trans rfl, (blk_cell BK486.out 1).trans rfl, (blk_cell BK494.out 0).trans rfl, (blk_cell BK494.out 1).trans rfl, (blk_cell BK494.out 2).trans rfl, (blk_cell BK494.out 3).trans rfl, hx513_0⟩ (fun hHeld => ?_); refine with_tabW laws_FnApart.tab19 laws_FnApart.bits19 (fun HT_ HW_ => ?_)
                 generalize w100.drew = w101 at HO_6 HO_7 HO_487000 HO_487001 BK486 BK494 HB hx513_0 hHeld ⊢
                 refine pu_z5 1 (some 98) ?_ mz5_26 rfl rfl (any_of HT_.out (by kernel_rfl)) (fun _ _ _ h => h) (Or.inl ⟨by rfl, ?_⟩) ?_ ?_ ?_
                 (rotate_left; ·(intro w'; go_simp; with_reducible rfl)); (rotate_left; ·(simp only [Act.put, pq_z5]; rfl))
                 refine pu_z5 3 (some 100) ?_ mz5_27 rfl rfl (any_of HT_.out (by kernel_rfl)) (fun _ _ _ h => h) (Or.inl ⟨by rfl, ?_⟩) ?_ ?_ ?_
                 (rotate_left; ·(intro w'; go_simp; with_reducible rfl)); (rotate_left; ·(simp only [Act.put, pq_z5]; rfl))
                 refine pu_z5 4 (some 101) ?_ mz5_28 rfl rfl (any_of HT_.out (by kernel_rfl)) (fun _ _ _ h => h) (Or.inl ⟨by rfl, ?_⟩) ?_ ?_ ?_
                 (rotate_left; ·(intro w'; go_simp; with_reducible rfl)); (rotate_left; ·(simp only [Act.put, pq_z5]; rfl))
                 refine pu_z5 5 (some 102) ?_ mz5_29 rfl rfl (any_of HT_.out (by kernel_rfl)) (fun _ _ _ h => h) (Or.inl ⟨by rfl, ?_⟩) ?_ ?_ ?_
                 (rotate_left; ·(intro w'; go_simp; with_reducible rfl)); (rotate_left; ·(simp only [Act.put, pq_z5]; rfl))
                 refine take_ (i := 0) (N := some 97) (v := ?_) (a' := ?_) mz5_30 rfl rfl (take_ofW HT_.out HW_.out (by kernel_rfl)) (fun _ _ _ h => h) (Or.inl ⟨by rfl, ?_⟩) hHeld ?_ ?_
                 (rotate_left; ·(rintro w' ⟨s0, s1, s2, s3, s4, s5, s6⟩; go_simp; with_reducible rfl)); (rotate_left; ·(simp only [Act.put, pq_z5]; rfl))
                 refine take_ (i := 2) (N := some 99) (v := ?_) (a' := ?_) mz5_31 rfl rfl (take_ofW HT_.out HW_.out (by kernel_rfl)) (fun _ _ _ h => h) (Or.inl ⟨by rfl, ?_⟩) hHeld ?_ ?_
                 (rotate_left; ·(rintro w' ⟨s0, s1, s2, s3, s4, s5, s6⟩; go_simp; with_reducible rfl)); (rotate_left; ·(simp only [Act.put, pq_z5]; rfl))
                 refine take_ (i := 6) (N := some 103) (v := ?_) (a' := ?_) mz5_32 rfl rfl (take_ofW HT_.out HW_.out (by kernel_rfl)) (fun _ _ _ h => h) (Or.inl ⟨by rfl, ?_⟩) hHeld ?_ ?_
                 (rotate_left; ·(rintro w' ⟨s0, s1, s2, s3, s4, s5, s6⟩; go_simp; with_reducible rfl)); (rotate_left; ·(simp only [Act.put, pq_z5]; rfl))
                 refine one_ (i := 7) (N := some 104) mz5_33 rfl rfl (one_of HT_.out (by kernel_rfl)) (by decide) (fun K hK => ?_)
                 refine goes_ Try.func20 (by kernel_rfl) rfl #[.agg #[.slice Ao15 t480.length co15, .slice Ao17 t483.length co17], .int .i64 t492, .int .i64 (rd t501 x13_2)] (by rfl) rfl rfl (by (try simp only [List.map_toArray, List.map_cons, List.map_nil]); first | done | rfl | (simp only [List.length_drop, List.length_take]; rfl)) ?_
                 with_reducible refine (impl_DomainOf.calls k2 _ _ t480 _ _ t483 t492 (rd t501 x13_2) t514 t515 _ ?side1 ?side2 ?side3 ?side4 A64.out).mono ?_
                 (case side1 => repeat (first | exact (Kd.R_reads' HO_487000.out).2.2 | (with_reducible refine Kd.C_alloc ?_ _) | (with_reducible refine Kd.C_drewN ?_ _) | (with_reducible refine Kd.C_drew ?_)))
                 (case side2 => exact (Kd.R_reads' HO_487000.out).2.1)
                 (case side3 => repeat (first | exact (Kd.S_reads' HO_487001.out).2.2 | (with_reducible refine Kd.C_alloc ?_ _) | (with_reducible refine Kd.C_drewN ?_ _) | (with_reducible refine Kd.C_drew ?_)))
                 (case side4 => exact (Kd.S_reads' HO_487001.out).2.1)
                 rintro e w102 ⟨rfl, hb⟩
                 have HS6_ := (hb.cell (World.block_lt_of_cell? _ _ (hHeld.2.2.2.2.2.2))).trans (hHeld.2.2.2.2.2.2)
                 refine ⟨_, rfl, ?_⟩
                 have n0_ := Aside0.mk (Kd.R_below (by (with_reducible repeat (first | apply Kd.R_alloc | apply Kd.R_drewN | apply Kd.R_drew)); exact HO_6.out) hb)
                 have n1_ := Aside0.mk (Kd.R_below (by (with_reducible repeat (first | apply Kd.R_alloc | apply Kd.R_drewN | apply Kd.R_drew)); exact HO_7.out) hb)
                 have n2_ := Aside0.mk (Kd.R_below (by (with_reducible repeat (first | apply Kd.R_alloc | apply Kd.R_drewN | apply Kd.R_drew)); exact HO_487000.out) hb)
                 have n3_ := Aside0.mk (Kd.S_below (by (with_reducible repeat (first | apply Kd.S_alloc | apply Kd.S_drewN | apply Kd.S_drew)); exact HO_487001.out) hb)
                 have n4_ := Aside0.mk (blk_below (g := gb486) (o := .cells #[.slice Ao15 t480.length co15, .slice Ao17 t483.length co17] 26 (0, 0)) (by (with_reducible repeat first | apply blk_drewN | apply blk_drew | apply blk_alloc); exact BK486.out) hb)
                 have n5_ := Aside0.mk (blk_below (g := gb494) (o := .cells #[.int .i64 t490, .int .i64 t491, .int .i64 t492, .bool t493] 29 (0, 0)) (by (with_reducible repeat first | apply blk_drewN | apply blk_drew | apply blk_alloc); exact BK494.out) hb)
                 have n6_ := Aside0.mk (below_step (by repeat (first | (with_reducible first | exact HB.out | apply below_alloc | apply pw_below_drewN | apply below_drew1 | refine below_set ?_ GE486.out | refine below_set ?_ GE494.out) | exact HB.out)) hb)
                 clear HO_6
                 clear HO_7
                 clear HO_487000
                 clear HO_487001
                 clear BK486
                 clear BK494
                 clear HB
                 have HO_6 := n0_
                 have HO_7 := n1_
                 have HO_487000 := n2_
                 have HO_487001 := n3_
                 have BK486 := n4_
                 have BK494 := n5_
                 have HB := n6_
                 clear n0_ n1_ n2_ n3_ n4_ n5_ n6_
                 (try clear hb)
                 (try clear hb2)
                 (try clear hk)
                 (try clear hi)
                 refine hK.out _ _ ⟨(blk_cell BK486.out 0).trans rfl, (blk_cell BK486.out 1).trans rfl, (blk_cell BK494.out 0).trans rfl, (blk_cell BK494.out 1).trans rfl, (blk_cell BK494.out 2).trans rfl, (blk_cell BK494.out 3).trans rfl, HS6_⟩ (fun hHeld => ?_)
                 clear hK K
                 refine norm_ (a' := ?_) ?_ ?_
                 (rotate_left; ·(show Act.put _ (some 104) _ = _; simp only [Act.put, pq_z5]; rfl))
                 refine pu_z5 8 (some 96) ?_ mz5_34 rfl rfl (any_of HT_.out (by kernel_rfl)) (fun _ _ _ h => h) (Or.inl ⟨by rfl, ?_⟩) ?_ ?_ ?_
                 (rotate_left; ·(intro w'; go_simp; with_reducible rfl)); (rotate_left; ·(simp only [Act.put, pq_z5]; rfl))
                 refine pu_z5 9 (some 105) ?_ mz5_35 rfl rfl (any_of HT_.out (by kernel_rfl)) (fun _ _ _ h => h) (Or.inl ⟨by rfl, ?_⟩) ?_ ?_ ?_
                 (rotate_left; ·(intro w'; go_simp; with_reducible rfl)); (rotate_left; ·(simp only [Act.put, pq_z5]; rfl))
                 refine pu_z5 10 (some 106) ?_ mz5_36 rfl rfl (any_of HT_.out (by kernel_rfl)) (fun _ _ _ h => h) (Or.inl ⟨by rfl, ?_⟩) ?_ ?_ ?_
                 (rotate_left; ·(intro w'; go_simp; with_reducible rfl)); (rotate_left; ·(simp only [Act.put, pq_z5]; rfl))
                 refine pu_z5 11 (some 16) ?_ mz5_37 rfl rfl (any_of HT_.out (by kernel_rfl)) (fun _ _ _ h => h) (Or.inl ⟨by rfl, ?_⟩) ?_ ?_ ?_
                 (rotate_left; ·(intro w'; go_simp; with_reducible rfl)); (rotate_left; ·(simp only [Act.put, pq_z5]; rfl))
                 refine pu_z5 12 (some 17) ?_ mz5_38 rfl rfl (any_of HT_.out (by kernel_rfl)) (fun _ _ _ h => h) (Or.inl ⟨by rfl, ?_⟩) ?_ ?_ ?_
                 (rotate_left; ·(intro w'; go_simp; with_reducible rfl)); (rotate_left; ·(simp only [Act.put, pq_z5]; rfl))
                 refine done_ (done_of HT_.out (by kernel_rfl)) ?_
                 have p516 : 0 ≤ (x13_2 : Int) := of_decide_eq_true (by assumption)
                 have q516 : x13_2 < (t501.length : Int) := of_decide_eq_true (by assumption)
                 obtain ⟨ad516, e516, hx516_0⟩ := Kd.at_int (Kd.R_reads' HO_7.out).2.2 x13_2 p516 q516
                 obtain rfl : ad509 = ad516 := (by injection e516)
                 replace p516 := eq_true p516
                 replace q516 := eq_true q516
                 try go_wp2_with (first | ((with_reducible refine gate_callee (f := 12) rfl ?_); refine goesL_ (some 112) rfl rfl Try.func12 (by kernel_rfl) rfl #[.slice Ao32 t497.length co32, .int .i64 (rd t501 x13_2)] rfl (by (try simp only [List.map_toArray, List.map_cons, List.map_nil]); first | done | rfl | (simp only [List.length_drop, List.length_take]; rfl)) ?_; (with_reducible refine (laws_a8Has.calls k2 _ _ t497 (rd t501 x13_2) false _ ?side1 ?side2 A65.out).mono ?_); (case side1 => repeat (first | exact (Kd.R_reads' HO_6.out).2.2 | (with_reducible refine Kd.C_alloc ?_ _) | (with_reducible refine Kd.C_drewN ?_ _) | (with_reducible refine Kd.C_drew ?_))); (case side2 => exact (Kd.R_reads' HO_6.out).2.1); rintro e w' ⟨rfl, ⟨nd, rfl⟩⟩; refine ⟨_, rfl, ?_⟩; have hnb103 := NB494_486.out; have hnc103 := NB486_494.out; have hcz104_0 : w102.cell? ⟨gb494, 0, none⟩ = some (.int .i64 t490) := (blk_cell BK494.out 0).trans rfl; have hcz104_1 : w102.cell? ⟨gb494, 1, none⟩ = some (.int .i64 t491) := (blk_cell BK494.out 1).trans rfl; have hcz104_2 : w102.cell? ⟨gb494, 2, none⟩ = some (.int .i64 t492) := (blk_cell BK494.out 2).trans rfl; have hcz104_3 : w102.cell? ⟨gb494, 3, none⟩ = some (.bool t493) := (blk_cell BK494.out 3).trans rfl; have hfz104_0 := blk_frozen BK494.out 0; have hfz104_1 := blk_frozen BK494.out 1; have hfz104_2 := blk_frozen BK494.out 2; have hfz104_3 := blk_frozen BK494.out 3; have p518 : 0 ≤ (x13_2 : Int) := of_decide_eq_true (by assumption); have q518 : x13_2 < (t501.length : Int) := of_decide_eq_true (by assumption); obtain ⟨ad518, e518, hx518_0⟩ := Kd.at_int (Kd.R_reads' HO_7.out).2.2 x13_2 p518 q518; obtain rfl : ad509 = ad518 := (by injection e518); replace p518 := eq_true p518; replace q518 := eq_true q518))
                 go_roundg k2
                 case measure => have := HJ11.out; have := HK2.out; omega
                 case rel => exact ⟨(wrap64 (x11_2 + 1)), (false), (wrap64 (x13_2 + 1)), (by first | rfl | (simp; done) | (simp [*]; done)), (by first | rfl | (simp; done) | (simp [*]; done)), (by first | rfl | (simp; done) | (simp [*]; done)), H', ⟨by have := HJ11.out; have := HK2.out; omega⟩, ⟨by (with_reducible repeat (first | apply Kd.R_alloc | apply Kd.R_drewN | apply Kd.R_drew)); exact HO_6.out⟩, ⟨by (with_reducible repeat (first | apply Kd.R_alloc | apply Kd.R_drewN | apply Kd.R_drew)); exact HO_7.out⟩, ⟨by (with_reducible repeat (first | apply Kd.R_alloc | apply Kd.R_drewN | apply Kd.R_drew)); exact HO_487000.out⟩, ⟨by (with_reducible repeat (first | apply Kd.S_alloc | apply Kd.S_drewN | apply Kd.S_drew)); exact HO_487001.out⟩, ⟨by (with_reducible repeat first | apply blk_drewN | apply blk_drew | apply blk_alloc); exact BK486.out⟩, ⟨by (with_reducible repeat first | apply blk_drewN | apply blk_drew | apply blk_alloc); exact BK494.out⟩, ⟨by repeat (first | (with_reducible first | exact HB.out | apply below_alloc | apply pw_below_drewN | apply below_drew1 | refine below_set ?_ GE486.out | refine below_set ?_ GE494.out) | exact HB.out)⟩⟩
               ·rw [if_neg c81] at H
                exact absurd H (by simp)
              ·rw [if_neg c80] at H
               have c80b0 : (t492 == 0) = false := beq_eq_false_iff_ne.mpr c80
               have c80b1 : (t492 != 0) = true := bne_iff_ne.mpr c80
               by_cases c112 : x12_2 = true
               ·subst c112
                have H1 : (if t493 = true then (laws_FnApart.l0 k2 t497 t501 t505 (wrap64 (x11_2 + 1)) true (wrap64 (x13_2 + 1)) t480 t483 t490 t491 t492 t493) else (none)) = some r := by rw [if_pos rfl] at H; exact H
                clear H
                have H := H1
                clear H1
                by_cases c113 : t493 = true
                ·subst c113
                 have H1 : (laws_FnApart.l0 k2 t497 t501 t505 (wrap64 (x11_2 + 1)) true (wrap64 (x13_2 + 1)) t480 t483 t490 t491 t492 true) = some r := by rw [if_pos rfl] at H; exact H
                 clear H
                 have H := H1
                 clear H1
                 have H' := Aside0.mk H
                 clear H
                 obtain ⟨Ao114, co114, eo114⟩ := Kd.R_slice HO_7.out
                 subst eo114
                 have p509 : 0 ≤ (x13_2 : Int) := of_decide_eq_true (by assumption)
                 have q509 : x13_2 < (t501.length : Int) := of_decide_eq_true (by assumption)
                 obtain ⟨ad509, e509, hx509_0⟩ := Kd.at_int (Kd.R_reads' HO_7.out).2.2 x13_2 p509 q509
                 cases e509
                 replace p509 := eq_true p509
                 replace q509 := eq_true q509
                 try go_wp2
                 have n0_ := Aside0.mk (Kd.R_drew HO_6.out)
                 have n1_ := Aside0.mk (Kd.R_drew HO_7.out)
                 have n2_ := Aside0.mk (Kd.R_drew HO_487000.out)
                 have n3_ := Aside0.mk (Kd.S_drew HO_487001.out)
                 have n4_ := Aside0.mk (blk_drew BK486.out)
                 have n5_ := Aside0.mk (blk_drew BK494.out)
                 have n6_ := Aside0.mk (below_drew1 HB.out)
                 clear HO_6
                 clear HO_7
                 clear HO_487000
                 clear HO_487001
                 clear BK486
                 clear BK494
                 clear HB
                 have HO_6 := n0_
                 have HO_7 := n1_
                 have HO_487000 := n2_
                 have HO_487001 := n3_
                 have BK486 := n4_
                 have BK494 := n5_
                 have HB := n6_
                 clear n0_ n1_ n2_ n3_ n4_ n5_ n6_
                 have p510 : 0 ≤ (x13_2 : Int) := of_decide_eq_true (by assumption)
                 have q510 : x13_2 < (t501.length : Int) := of_decide_eq_true (by assumption)
                 obtain ⟨ad510, e510, hx510_0⟩ := Kd.at_int (Kd.R_reads' HO_7.out).2.2 x13_2 p510 q510
                 obtain rfl : ad509 = ad510 := (by injection e510)
                 replace p510 := eq_true p510
                 replace q510 := eq_true q510
                 refine start_ (n := 11) (S := fun w' => w'.cell? ⟨gb486, 0, none⟩ = some (.slice Ao15 t480.length co15) ∧ w'.cell? ⟨gb486, 1, none⟩ = some (.slice Ao17 t483.length co17) ∧ w'.cell? (ad509.add (x13_2).toNat) = some (.int .i64 (rd t501 x13_2))) (ds := []) mz5_13 (by kernel_rfl) rfl rfl ⟨(blk_cell BK486.out 0).trans rfl, (blk_cell BK486.out 1).trans rfl, hx510_0⟩ (fun hHeld => ?_); refine with_tabW laws_FnApart.tab18 laws_FnApart.bits18 (fun HT_ HW_ => ?_)
                 generalize wr.drew = w115 at HO_6 HO_7 HO_487000 HO_487001 BK486 BK494 HB hx510_0 hHeld ⊢
                 refine pu_z5 1 (some 89) ?_ mz5_14 rfl rfl (any_of HT_.out (by kernel_rfl)) (fun _ _ _ h => h) (Or.inl ⟨by rfl, ?_⟩) ?_ ?_ ?_
                 (rotate_left; ·(intro w'; go_simp; with_reducible rfl)); (rotate_left; ·(simp only [Act.put, pq_z5]; rfl))
                 refine pu_z5 2 (some 90) ?_ mz5_15 rfl rfl (any_of HT_.out (by kernel_rfl)) (fun _ _ _ h => h) (Or.inl ⟨by rfl, ?_⟩) ?_ ?_ ?_
                 (rotate_left; ·(intro w'; go_simp; with_reducible rfl)); (rotate_left; ·(simp only [Act.put, pq_z5]; rfl))
                 refine pu_z5 3 (some 91) ?_ mz5_16 rfl rfl (any_of HT_.out (by kernel_rfl)) (fun _ _ _ h => h) (Or.inl ⟨by rfl, ?_⟩) ?_ ?_ ?_
                 (rotate_left; ·(intro w'; go_simp; with_reducible rfl)); (rotate_left; ·(simp only [Act.put, pq_z5]; rfl))
                 refine take_ (i := 0) (N := some 88) (v := ?_) (a' := ?_) mz5_17 rfl rfl (take_ofW HT_.out HW_.out (by kernel_rfl)) (fun _ _ _ h => h) (Or.inl ⟨by rfl, ?_⟩) hHeld ?_ ?_
                 (rotate_left; ·(rintro w' ⟨s0, s1, s2⟩; go_simp; with_reducible rfl)); (rotate_left; ·(simp only [Act.put, pq_z5]; rfl))
                 refine take_ (i := 4) (N := some 92) (v := ?_) (a' := ?_) mz5_18 rfl rfl (take_ofW HT_.out HW_.out (by kernel_rfl)) (fun _ _ _ h => h) (Or.inl ⟨by rfl, ?_⟩) hHeld ?_ ?_
                 (rotate_left; ·(rintro w' ⟨s0, s1, s2⟩; go_simp; with_reducible rfl)); (rotate_left; ·(simp only [Act.put, pq_z5]; rfl))
                 refine one_ (i := 5) (N := some 93) mz5_19 rfl rfl (one_of HT_.out (by kernel_rfl)) (by decide) (fun K hK => ?_)
                 refine goes_ Try.func19 (by kernel_rfl) rfl #[.agg #[.slice Ao15 t480.length co15, .slice Ao17 t483.length co17], .int .i64 (rd t501 x13_2)] (by rfl) rfl rfl (by (try simp only [List.map_toArray, List.map_cons, List.map_nil]); first | done | rfl | (simp only [List.length_drop, List.length_take]; rfl)) ?_
                 with_reducible refine (impl_WeightOf.calls k2 _ _ t480 _ _ t483 (rd t501 x13_2) t511 t512 _ ?side1 ?side2 ?side3 ?side4 A63.out).mono ?_
                 (case side1 => repeat (first | exact (Kd.R_reads' HO_487000.out).2.2 | (with_reducible refine Kd.C_alloc ?_ _) | (with_reducible refine Kd.C_drewN ?_ _) | (with_reducible refine Kd.C_drew ?_)))
                 (case side2 => exact (Kd.R_reads' HO_487000.out).2.1)
                 (case side3 => repeat (first | exact (Kd.S_reads' HO_487001.out).2.2 | (with_reducible refine Kd.C_alloc ?_ _) | (with_reducible refine Kd.C_drewN ?_ _) | (with_reducible refine Kd.C_drew ?_)))
                 (case side4 => exact (Kd.S_reads' HO_487001.out).2.1)
                 rintro e w116 ⟨rfl, hb⟩
                 have HS2_ := (hb.cell (World.block_lt_of_cell? _ _ (hHeld.2.2))).trans (hHeld.2.2)
                 refine ⟨_, rfl, ?_⟩
                 have n0_ := Aside0.mk (Kd.R_below (by (with_reducible repeat (first | apply Kd.R_alloc | apply Kd.R_drewN | apply Kd.R_drew)); exact HO_6.out) hb)
                 have n1_ := Aside0.mk (Kd.R_below (by (with_reducible repeat (first | apply Kd.R_alloc | apply Kd.R_drewN | apply Kd.R_drew)); exact HO_7.out) hb)
                 have n2_ := Aside0.mk (Kd.R_below (by (with_reducible repeat (first | apply Kd.R_alloc | apply Kd.R_drewN | apply Kd.R_drew)); exact HO_487000.out) hb)
                 have n3_ := Aside0.mk (Kd.S_below (by (with_reducible repeat (first | apply Kd.S_alloc | apply Kd.S_drewN | apply Kd.S_drew)); exact HO_487001.out) hb)
                 have n4_ := Aside0.mk (blk_below (g := gb486) (o := .cells #[.slice Ao15 t480.length co15, .slice Ao17 t483.length co17] 26 (0, 0)) (by (with_reducible repeat first | apply blk_drewN | apply blk_drew | apply blk_alloc); exact BK486.out) hb)
                 have n5_ := Aside0.mk (blk_below (g := gb494) (o := .cells #[.int .i64 t490, .int .i64 t491, .int .i64 t492, .bool true] 29 (0, 0)) (by (with_reducible repeat first | apply blk_drewN | apply blk_drew | apply blk_alloc); exact BK494.out) hb)
                 have n6_ := Aside0.mk (below_step (by repeat (first | (with_reducible first | exact HB.out | apply below_alloc | apply pw_below_drewN | apply below_drew1 | refine below_set ?_ GE486.out | refine below_set ?_ GE494.out) | exact HB.out)) hb)
                 clear HO_6
                 clear HO_7
                 clear HO_487000
                 clear HO_487001
                 clear BK486
                 clear BK494
                 clear HB
                 have HO_6 := n0_
                 have HO_7 := n1_
                 have HO_487000 := n2_
                 have HO_487001 := n3_
                 have BK486 := n4_
                 have BK494 := n5_
                 have HB := n6_
                 clear n0_ n1_ n2_ n3_ n4_ n5_ n6_
                 (try clear hb)
                 (try clear hb2)
                 (try clear hk)
                 (try clear hi)
                 refine hK.out _ _ ⟨(blk_cell BK486.out 0).trans rfl, (blk_cell BK486.out 1).trans rfl, HS2_⟩ (fun hHeld => ?_)
                 clear hK K
                 refine norm_ (a' := ?_) ?_ ?_
                 (rotate_left; ·(show Act.put _ (some 93) _ = _; simp only [Act.put, pq_z5]; rfl))
                 refine pu_z5 6 (some 87) ?_ mz5_20 rfl rfl (any_of HT_.out (by kernel_rfl)) (fun _ _ _ h => h) (Or.inl ⟨by rfl, ?_⟩) ?_ ?_ ?_
                 (rotate_left; ·(intro w'; go_simp; with_reducible rfl)); (rotate_left; ·(simp only [Act.put, pq_z5]; rfl))
                 refine pu_z5 7 (some 94) ?_ mz5_21 rfl rfl (any_of HT_.out (by kernel_rfl)) (fun _ _ _ h => h) (Or.inl ⟨by rfl, ?_⟩) ?_ ?_ ?_
                 (rotate_left; ·(intro w'; go_simp; with_reducible rfl)); (rotate_left; ·(simp only [Act.put, pq_z5]; rfl))
                 refine pu_z5 8 (some 95) ?_ mz5_22 rfl rfl (any_of HT_.out (by kernel_rfl)) (fun _ _ _ h => h) (Or.inl ⟨by rfl, ?_⟩) ?_ ?_ ?_
                 (rotate_left; ·(intro w'; go_simp; with_reducible rfl)); (rotate_left; ·(simp only [Act.put, pq_z5]; rfl))
                 refine pu_z5 9 (some 14) ?_ mz5_23 rfl rfl (any_of HT_.out (by kernel_rfl)) (fun _ _ _ h => h) (Or.inl ⟨by rfl, ?_⟩) ?_ ?_ ?_
                 (rotate_left; ·(intro w'; go_simp; with_reducible rfl)); (rotate_left; ·(simp only [Act.put, pq_z5]; rfl))
                 refine pu_z5 10 (some 15) ?_ mz5_24 rfl rfl (any_of HT_.out (by kernel_rfl)) (fun _ _ _ h => h) (Or.inl ⟨by rfl, ?_⟩) ?_ ?_ ?_
                 (rotate_left; ·(intro w'; go_simp; with_reducible rfl)); (rotate_left; ·(simp only [Act.put, pq_z5]; rfl))
                 refine done_ (done_of HT_.out (by kernel_rfl)) ?_
                 try go_wp2
                 have n0_ := Aside0.mk (Kd.R_drew HO_6.out)
                 have n1_ := Aside0.mk (Kd.R_drew HO_7.out)
                 have n2_ := Aside0.mk (Kd.R_drew HO_487000.out)
                 have n3_ := Aside0.mk (Kd.S_drew HO_487001.out)
                 have n4_ := Aside0.mk (blk_drew BK486.out)
                 have n5_ := Aside0.mk (blk_drew BK494.out)
                 have n6_ := Aside0.mk (below_drew1 HB.out)
                 clear HO_6
                 clear HO_7
                 clear HO_487000
                 clear HO_487001
                 clear BK486
                 clear BK494
                 clear HB
                 have HO_6 := n0_
                 have HO_7 := n1_
                 have HO_487000 := n2_
                 have HO_487001 := n3_
                 have BK486 := n4_
                 have BK494 := n5_
                 have HB := n6_
                 clear n0_ n1_ n2_ n3_ n4_ n5_ n6_
                 have p513 : 0 ≤ (x13_2 : Int) := of_decide_eq_true (by assumption)
                 have q513 : x13_2 < (t501.length : Int) := of_decide_eq_true (by assumption)
                 obtain ⟨ad513, e513, hx513_0⟩ := Kd.at_int (Kd.R_reads' HO_7.out).2.2 x13_2 p513 q513
                 obtain rfl : ad509 = ad513 := (by injection e513)
                 replace p513 := eq_true p513
                 replace q513 := eq_true q513
                 refine start_ (n := 13) (S := fun w' => w'.cell? ⟨gb486, 0, none⟩ = some (.slice Ao15 t480.length co15) ∧ w'.cell? ⟨gb486, 1, none⟩ = some (.slice Ao17 t483.length co17) ∧ w'.cell? ⟨gb494, 0, none⟩ = some (.int .i64 t490) ∧ w'.cell? ⟨gb494, 1, none⟩ = some (.int .i64 t491) ∧ w'.cell? ⟨gb494, 2, none⟩ = some (.int .i64 t492) ∧ w'.cell? ⟨gb494, 3, none⟩ = some (.bool true) ∧ w'.cell? (ad509.add (x13_2).toNat) = some (.int .i64 (rd t501 x13_2))) (ds := []) mz5_25 (by kernel_rfl) rfl rfl ⟨(blk_cell BK486.out 0).trans rfl, (blk_cell BK486.out 1).trans rfl, (blk_cell BK494.out 0).trans rfl, (blk_cell BK494.out 1).trans rfl, (blk_cell BK494.out 2).trans rfl, (blk_cell BK494.out 3).trans rfl, hx513_0⟩ (fun hHeld => ?_); refine with_tabW laws_FnApart.tab19 laws_FnApart.bits19 (fun HT_ HW_ => ?_)
                 generalize w116.drew = w117 at HO_6 HO_7 HO_487000 HO_487001 BK486 BK494 HB hx513_0 hHeld ⊢
                 refine pu_z5 1 (some 98) ?_ mz5_26 rfl rfl (any_of HT_.out (by kernel_rfl)) (fun _ _ _ h => h) (Or.inl ⟨by rfl, ?_⟩) ?_ ?_ ?_
                 (rotate_left; ·(intro w'; go_simp; with_reducible rfl)); (rotate_left; ·(simp only [Act.put, pq_z5]; rfl))
                 refine pu_z5 3 (some 100) ?_ mz5_27 rfl rfl (any_of HT_.out (by kernel_rfl)) (fun _ _ _ h => h) (Or.inl ⟨by rfl, ?_⟩) ?_ ?_ ?_
                 (rotate_left; ·(intro w'; go_simp; with_reducible rfl)); (rotate_left; ·(simp only [Act.put, pq_z5]; rfl))
                 refine pu_z5 4 (some 101) ?_ mz5_28 rfl rfl (any_of HT_.out (by kernel_rfl)) (fun _ _ _ h => h) (Or.inl ⟨by rfl, ?_⟩) ?_ ?_ ?_
                 (rotate_left; ·(intro w'; go_simp; with_reducible rfl)); (rotate_left; ·(simp only [Act.put, pq_z5]; rfl))
                 refine pu_z5 5 (some 102) ?_ mz5_29 rfl rfl (any_of HT_.out (by kernel_rfl)) (fun _ _ _ h => h) (Or.inl ⟨by rfl, ?_⟩) ?_ ?_ ?_
                 (rotate_left; ·(intro w'; go_simp; with_reducible rfl)); (rotate_left; ·(simp only [Act.put, pq_z5]; rfl))
                 refine take_ (i := 0) (N := some 97) (v := ?_) (a' := ?_) mz5_30 rfl rfl (take_ofW HT_.out HW_.out (by kernel_rfl)) (fun _ _ _ h => h) (Or.inl ⟨by rfl, ?_⟩) hHeld ?_ ?_
                 (rotate_left; ·(rintro w' ⟨s0, s1, s2, s3, s4, s5, s6⟩; go_simp; with_reducible rfl)); (rotate_left; ·(simp only [Act.put, pq_z5]; rfl))
                 refine take_ (i := 2) (N := some 99) (v := ?_) (a' := ?_) mz5_31 rfl rfl (take_ofW HT_.out HW_.out (by kernel_rfl)) (fun _ _ _ h => h) (Or.inl ⟨by rfl, ?_⟩) hHeld ?_ ?_
                 (rotate_left; ·(rintro w' ⟨s0, s1, s2, s3, s4, s5, s6⟩; go_simp; with_reducible rfl)); (rotate_left; ·(simp only [Act.put, pq_z5]; rfl))
                 refine take_ (i := 6) (N := some 103) (v := ?_) (a' := ?_) mz5_32 rfl rfl (take_ofW HT_.out HW_.out (by kernel_rfl)) (fun _ _ _ h => h) (Or.inl ⟨by rfl, ?_⟩) hHeld ?_ ?_
                 (rotate_left; ·(rintro w' ⟨s0, s1, s2, s3, s4, s5, s6⟩; go_simp; with_reducible rfl)); (rotate_left; ·(simp only [Act.put, pq_z5]; rfl))
                 refine one_ (i := 7) (N := some 104) mz5_33 rfl rfl (one_of HT_.out (by kernel_rfl)) (by decide) (fun K hK => ?_)
                 refine goes_ Try.func20 (by kernel_rfl) rfl #[.agg #[.slice Ao15 t480.length co15, .slice Ao17 t483.length co17], .int .i64 t492, .int .i64 (rd t501 x13_2)] (by rfl) rfl rfl (by (try simp only [List.map_toArray, List.map_cons, List.map_nil]); first | done | rfl | (simp only [List.length_drop, List.length_take]; rfl)) ?_
                 with_reducible refine (impl_DomainOf.calls k2 _ _ t480 _ _ t483 t492 (rd t501 x13_2) t514 t515 _ ?side1 ?side2 ?side3 ?side4 A64.out).mono ?_
                 (case side1 => repeat (first | exact (Kd.R_reads' HO_487000.out).2.2 | (with_reducible refine Kd.C_alloc ?_ _) | (with_reducible refine Kd.C_drewN ?_ _) | (with_reducible refine Kd.C_drew ?_)))
                 (case side2 => exact (Kd.R_reads' HO_487000.out).2.1)
                 (case side3 => repeat (first | exact (Kd.S_reads' HO_487001.out).2.2 | (with_reducible refine Kd.C_alloc ?_ _) | (with_reducible refine Kd.C_drewN ?_ _) | (with_reducible refine Kd.C_drew ?_)))
                 (case side4 => exact (Kd.S_reads' HO_487001.out).2.1)
                 rintro e w118 ⟨rfl, hb⟩
                 have HS6_ := (hb.cell (World.block_lt_of_cell? _ _ (hHeld.2.2.2.2.2.2))).trans (hHeld.2.2.2.2.2.2)
                 refine ⟨_, rfl, ?_⟩
                 have n0_ := Aside0.mk (Kd.R_below (by (with_reducible repeat (first | apply Kd.R_alloc | apply Kd.R_drewN | apply Kd.R_drew)); exact HO_6.out) hb)
                 have n1_ := Aside0.mk (Kd.R_below (by (with_reducible repeat (first | apply Kd.R_alloc | apply Kd.R_drewN | apply Kd.R_drew)); exact HO_7.out) hb)
                 have n2_ := Aside0.mk (Kd.R_below (by (with_reducible repeat (first | apply Kd.R_alloc | apply Kd.R_drewN | apply Kd.R_drew)); exact HO_487000.out) hb)
                 have n3_ := Aside0.mk (Kd.S_below (by (with_reducible repeat (first | apply Kd.S_alloc | apply Kd.S_drewN | apply Kd.S_drew)); exact HO_487001.out) hb)
                 have n4_ := Aside0.mk (blk_below (g := gb486) (o := .cells #[.slice Ao15 t480.length co15, .slice Ao17 t483.length co17] 26 (0, 0)) (by (with_reducible repeat first | apply blk_drewN | apply blk_drew | apply blk_alloc); exact BK486.out) hb)
                 have n5_ := Aside0.mk (blk_below (g := gb494) (o := .cells #[.int .i64 t490, .int .i64 t491, .int .i64 t492, .bool true] 29 (0, 0)) (by (with_reducible repeat first | apply blk_drewN | apply blk_drew | apply blk_alloc); exact BK494.out) hb)
                 have n6_ := Aside0.mk (below_step (by repeat (first | (with_reducible first | exact HB.out | apply below_alloc | apply pw_below_drewN | apply below_drew1 | refine below_set ?_ GE486.out | refine below_set ?_ GE494.out) | exact HB.out)) hb)
                 clear HO_6
                 clear HO_7
                 clear HO_487000
                 clear HO_487001
                 clear BK486
                 clear BK494
                 clear HB
                 have HO_6 := n0_
                 have HO_7 := n1_
                 have HO_487000 := n2_
                 have HO_487001 := n3_
                 have BK486 := n4_
                 have BK494 := n5_
                 have HB := n6_
                 clear n0_ n1_ n2_ n3_ n4_ n5_ n6_
                 (try clear hb)
                 (try clear hb2)
                 (try clear hk)
                 (try clear hi)
                 refine hK.out _ _ ⟨(blk_cell BK486.out 0).trans rfl, (blk_cell BK486.out 1).trans rfl, (blk_cell BK494.out 0).trans rfl, (blk_cell BK494.out 1).trans rfl, (blk_cell BK494.out 2).trans rfl, (blk_cell BK494.out 3).trans rfl, HS6_⟩ (fun hHeld => ?_)
                 clear hK K
                 refine norm_ (a' := ?_) ?_ ?_
                 (rotate_left; ·(show Act.put _ (some 104) _ = _; simp only [Act.put, pq_z5]; rfl))
                 refine pu_z5 8 (some 96) ?_ mz5_34 rfl rfl (any_of HT_.out (by kernel_rfl)) (fun _ _ _ h => h) (Or.inl ⟨by rfl, ?_⟩) ?_ ?_ ?_
                 (rotate_left; ·(intro w'; go_simp; with_reducible rfl)); (rotate_left; ·(simp only [Act.put, pq_z5]; rfl))
                 refine pu_z5 9 (some 105) ?_ mz5_35 rfl rfl (any_of HT_.out (by kernel_rfl)) (fun _ _ _ h => h) (Or.inl ⟨by rfl, ?_⟩) ?_ ?_ ?_
                 (rotate_left; ·(intro w'; go_simp; with_reducible rfl)); (rotate_left; ·(simp only [Act.put, pq_z5]; rfl))
                 refine pu_z5 10 (some 106) ?_ mz5_36 rfl rfl (any_of HT_.out (by kernel_rfl)) (fun _ _ _ h => h) (Or.inl ⟨by rfl, ?_⟩) ?_ ?_ ?_
                 (rotate_left; ·(intro w'; go_simp; with_reducible rfl)); (rotate_left; ·(simp only [Act.put, pq_z5]; rfl))
                 refine pu_z5 11 (some 16) ?_ mz5_37 rfl rfl (any_of HT_.out (by kernel_rfl)) (fun _ _ _ h => h) (Or.inl ⟨by rfl, ?_⟩) ?_ ?_ ?_
                 (rotate_left; ·(intro w'; go_simp; with_reducible rfl)); (rotate_left; ·(simp only [Act.put, pq_z5]; rfl))
                 refine pu_z5 12 (some 17) ?_ mz5_38 rfl rfl (any_of HT_.out (by kernel_rfl)) (fun _ _ _ h => h) (Or.inl ⟨by rfl, ?_⟩) ?_ ?_ ?_
                 (rotate_left; ·(intro w'; go_simp; with_reducible rfl)); (rotate_left; ·(simp only [Act.put, pq_z5]; rfl))
                 refine done_ (done_of HT_.out (by kernel_rfl)) ?_
                 have p516 : 0 ≤ (x13_2 : Int) := of_decide_eq_true (by assumption)
                 have q516 : x13_2 < (t501.length : Int) := of_decide_eq_true (by assumption)
                 obtain ⟨ad516, e516, hx516_0⟩ := Kd.at_int (Kd.R_reads' HO_7.out).2.2 x13_2 p516 q516
                 obtain rfl : ad509 = ad516 := (by injection e516)
                 replace p516 := eq_true p516
                 replace q516 := eq_true q516
                 try go_wp2_with (first | ((with_reducible refine gate_callee (f := 12) rfl ?_); refine goesL_ (some 112) rfl rfl Try.func12 (by kernel_rfl) rfl #[.slice Ao32 t497.length co32, .int .i64 (rd t501 x13_2)] rfl (by (try simp only [List.map_toArray, List.map_cons, List.map_nil]); first | done | rfl | (simp only [List.length_drop, List.length_take]; rfl)) ?_; (with_reducible refine (laws_a8Has.calls k2 _ _ t497 (rd t501 x13_2) false _ ?side1 ?side2 A65.out).mono ?_); (case side1 => repeat (first | exact (Kd.R_reads' HO_6.out).2.2 | (with_reducible refine Kd.C_alloc ?_ _) | (with_reducible refine Kd.C_drewN ?_ _) | (with_reducible refine Kd.C_drew ?_))); (case side2 => exact (Kd.R_reads' HO_6.out).2.1); rintro e w' ⟨rfl, ⟨nd, rfl⟩⟩; refine ⟨_, rfl, ?_⟩; have hnb119 := NB494_486.out; have hnc119 := NB486_494.out; have hcz120_0 : w118.cell? ⟨gb494, 0, none⟩ = some (.int .i64 t490) := (blk_cell BK494.out 0).trans rfl; have hcz120_1 : w118.cell? ⟨gb494, 1, none⟩ = some (.int .i64 t491) := (blk_cell BK494.out 1).trans rfl; have hcz120_2 : w118.cell? ⟨gb494, 2, none⟩ = some (.int .i64 t492) := (blk_cell BK494.out 2).trans rfl; have hcz120_3 : w118.cell? ⟨gb494, 3, none⟩ = some (.bool true) := (blk_cell BK494.out 3).trans rfl; have hfz120_0 := blk_frozen BK494.out 0; have hfz120_1 := blk_frozen BK494.out 1; have hfz120_2 := blk_frozen BK494.out 2; have hfz120_3 := blk_frozen BK494.out 3))
                 go_roundg k2
                 case measure => have := HJ11.out; have := HK2.out; omega
                 case rel => exact ⟨(wrap64 (x11_2 + 1)), (true), (wrap64 (x13_2 + 1)), (by first | rfl | (simp; done) | (simp [*]; done)), (by first | rfl | (simp; done) | (simp [*]; done)), (by first | rfl | (simp; done) | (simp [*]; done)), H', ⟨by have := HJ11.out; have := HK2.out; omega⟩, ⟨by (with_reducible repeat (first | apply Kd.R_alloc | apply Kd.R_drewN | apply Kd.R_drew)); exact HO_6.out⟩, ⟨by (with_reducible repeat (first | apply Kd.R_alloc | apply Kd.R_drewN | apply Kd.R_drew)); exact HO_7.out⟩, ⟨by (with_reducible repeat (first | apply Kd.R_alloc | apply Kd.R_drewN | apply Kd.R_drew)); exact HO_487000.out⟩, ⟨by (with_reducible repeat (first | apply Kd.S_alloc | apply Kd.S_drewN | apply Kd.S_drew)); exact HO_487001.out⟩, ⟨by (with_reducible repeat first | apply blk_drewN | apply blk_drew | apply blk_alloc); exact BK486.out⟩, ⟨by (with_reducible repeat first | apply blk_drewN | apply blk_drew | apply blk_alloc); exact BK494.out⟩, ⟨by repeat (first | (with_reducible first | exact HB.out | apply below_alloc | apply pw_below_drewN | apply below_drew1 | refine below_set ?_ GE486.out | refine below_set ?_ GE494.out) | exact HB.out)⟩⟩
                ·replace c113 := Bool.eq_false_iff.mpr c113
                 subst c113
                 have H1 : (none) = some r := by rw [if_neg (show ¬ (false = true) by decide)] at H; exact H
                 exact absurd H1 (by simp)
               ·replace c112 := Bool.eq_false_iff.mpr c112
                subst c112
                have H1 : (laws_FnApart.l0 k2 t497 t501 t505 (wrap64 (x11_2 + 1)) false (wrap64 (x13_2 + 1)) t480 t483 t490 t491 t492 t493) = some r := by rw [if_neg (show ¬ (false = true) by decide)] at H; exact H
                clear H
                have H := H1
                clear H1
                have H' := Aside0.mk H
                clear H
                obtain ⟨Ao128, co128, eo128⟩ := Kd.R_slice HO_7.out
                subst eo128
                have p509 : 0 ≤ (x13_2 : Int) := of_decide_eq_true (by assumption)
                have q509 : x13_2 < (t501.length : Int) := of_decide_eq_true (by assumption)
                obtain ⟨ad509, e509, hx509_0⟩ := Kd.at_int (Kd.R_reads' HO_7.out).2.2 x13_2 p509 q509
                cases e509
                replace p509 := eq_true p509
                replace q509 := eq_true q509
                try go_wp2
                have n0_ := Aside0.mk (Kd.R_drew HO_6.out)
                have n1_ := Aside0.mk (Kd.R_drew HO_7.out)
                have n2_ := Aside0.mk (Kd.R_drew HO_487000.out)
                have n3_ := Aside0.mk (Kd.S_drew HO_487001.out)
                have n4_ := Aside0.mk (blk_drew BK486.out)
                have n5_ := Aside0.mk (blk_drew BK494.out)
                have n6_ := Aside0.mk (below_drew1 HB.out)
                clear HO_6
                clear HO_7
                clear HO_487000
                clear HO_487001
                clear BK486
                clear BK494
                clear HB
                have HO_6 := n0_
                have HO_7 := n1_
                have HO_487000 := n2_
                have HO_487001 := n3_
                have BK486 := n4_
                have BK494 := n5_
                have HB := n6_
                clear n0_ n1_ n2_ n3_ n4_ n5_ n6_
                have p510 : 0 ≤ (x13_2 : Int) := of_decide_eq_true (by assumption)
                have q510 : x13_2 < (t501.length : Int) := of_decide_eq_true (by assumption)
                obtain ⟨ad510, e510, hx510_0⟩ := Kd.at_int (Kd.R_reads' HO_7.out).2.2 x13_2 p510 q510
                obtain rfl : ad509 = ad510 := (by injection e510)
                replace p510 := eq_true p510
                replace q510 := eq_true q510
                refine start_ (n := 11) (S := fun w' => w'.cell? ⟨gb486, 0, none⟩ = some (.slice Ao15 t480.length co15) ∧ w'.cell? ⟨gb486, 1, none⟩ = some (.slice Ao17 t483.length co17) ∧ w'.cell? (ad509.add (x13_2).toNat) = some (.int .i64 (rd t501 x13_2))) (ds := []) mz5_13 (by kernel_rfl) rfl rfl ⟨(blk_cell BK486.out 0).trans rfl, (blk_cell BK486.out 1).trans rfl, hx510_0⟩ (fun hHeld => ?_); refine with_tabW laws_FnApart.tab18 laws_FnApart.bits18 (fun HT_ HW_ => ?_)
                generalize wr.drew = w129 at HO_6 HO_7 HO_487000 HO_487001 BK486 BK494 HB hx510_0 hHeld ⊢
                refine pu_z5 1 (some 89) ?_ mz5_14 rfl rfl (any_of HT_.out (by kernel_rfl)) (fun _ _ _ h => h) (Or.inl ⟨by rfl, ?_⟩) ?_ ?_ ?_
                (rotate_left; ·(intro w'; go_simp; with_reducible rfl)); (rotate_left; ·(simp only [Act.put, pq_z5]; rfl))
                refine pu_z5 2 (some 90) ?_ mz5_15 rfl rfl (any_of HT_.out (by kernel_rfl)) (fun _ _ _ h => h) (Or.inl ⟨by rfl, ?_⟩) ?_ ?_ ?_
                (rotate_left; ·(intro w'; go_simp; with_reducible rfl)); (rotate_left; ·(simp only [Act.put, pq_z5]; rfl))
                refine pu_z5 3 (some 91) ?_ mz5_16 rfl rfl (any_of HT_.out (by kernel_rfl)) (fun _ _ _ h => h) (Or.inl ⟨by rfl, ?_⟩) ?_ ?_ ?_
                (rotate_left; ·(intro w'; go_simp; with_reducible rfl)); (rotate_left; ·(simp only [Act.put, pq_z5]; rfl))
                refine take_ (i := 0) (N := some 88) (v := ?_) (a' := ?_) mz5_17 rfl rfl (take_ofW HT_.out HW_.out (by kernel_rfl)) (fun _ _ _ h => h) (Or.inl ⟨by rfl, ?_⟩) hHeld ?_ ?_
                (rotate_left; ·(rintro w' ⟨s0, s1, s2⟩; go_simp; with_reducible rfl)); (rotate_left; ·(simp only [Act.put, pq_z5]; rfl))
                refine take_ (i := 4) (N := some 92) (v := ?_) (a' := ?_) mz5_18 rfl rfl (take_ofW HT_.out HW_.out (by kernel_rfl)) (fun _ _ _ h => h) (Or.inl ⟨by rfl, ?_⟩) hHeld ?_ ?_
                (rotate_left; ·(rintro w' ⟨s0, s1, s2⟩; go_simp; with_reducible rfl)); (rotate_left; ·(simp only [Act.put, pq_z5]; rfl))
                refine one_ (i := 5) (N := some 93) mz5_19 rfl rfl (one_of HT_.out (by kernel_rfl)) (by decide) (fun K hK => ?_)
                refine goes_ Try.func19 (by kernel_rfl) rfl #[.agg #[.slice Ao15 t480.length co15, .slice Ao17 t483.length co17], .int .i64 (rd t501 x13_2)] (by rfl) rfl rfl (by (try simp only [List.map_toArray, List.map_cons, List.map_nil]); first | done | rfl | (simp only [List.length_drop, List.length_take]; rfl)) ?_
                with_reducible refine (impl_WeightOf.calls k2 _ _ t480 _ _ t483 (rd t501 x13_2) t511 t512 _ ?side1 ?side2 ?side3 ?side4 A63.out).mono ?_
                (case side1 => repeat (first | exact (Kd.R_reads' HO_487000.out).2.2 | (with_reducible refine Kd.C_alloc ?_ _) | (with_reducible refine Kd.C_drewN ?_ _) | (with_reducible refine Kd.C_drew ?_)))
                (case side2 => exact (Kd.R_reads' HO_487000.out).2.1)
                (case side3 => repeat (first | exact (Kd.S_reads' HO_487001.out).2.2 | (with_reducible refine Kd.C_alloc ?_ _) | (with_reducible refine Kd.C_drewN ?_ _) | (with_reducible refine Kd.C_drew ?_)))
                (case side4 => exact (Kd.S_reads' HO_487001.out).2.1)
                rintro e w130 ⟨rfl, hb⟩
                have HS2_ := (hb.cell (World.block_lt_of_cell? _ _ (hHeld.2.2))).trans (hHeld.2.2)
                refine ⟨_, rfl, ?_⟩
                have n0_ := Aside0.mk (Kd.R_below (by (with_reducible repeat (first | apply Kd.R_alloc | apply Kd.R_drewN | apply Kd.R_drew)); exact HO_6.out) hb)
                have n1_ := Aside0.mk (Kd.R_below (by (with_reducible repeat (first | apply Kd.R_alloc | apply Kd.R_drewN | apply Kd.R_drew)); exact HO_7.out) hb)
                have n2_ := Aside0.mk (Kd.R_below (by (with_reducible repeat (first | apply Kd.R_alloc | apply Kd.R_drewN | apply Kd.R_drew)); exact HO_487000.out) hb)
                have n3_ := Aside0.mk (Kd.S_below (by (with_reducible repeat (first | apply Kd.S_alloc | apply Kd.S_drewN | apply Kd.S_drew)); exact HO_487001.out) hb)
                have n4_ := Aside0.mk (blk_below (g := gb486) (o := .cells #[.slice Ao15 t480.length co15, .slice Ao17 t483.length co17] 26 (0, 0)) (by (with_reducible repeat first | apply blk_drewN | apply blk_drew | apply blk_alloc); exact BK486.out) hb)
                have n5_ := Aside0.mk (blk_below (g := gb494) (o := .cells #[.int .i64 t490, .int .i64 t491, .int .i64 t492, .bool t493] 29 (0, 0)) (by (with_reducible repeat first | apply blk_drewN | apply blk_drew | apply blk_alloc); exact BK494.out) hb)
                have n6_ := Aside0.mk (below_step (by repeat (first | (with_reducible first | exact HB.out | apply below_alloc | apply pw_below_drewN | apply below_drew1 | refine below_set ?_ GE486.out | refine below_set ?_ GE494.out) | exact HB.out)) hb)
                clear HO_6
                clear HO_7
                clear HO_487000
                clear HO_487001
                clear BK486
                clear BK494
                clear HB
                have HO_6 := n0_
                have HO_7 := n1_
                have HO_487000 := n2_
                have HO_487001 := n3_
                have BK486 := n4_
                have BK494 := n5_
                have HB := n6_
                clear n0_ n1_ n2_ n3_ n4_ n5_ n6_
                (try clear hb)
                (try clear hb2)
                (try clear hk)
                (try clear hi)
                refine hK.out _ _ ⟨(blk_cell BK486.out 0).trans rfl, (blk_cell BK486.out 1).trans rfl, HS2_⟩ (fun hHeld => ?_)
                clear hK K
                refine norm_ (a' := ?_) ?_ ?_
                (rotate_left; ·(show Act.put _ (some 93) _ = _; simp only [Act.put, pq_z5]; rfl))
                refine pu_z5 6 (some 87) ?_ mz5_20 rfl rfl (any_of HT_.out (by kernel_rfl)) (fun _ _ _ h => h) (Or.inl ⟨by rfl, ?_⟩) ?_ ?_ ?_
                (rotate_left; ·(intro w'; go_simp; with_reducible rfl)); (rotate_left; ·(simp only [Act.put, pq_z5]; rfl))
                refine pu_z5 7 (some 94) ?_ mz5_21 rfl rfl (any_of HT_.out (by kernel_rfl)) (fun _ _ _ h => h) (Or.inl ⟨by rfl, ?_⟩) ?_ ?_ ?_
                (rotate_left; ·(intro w'; go_simp; with_reducible rfl)); (rotate_left; ·(simp only [Act.put, pq_z5]; rfl))
                refine pu_z5 8 (some 95) ?_ mz5_22 rfl rfl (any_of HT_.out (by kernel_rfl)) (fun _ _ _ h => h) (Or.inl ⟨by rfl, ?_⟩) ?_ ?_ ?_
                (rotate_left; ·(intro w'; go_simp; with_reducible rfl)); (rotate_left; ·(simp only [Act.put, pq_z5]; rfl))
                refine pu_z5 9 (some 14) ?_ mz5_23 rfl rfl (any_of HT_.out (by kernel_rfl)) (fun _ _ _ h => h) (Or.inl ⟨by rfl, ?_⟩) ?_ ?_ ?_
                (rotate_left; ·(intro w'; go_simp; with_reducible rfl)); (rotate_left; ·(simp only [Act.put, pq_z5]; rfl))
                refine pu_z5 10 (some 15) ?_ mz5_24 rfl rfl (any_of HT_.out (by kernel_rfl)) (fun _ _ _ h => h) (Or.inl ⟨by rfl, ?_⟩) ?_ ?_ ?_
                (rotate_left; ·(intro w'; go_simp; with_reducible rfl)); (rotate_left; ·(simp only [Act.put, pq_z5]; rfl))
                refine done_ (done_of HT_.out (by kernel_rfl)) ?_
                try go_wp2
                have n0_ := Aside0.mk (Kd.R_drew HO_6.out)
                have n1_ := Aside0.mk (Kd.R_drew HO_7.out)
                have n2_ := Aside0.mk (Kd.R_drew HO_487000.out)
                have n3_ := Aside0.mk (Kd.S_drew HO_487001.out)
                have n4_ := Aside0.mk (blk_drew BK486.out)
                have n5_ := Aside0.mk (blk_drew BK494.out)
                have n6_ := Aside0.mk (below_drew1 HB.out)
                clear HO_6
                clear HO_7
                clear HO_487000
                clear HO_487001
                clear BK486
                clear BK494
                clear HB
                have HO_6 := n0_
                have HO_7 := n1_
                have HO_487000 := n2_
                have HO_487001 := n3_
                have BK486 := n4_
                have BK494 := n5_
                have HB := n6_
                clear n0_ n1_ n2_ n3_ n4_ n5_ n6_
                have p513 : 0 ≤ (x13_2 : Int) := of_decide_eq_true (by assumption)
                have q513 : x13_2 < (t501.length : Int) := of_decide_eq_true (by assumption)
                obtain ⟨ad513, e513, hx513_0⟩ := Kd.at_int (Kd.R_reads' HO_7.out).2.2 x13_2 p513 q513
                obtain rfl : ad509 = ad513 := (by injection e513)
                replace p513 := eq_true p513
                replace q513 := eq_true q513
                refine start_ (n := 13) (S := fun w' => w'.cell? ⟨gb486, 0, none⟩ = some (.slice Ao15 t480.length co15) ∧ w'.cell? ⟨gb486, 1, none⟩ = some (.slice Ao17 t483.length co17) ∧ w'.cell? ⟨gb494, 0, none⟩ = some (.int .i64 t490) ∧ w'.cell? ⟨gb494, 1, none⟩ = some (.int .i64 t491) ∧ w'.cell? ⟨gb494, 2, none⟩ = some (.int .i64 t492) ∧ w'.cell? ⟨gb494, 3, none⟩ = some (.bool t493) ∧ w'.cell? (ad509.add (x13_2).toNat) = some (.int .i64 (rd t501 x13_2))) (ds := []) mz5_25 (by kernel_rfl) rfl rfl ⟨(blk_cell BK486.out 0).trans rfl, (blk_cell BK486.out 1).trans rfl, (blk_cell BK494.out 0).trans rfl, (blk_cell BK494.out 1).trans rfl, (blk_cell BK494.out 2).trans rfl, (blk_cell BK494.out 3).trans rfl, hx513_0⟩ (fun hHeld => ?_); refine with_tabW laws_FnApart.tab19 laws_FnApart.bits19 (fun HT_ HW_ => ?_)
                generalize w130.drew = w131 at HO_6 HO_7 HO_487000 HO_487001 BK486 BK494 HB hx513_0 hHeld ⊢
                refine pu_z5 1 (some 98) ?_ mz5_26 rfl rfl (any_of HT_.out (by kernel_rfl)) (fun _ _ _ h => h) (Or.inl ⟨by rfl, ?_⟩) ?_ ?_ ?_
                (rotate_left; ·(intro w'; go_simp; with_reducible rfl)); (rotate_left; ·(simp only [Act.put, pq_z5]; rfl))
                refine pu_z5 3 (some 100) ?_ mz5_27 rfl rfl (any_of HT_.out (by kernel_rfl)) (fun _ _ _ h => h) (Or.inl ⟨by rfl, ?_⟩) ?_ ?_ ?_
                (rotate_left; ·(intro w'; go_simp; with_reducible rfl)); (rotate_left; ·(simp only [Act.put, pq_z5]; rfl))
                refine pu_z5 4 (some 101) ?_ mz5_28 rfl rfl (any_of HT_.out (by kernel_rfl)) (fun _ _ _ h => h) (Or.inl ⟨by rfl, ?_⟩) ?_ ?_ ?_
                (rotate_left; ·(intro w'; go_simp; with_reducible rfl)); (rotate_left; ·(simp only [Act.put, pq_z5]; rfl))
                refine pu_z5 5 (some 102) ?_ mz5_29 rfl rfl (any_of HT_.out (by kernel_rfl)) (fun _ _ _ h => h) (Or.inl ⟨by rfl, ?_⟩) ?_ ?_ ?_
                (rotate_left; ·(intro w'; go_simp; with_reducible rfl)); (rotate_left; ·(simp only [Act.put, pq_z5]; rfl))
                refine take_ (i := 0) (N := some 97) (v := ?_) (a' := ?_) mz5_30 rfl rfl (take_ofW HT_.out HW_.out (by kernel_rfl)) (fun _ _ _ h => h) (Or.inl ⟨by rfl, ?_⟩) hHeld ?_ ?_
                (rotate_left; ·(rintro w' ⟨s0, s1, s2, s3, s4, s5, s6⟩; go_simp; with_reducible rfl)); (rotate_left; ·(simp only [Act.put, pq_z5]; rfl))
                refine take_ (i := 2) (N := some 99) (v := ?_) (a' := ?_) mz5_31 rfl rfl (take_ofW HT_.out HW_.out (by kernel_rfl)) (fun _ _ _ h => h) (Or.inl ⟨by rfl, ?_⟩) hHeld ?_ ?_
                (rotate_left; ·(rintro w' ⟨s0, s1, s2, s3, s4, s5, s6⟩; go_simp; with_reducible rfl)); (rotate_left; ·(simp only [Act.put, pq_z5]; rfl))
                refine take_ (i := 6) (N := some 103) (v := ?_) (a' := ?_) mz5_32 rfl rfl (take_ofW HT_.out HW_.out (by kernel_rfl)) (fun _ _ _ h => h) (Or.inl ⟨by rfl, ?_⟩) hHeld ?_ ?_
                (rotate_left; ·(rintro w' ⟨s0, s1, s2, s3, s4, s5, s6⟩; go_simp; with_reducible rfl)); (rotate_left; ·(simp only [Act.put, pq_z5]; rfl))
                refine one_ (i := 7) (N := some 104) mz5_33 rfl rfl (one_of HT_.out (by kernel_rfl)) (by decide) (fun K hK => ?_)
                refine goes_ Try.func20 (by kernel_rfl) rfl #[.agg #[.slice Ao15 t480.length co15, .slice Ao17 t483.length co17], .int .i64 t492, .int .i64 (rd t501 x13_2)] (by rfl) rfl rfl (by (try simp only [List.map_toArray, List.map_cons, List.map_nil]); first | done | rfl | (simp only [List.length_drop, List.length_take]; rfl)) ?_
                with_reducible refine (impl_DomainOf.calls k2 _ _ t480 _ _ t483 t492 (rd t501 x13_2) t514 t515 _ ?side1 ?side2 ?side3 ?side4 A64.out).mono ?_
                (case side1 => repeat (first | exact (Kd.R_reads' HO_487000.out).2.2 | (with_reducible refine Kd.C_alloc ?_ _) | (with_reducible refine Kd.C_drewN ?_ _) | (with_reducible refine Kd.C_drew ?_)))
                (case side2 => exact (Kd.R_reads' HO_487000.out).2.1)
                (case side3 => repeat (first | exact (Kd.S_reads' HO_487001.out).2.2 | (with_reducible refine Kd.C_alloc ?_ _) | (with_reducible refine Kd.C_drewN ?_ _) | (with_reducible refine Kd.C_drew ?_)))
                (case side4 => exact (Kd.S_reads' HO_487001.out).2.1)
                rintro e w132 ⟨rfl, hb⟩
                have HS6_ := (hb.cell (World.block_lt_of_cell? _ _ (hHeld.2.2.2.2.2.2))).trans (hHeld.2.2.2.2.2.2)
                refine ⟨_, rfl, ?_⟩
                have n0_ := Aside0.mk (Kd.R_below (by (with_reducible repeat (first | apply Kd.R_alloc | apply Kd.R_drewN | apply Kd.R_drew)); exact HO_6.out) hb)
                have n1_ := Aside0.mk (Kd.R_below (by (with_reducible repeat (first | apply Kd.R_alloc | apply Kd.R_drewN | apply Kd.R_drew)); exact HO_7.out) hb)
                have n2_ := Aside0.mk (Kd.R_below (by (with_reducible repeat (first | apply Kd.R_alloc | apply Kd.R_drewN | apply Kd.R_drew)); exact HO_487000.out) hb)
                have n3_ := Aside0.mk (Kd.S_below (by (with_reducible repeat (first | apply Kd.S_alloc | apply Kd.S_drewN | apply Kd.S_drew)); exact HO_487001.out) hb)
                have n4_ := Aside0.mk (blk_below (g := gb486) (o := .cells #[.slice Ao15 t480.length co15, .slice Ao17 t483.length co17] 26 (0, 0)) (by (with_reducible repeat first | apply blk_drewN | apply blk_drew | apply blk_alloc); exact BK486.out) hb)
                have n5_ := Aside0.mk (blk_below (g := gb494) (o := .cells #[.int .i64 t490, .int .i64 t491, .int .i64 t492, .bool t493] 29 (0, 0)) (by (with_reducible repeat first | apply blk_drewN | apply blk_drew | apply blk_alloc); exact BK494.out) hb)
                have n6_ := Aside0.mk (below_step (by repeat (first | (with_reducible first | exact HB.out | apply below_alloc | apply pw_below_drewN | apply below_drew1 | refine below_set ?_ GE486.out | refine below_set ?_ GE494.out) | exact HB.out)) hb)
                clear HO_6
                clear HO_7
                clear HO_487000
                clear HO_487001
                clear BK486
                clear BK494
                clear HB
                have HO_6 := n0_
                have HO_7 := n1_
                have HO_487000 := n2_
                have HO_487001 := n3_
                have BK486 := n4_
                have BK494 := n5_
                have HB := n6_
                clear n0_ n1_ n2_ n3_ n4_ n5_ n6_
                (try clear hb)
                (try clear hb2)
                (try clear hk)
                (try clear hi)
                refine hK.out _ _ ⟨(blk_cell BK486.out 0).trans rfl, (blk_cell BK486.out 1).trans rfl, (blk_cell BK494.out 0).trans rfl, (blk_cell BK494.out 1).trans rfl, (blk_cell BK494.out 2).trans rfl, (blk_cell BK494.out 3).trans rfl, HS6_⟩ (fun hHeld => ?_)
                clear hK K
                refine norm_ (a' := ?_) ?_ ?_
                (rotate_left; ·(show Act.put _ (some 104) _ = _; simp only [Act.put, pq_z5]; rfl))
                refine pu_z5 8 (some 96) ?_ mz5_34 rfl rfl (any_of HT_.out (by kernel_rfl)) (fun _ _ _ h => h) (Or.inl ⟨by rfl, ?_⟩) ?_ ?_ ?_
                (rotate_left; ·(intro w'; go_simp; with_reducible rfl)); (rotate_left; ·(simp only [Act.put, pq_z5]; rfl))
                refine pu_z5 9 (some 105) ?_ mz5_35 rfl rfl (any_of HT_.out (by kernel_rfl)) (fun _ _ _ h => h) (Or.inl ⟨by rfl, ?_⟩) ?_ ?_ ?_
                (rotate_left; ·(intro w'; go_simp; with_reducible rfl)); (rotate_left; ·(simp only [Act.put, pq_z5]; rfl))
                refine pu_z5 10 (some 106) ?_ mz5_36 rfl rfl (any_of HT_.out (by kernel_rfl)) (fun _ _ _ h => h) (Or.inl ⟨by rfl, ?_⟩) ?_ ?_ ?_
                (rotate_left; ·(intro w'; go_simp; with_reducible rfl)); (rotate_left; ·(simp only [Act.put, pq_z5]; rfl))
                refine pu_z5 11 (some 16) ?_ mz5_37 rfl rfl (any_of HT_.out (by kernel_rfl)) (fun _ _ _ h => h) (Or.inl ⟨by rfl, ?_⟩) ?_ ?_ ?_
                (rotate_left; ·(intro w'; go_simp; with_reducible rfl)); (rotate_left; ·(simp only [Act.put, pq_z5]; rfl))
                refine pu_z5 12 (some 17) ?_ mz5_38 rfl rfl (any_of HT_.out (by kernel_rfl)) (fun _ _ _ h => h) (Or.inl ⟨by rfl, ?_⟩) ?_ ?_ ?_
                (rotate_left; ·(intro w'; go_simp; with_reducible rfl)); (rotate_left; ·(simp only [Act.put, pq_z5]; rfl))
                refine done_ (done_of HT_.out (by kernel_rfl)) ?_
                have p516 : 0 ≤ (x13_2 : Int) := of_decide_eq_true (by assumption)
                have q516 : x13_2 < (t501.length : Int) := of_decide_eq_true (by assumption)
                obtain ⟨ad516, e516, hx516_0⟩ := Kd.at_int (Kd.R_reads' HO_7.out).2.2 x13_2 p516 q516
                obtain rfl : ad509 = ad516 := (by injection e516)
                replace p516 := eq_true p516
                replace q516 := eq_true q516
                try go_wp2_with (first | ((with_reducible refine gate_callee (f := 12) rfl ?_); refine goesL_ (some 112) rfl rfl Try.func12 (by kernel_rfl) rfl #[.slice Ao32 t497.length co32, .int .i64 (rd t501 x13_2)] rfl (by (try simp only [List.map_toArray, List.map_cons, List.map_nil]); first | done | rfl | (simp only [List.length_drop, List.length_take]; rfl)) ?_; (with_reducible refine (laws_a8Has.calls k2 _ _ t497 (rd t501 x13_2) false _ ?side1 ?side2 A65.out).mono ?_); (case side1 => repeat (first | exact (Kd.R_reads' HO_6.out).2.2 | (with_reducible refine Kd.C_alloc ?_ _) | (with_reducible refine Kd.C_drewN ?_ _) | (with_reducible refine Kd.C_drew ?_))); (case side2 => exact (Kd.R_reads' HO_6.out).2.1); rintro e w' ⟨rfl, ⟨nd, rfl⟩⟩; refine ⟨_, rfl, ?_⟩; have hnb133 := NB494_486.out; have hnc133 := NB486_494.out; have hcz134_0 : w132.cell? ⟨gb494, 0, none⟩ = some (.int .i64 t490) := (blk_cell BK494.out 0).trans rfl; have hcz134_1 : w132.cell? ⟨gb494, 1, none⟩ = some (.int .i64 t491) := (blk_cell BK494.out 1).trans rfl; have hcz134_2 : w132.cell? ⟨gb494, 2, none⟩ = some (.int .i64 t492) := (blk_cell BK494.out 2).trans rfl; have hcz134_3 : w132.cell? ⟨gb494, 3, none⟩ = some (.bool t493) := (blk_cell BK494.out 3).trans rfl; have hfz134_0 := blk_frozen BK494.out 0; have hfz134_1 := blk_frozen BK494.out 1; have hfz134_2 := blk_frozen BK494.out 2; have hfz134_3 := blk_frozen BK494.out 3))
                go_roundg k2
                case measure => have := HJ11.out; have := HK2.out; omega
                case rel => exact ⟨(wrap64 (x11_2 + 1)), (false), (wrap64 (x13_2 + 1)), (by first | rfl | (simp; done) | (simp [*]; done)), (by first | rfl | (simp; done) | (simp [*]; done)), (by first | rfl | (simp; done) | (simp [*]; done)), H', ⟨by have := HJ11.out; have := HK2.out; omega⟩, ⟨by (with_reducible repeat (first | apply Kd.R_alloc | apply Kd.R_drewN | apply Kd.R_drew)); exact HO_6.out⟩, ⟨by (with_reducible repeat (first | apply Kd.R_alloc | apply Kd.R_drewN | apply Kd.R_drew)); exact HO_7.out⟩, ⟨by (with_reducible repeat (first | apply Kd.R_alloc | apply Kd.R_drewN | apply Kd.R_drew)); exact HO_487000.out⟩, ⟨by (with_reducible repeat (first | apply Kd.S_alloc | apply Kd.S_drewN | apply Kd.S_drew)); exact HO_487001.out⟩, ⟨by (with_reducible repeat first | apply blk_drewN | apply blk_drew | apply blk_alloc); exact BK486.out⟩, ⟨by (with_reducible repeat first | apply blk_drewN | apply blk_drew | apply blk_alloc); exact BK494.out⟩, ⟨by repeat (first | (with_reducible first | exact HB.out | apply below_alloc | apply pw_below_drewN | apply below_drew1 | refine below_set ?_ GE486.out | refine below_set ?_ GE494.out) | exact HB.out)⟩⟩
             ·rw [if_neg c79] at H
              exact absurd H (by simp)
           ·rw [if_neg c72] at H
            exact absurd H (by simp)
        ·rw [if_neg c60] at H
         exact absurd H (by simp)
       ·rw [if_neg c59] at H
        have c59b0 : decide (x13_2 < (t501.length : Int)) = false := decide_eq_false c59
        clear c59
        obtain rfl := Option.some.inj H
        obtain ⟨Ao145, co145, eo145⟩ := Kd.R_slice HO_7.out
        subst eo145
        go_wp2
        go_ret
        exact ⟨by first | rfl | (simp [*, errW_none, errW_some] <;> rfl), by repeat (first | (with_reducible first | exact HB.out | apply below_alloc | apply pw_below_drewN | apply below_drew1 | refine below_set ?_ GE486.out | refine below_set ?_ GE494.out) | exact HB.out)⟩

/-- THE ONE PURE STATEMENT of laws_FnApart: yours. -/
def laws_FnApart.Pure : Prop := ∀ (l0 : List Int), l0.length ≤ maxLen → l0.length * 1 ≤ 140737488351232 → (∀ x ∈ l0, (Lit.int .u8 x).wf = true) → ∃ k, laws_FnApart.f k l0 = some true
theorem laws_FnApart.walk (P : laws_FnApart.Pure) (a0 : Option Addr) (len0 cap0 : Nat) (z0 : List Int) (w : World) (w0 : (a0 = none ∧ len0 = 0 ∧ cap0 = 0 ∧ z0 = []) ∨ ∃ x, a0 = some x ∧ len0 ≤ cap0 ∧ cap0 ≤ maxLen ∧ z0.length = cap0 ∧ (∀ i, i < z0.length → w.cell? (x.add i) = some (.int .u8 (z0.getD i 0))) ∧ ∀ n ∈ z0, (Lit.int .u8 n).wf = true) (y0 : len0 * 1 ≤ 140737488351232) :
  Calls Try.prog 5 #[.slice a0 len0 cap0] w fun e w' => e = .returned (.bool true) ∧ Below w.heap.size w w' := by
 obtain ⟨l0, rfl, hr0, hm0, hw0, hc0⟩ := ReadsInt.ofRowC w0
 obtain ⟨k, h⟩ := P l0 hm0 y0 hw0
 refine (laws_FnApart.calls k _ _ l0 true w (Kd.C_of_reads (d := (0 : Int)) (h1 := fun _ => rfl) hr0) hc0 h).mono ?_
 rintro e w' ⟨rfl, hd⟩
 exact ⟨rfl, hd⟩

end Go.Proofs.Ytohjpgcmhihdhaa.Q
