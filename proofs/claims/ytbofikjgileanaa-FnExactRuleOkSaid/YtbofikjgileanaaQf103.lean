/- Walks of the Go functions that the laws call: each returns what a plain Lean function says. Written by a program for these claims. -/
import Derived.Test.YtbofikjgileanaaQ0
import Derived.Test.YtbofikjgileanaaQf72
namespace Go.Proofs.Ytbofikjgileanaa.Q
open Go.RowKit Go.Proofs.YtbofikjgileanaaW.PrintWords Go.Proofs.YtbofikjgileanaaW.PrintLast Go.Proofs.YtbofikjgileanaaW.PrintMore
attribute [local go_sem] max2_int min2_int max_two min_two max_three min_three max_four min_four   -- for this text's walks alone
set_option linter.unusedVariables false
set_option linter.unusedSimpArgs false

/-! ### spec_l06Buckets: function 103 -/
def spec_l06Buckets.l0 : Nat → Int → List (S58) → List (S84) → Option (Bool)
  | 0, _, _, _ => none
  | k + 1, x3, x115000, x115001 => if x3 < (x115001.length : Int) then (if 0 ≤ x3 then ((spec_l00In.f ((rd_T84 x115001 x3).f0) (-12) (-1)).bind fun t117 => (if t117 = true then ((spec_l00In.f ((rd_T84 x115001 x3).f1) 1 3).bind fun t118 => (if t118 = true then (if (((rd_T84 x115001 x3).f2).length : Int) > 8 then (some false) else (if x3 > 0 then (if 0 ≤ (wrap64 (x3 - 1)) then (if (wrap64 (x3 - 1)) < (x115001.length : Int) then (if ((rd_T84 x115001 x3).f0) ≥ ((rd_T84 x115001 (wrap64 (x3 - 1))).f0) then (some false) else (spec_l06Buckets.l0 k (wrap64 (x3 + 1)) x115000 x115001)) else (none)) else (none)) else (spec_l06Buckets.l0 k (wrap64 (x3 + 1)) x115000 x115001))) else (some false))) else (some false))) else (none)) else (some true)
def spec_l06Buckets.f (k : Nat) (l0_0 : List (S58)) (l0_1 : List (S84)) : Option (Bool) := if (l0_1.length : Int) > 12 then (some false) else (spec_l06Buckets.l0 k 0 l0_0 l0_1)
def spec_l06Buckets.T7 : Bool × List (List Nat × List Nat) := (true, [([], []), ([0], [0]), ([1], [1]), ([2], [2]), ([3, 2], [3]), ([4], [4]), ([5, 4], [4, 5]), ([6, 4, 4], [4, 6]), ([7, 4], [4, 7]), ([4, 8], [4, 8]), ([9, 7], [9]), ([10], [10]), ([11, 10], [10, 11]), ([12, 10], [10, 12]), ([13, 10], [10, 13]), ([10, 14], [10, 14]), ([15, 10], [15]), ([16], [16]), ([17, 16], [16, 17]), ([18, 16, 16], [16, 18]), ([19], [19]), ([20, 19], [19, 20]), ([19], [19]), ([22, 19], [19, 22]), ([19], [19]), ([24, 19], [19, 24]), ([23, 25, 19], [19, 23, 25]), ([26, 19], [19, 26]), ([27, 19], [19, 27]), ([21, 28, 19], [19, 21, 28]), ([19, 29, 16], [16, 19, 29]), ([16, 30], [16, 30])])
def spec_l06Buckets.B7 : List Nat := [0, 1, 3, 7, 15, 31, 63, 127, 255, 511, 1023, 2047, 4095, 8191, 16383, 32767, 65535, 131071, 262143, 524287, 1048575, 2097151, 1048575, 5242879, 1048575, 17825791, 63963135, 131071999, 265289727, 536870911, 1073741823, 2147483647]
theorem spec_l06Buckets.tab7 : rtab .any (opsOf Try.f103 7) = spec_l06Buckets.T7 := by kernel_rfl
theorem spec_l06Buckets.bits7 : waitsOk spec_l06Buckets.T7.2 spec_l06Buckets.B7 = true := by kernel_rfl
def az_z103 (n m : Nat) : Array Bool := (List.replicate n true ++ List.replicate m false).toArray
def mz103_0 : Array Bool := az_z103 0 32
def mz103_1 : Array Bool := az_z103 1 31
def mz103_2 : Array Bool := az_z103 2 30
def mz103_3 : Array Bool := az_z103 3 29
def mz103_4 : Array Bool := az_z103 4 28
def mz103_5 : Array Bool := az_z103 5 27
def mz103_6 : Array Bool := az_z103 6 26
def mz103_7 : Array Bool := az_z103 7 25
def mz103_8 : Array Bool := az_z103 8 24
def mz103_9 : Array Bool := az_z103 9 23
def mz103_10 : Array Bool := az_z103 10 22
def mz103_11 : Array Bool := az_z103 11 21
def mz103_12 : Array Bool := az_z103 12 20
def mz103_13 : Array Bool := az_z103 13 19
def mz103_14 : Array Bool := az_z103 14 18
def mz103_15 : Array Bool := az_z103 15 17
def mz103_16 : Array Bool := az_z103 16 16
def mz103_17 : Array Bool := az_z103 17 15
def mz103_18 : Array Bool := az_z103 18 14
def mz103_19 : Array Bool := az_z103 19 13
def mz103_20 : Array Bool := az_z103 20 12
def mz103_21 : Array Bool := az_z103 21 11
def mz103_22 : Array Bool := az_z103 22 10
def mz103_23 : Array Bool := az_z103 23 9
def mz103_24 : Array Bool := az_z103 24 8
def mz103_25 : Array Bool := az_z103 25 7
def mz103_26 : Array Bool := az_z103 26 6
def mz103_27 : Array Bool := az_z103 27 5
def mz103_28 : Array Bool := az_z103 28 4
def mz103_29 : Array Bool := az_z103 29 3
def mz103_30 : Array Bool := az_z103 30 2
def mz103_31 : Array Bool := az_z103 31 1
def mz103_32 : Array Bool := az_z103 32 0
def mz103_33 : Array Bool := #[true, true, true, true, true, true, true, true, true, true, true, true, true, true, true, true, true, true, true, true, true, false, true, false, false, false, false, false, false, false, false, false]
def mz103_34 : Array Bool := #[true, true, true, true, true, true, true, true, true, true, true, true, true, true, true, true, true, true, true, true, true, false, true, false, true, false, false, false, false, false, false, false]
def mz103_35 : Array Bool := #[true, true, true, true, true, true, true, true, true, true, true, true, true, true, true, true, true, true, true, true, true, false, true, false, true, true, false, false, false, false, false, false]
def mz103_36 : Array Bool := #[true, true, true, true, true, true, true, true, true, true, true, true, true, true, true, true, true, true, true, true, true, true, true, false, true, true, false, false, false, false, false, false]
theorem pu_z103 {P : Program} {ops : Array Oper} {Q : Exit → Act → World → Prop} {md : Region.Mode} {S : World → Prop} {ds : List Nat} {oi : Oper} {fuel : Nat} {l : Array Bool} {a : Act} {w : World} (i : Nat) (N : Option Tmp) (v : Value) (l' : Array Bool) (hi : ops[i]? = some oi) (hN : oi.dst = N) (hc : anyB md ops l l' i = true)
    (hQ : ∀ c a w, Q (.panic c) (a.put oi.dst v) w → Q (.panic c) a w) (hy : Yields P ops oi v a) (a' : Act) (ha : a.put N v = a')
    (h : wpAnyLast P md ops Q S ds fuel l' a' w) : wpAnyLast P md ops Q S ds (fuel + 1) l a w := pure_ l' hi hN hc hQ hy ha h
theorem pq_z103 : (∀ (l : List Value) (i : Nat) (v : Value), l.toArray.setIfInBounds i v = (l.set i v).toArray) ∧ (∀ (x v : Value) (xs : List Value), (x :: xs).set 0 v = v :: xs) ∧ (∀ (x v : Value) (xs : List Value) (n : Nat), (x :: xs).set (n + 1) v = x :: xs.set n v) ∧ (∀ n : Int, IntKind.i64.wrap n = Go.RowKit.wrap64 n) ∧ (∀ n : Int, IntKind.i32.wrap n = Go.RowKit.wrap32 n) :=
  ⟨fun l i v => List.setIfInBounds_toArray l i v, fun _ _ _ => rfl, fun _ _ _ _ => rfl, i64_w, i32_w⟩
set_option maxHeartbeats 8000000 in
set_option maxRecDepth 100000 in
theorem spec_l06Buckets.calls (k : Nat) (A0_0 : Option Addr) (c0_0 : Nat) (l0_0 : List (S58)) (A0_1 : Option Addr) (c0_1 : Nat) (l0_1 : List (S84)) (r : Bool) (w : World) (hr0_0 : Kd.C k58 w A0_0 l0_0.length l0_0) (hc0_0 : l0_0.length ≤ c0_0) (hr0_1 : Kd.C k84 w A0_1 l0_1.length l0_1) (hc0_1 : l0_1.length ≤ c0_1) (h : spec_l06Buckets.f k l0_0 l0_1 = some r) :
  Calls Try.prog 103 #[.agg #[.slice A0_0 l0_0.length c0_0, .slice A0_1 l0_1.length c0_1]] w fun e w' => e = .returned (.bool r) ∧ Below w.heap.size w w' := by
 have hu31 := Try.underlying31
 have hu84 := Try.underlying84
 have HR0_0 := Aside0.mk hr0_0
 have HC0_0 := Aside0.mk hc0_0
 clear hr0_0 hc0_0
 have HR0_1 := Aside0.mk hr0_1
 have HC0_1 := Aside0.mk hc0_1
 clear hr0_1 hc0_1
 have HB := Aside0.mk (Below.refl w.heap.size w)
 have H : (if (l0_1.length : Int) > 12 then (some false) else (spec_l06Buckets.l0 k 0 l0_0 l0_1)) = some r := h
 clear h
 by_cases c2 : (l0_1.length : Int) > 12
 ·rw [if_pos c2] at H
  have c2b0 : decide (12 < (l0_1.length : Int)) = true := decide_eq_true c2
  have c2b1 : decide (12 < l0_1.length) = true := decide_eq_true (by omega)
  clear c2
  obtain rfl := Option.some.inj H
  go_enter Try.func103, Try.ntmps103
  go_wp2_with (first | ((with_reducible refine gate_dst (N := 1) rfl ?_); refine box_event ?hg (N := 1) ?hd (cs := #[.slice A0_0 l0_0.length c0_0, .slice A0_1 l0_1.length c0_1]) (t := 31) ?hr ?_; (case hd => rfl); (case hg => rfl); (case hr => first | (go_simp; done) | (go_simp; rfl)); intro gb114 hg w3 hbox hb; have n0_ := Aside0.mk (below_step (by repeat first | exact HB.out | apply below_alloc | apply pw_below_drewN | apply below_drew1) hb); have n1_ := Aside0.mk (hbox); have n2_ := Aside0.mk ((by rw [hg]; exact (below_size (by repeat first | exact HB.out | apply below_alloc | apply pw_below_drewN | apply below_drew1)) : w.heap.size ≤ gb114)); have n3_ := Aside0.mk ((by rw [hg]; exact (below_size (by repeat first | exact HB.out | apply below_alloc | apply pw_below_drewN | apply below_drew1)) : w.heap.size ≤ gb114)); clear HB; have HB := n0_; have BK114 := n1_; have GW114 := n2_; have GE114 := n3_; clear n0_ n1_ n2_ n3_; clear hb hbox hg; have hcz4_0 : w3.cell? ⟨gb114, 0, none⟩ = some (.slice A0_0 l0_0.length c0_0) := (blk_cell BK114.out 0).trans rfl; have hcz4_1 : w3.cell? ⟨gb114, 1, none⟩ = some (.slice A0_1 l0_1.length c0_1) := (blk_cell BK114.out 1).trans rfl; have hfz4_0 := blk_frozen BK114.out 0; have hfz4_1 := blk_frozen BK114.out 1))
  go_ret
  exact ⟨by first | rfl | (simp [*, errW_none, errW_some] <;> rfl), by repeat (first | (with_reducible first | exact HB.out | apply below_alloc | apply pw_below_drewN | apply below_drew1 | refine below_set ?_ GE114.out) | exact HB.out)⟩
 ·rw [if_neg c2] at H
  have c2b0 : decide (12 < (l0_1.length : Int)) = false := decide_eq_false c2
  have c2b1 : decide (12 < l0_1.length) = false := decide_eq_false (by omega)
  clear c2
  have H' := Aside0.mk H
  clear H
  go_enter Try.func103, Try.ntmps103
  go_wp2_with (first | ((with_reducible refine gate_dst (N := 1) rfl ?_); refine box_event ?hg (N := 1) ?hd (cs := #[.slice A0_0 l0_0.length c0_0, .slice A0_1 l0_1.length c0_1]) (t := 31) ?hr ?_; (case hd => rfl); (case hg => rfl); (case hr => first | (go_simp; done) | (go_simp; rfl)); intro gb114 hg w5 hbox hb; have n0_ := Aside0.mk (below_step (by repeat first | exact HB.out | apply below_alloc | apply pw_below_drewN | apply below_drew1) hb); have n1_ := Aside0.mk (hbox); have n2_ := Aside0.mk ((by rw [hg]; exact (below_size (by repeat first | exact HB.out | apply below_alloc | apply pw_below_drewN | apply below_drew1)) : w.heap.size ≤ gb114)); have n3_ := Aside0.mk ((by rw [hg]; exact (below_size (by repeat first | exact HB.out | apply below_alloc | apply pw_below_drewN | apply below_drew1)) : w.heap.size ≤ gb114)); clear HB; have HB := n0_; have BK114 := n1_; have GW114 := n2_; have GE114 := n3_; clear n0_ n1_ n2_ n3_; clear hb hbox hg; have hcz6_0 : w5.cell? ⟨gb114, 0, none⟩ = some (.slice A0_0 l0_0.length c0_0) := (blk_cell BK114.out 0).trans rfl; have hcz6_1 : w5.cell? ⟨gb114, 1, none⟩ = some (.slice A0_1 l0_1.length c0_1) := (blk_cell BK114.out 1).trans rfl; have hfz6_0 := blk_frozen BK114.out 0; have hfz6_1 := blk_frozen BK114.out 1))
  go_loopg [3] k (fun kq v3 w' => ∃ (x3_1 : Int), v3 = .int .i64 x3_1 ∧ Aside0 (spec_l06Buckets.l0 kq x3_1 l0_0 l0_1 = some r) ∧ Aside0 (kq ≤ k) ∧ Aside0 (w'.heap[gb114]? = some (.cells #[(.slice A0_0 l0_0.length c0_0), (.slice A0_1 l0_1.length c0_1)] 31 (0, 0))) ∧ Aside0 (Below w.heap.size w w'))
  case atStart => exact ⟨(0), (by first | rfl | (simp; done) | (simp [*]; done)), H', ⟨Nat.le_refl _⟩, ⟨by (with_reducible repeat first | apply blk_drewN | apply blk_drew | apply blk_alloc); exact BK114.out⟩, ⟨by repeat (first | (with_reducible first | exact HB.out | apply below_alloc | apply pw_below_drewN | apply below_drew1 | refine below_set ?_ GE114.out) | exact HB.out)⟩⟩
  case round =>
   clear H'
   try clear c1
   try clear c2
   try clear c2b0
   try clear c2b1
   try clear p2
   try clear hcz4_0
   try clear hcz4_1
   try clear hcz6_0
   try clear hcz6_1
   try clear hfz4_0
   try clear hfz4_1
   try clear hfz6_0
   try clear hfz6_1
   obtain ⟨x3_1, rfl, HA, HK1, BK114, HB⟩ := hrel
   cases gk with
   | zero => exact absurd HA.out (by simp [spec_l06Buckets.l0])
   | succ k1 =>
    have H := HA.out
    clear HA
    simp only [spec_l06Buckets.l0] at H
    by_cases c7 : x3_1 < (l0_1.length : Int)
    ·rw [if_pos c7] at H
     have c7b0 : decide (x3_1 < (l0_1.length : Int)) = true := decide_eq_true c7
     clear c7
     by_cases c8 : 0 ≤ x3_1
     ·rw [if_pos c8] at H
      have c8b0 : decide (0 ≤ x3_1) = true := decide_eq_true c8
      clear c8
      replace H := Option.bind_eq_some_iff.mp H
      obtain ⟨t117, A90, H⟩ := H
      replace H : (if t117 = true then ((spec_l00In.f ((rd_T84 l0_1 x3_1).f1) 1 3).bind fun t118 => (if t118 = true then (if (((rd_T84 l0_1 x3_1).f2).length : Int) > 8 then (some false) else (if x3_1 > 0 then (if 0 ≤ (wrap64 (x3_1 - 1)) then (if (wrap64 (x3_1 - 1)) < (l0_1.length : Int) then (if ((rd_T84 l0_1 x3_1).f0) ≥ ((rd_T84 l0_1 (wrap64 (x3_1 - 1))).f0) then (some false) else (spec_l06Buckets.l0 k1 (wrap64 (x3_1 + 1)) l0_0 l0_1)) else (none)) else (none)) else (spec_l06Buckets.l0 k1 (wrap64 (x3_1 + 1)) l0_0 l0_1))) else (some false))) else (some false)) = some r := H
      have A9 := Aside0.mk A90
      clear A90
      by_cases c10 : t117 = true
      ·subst c10
       have H1 : ((spec_l00In.f ((rd_T84 l0_1 x3_1).f1) 1 3).bind fun t118 => (if t118 = true then (if (((rd_T84 l0_1 x3_1).f2).length : Int) > 8 then (some false) else (if x3_1 > 0 then (if 0 ≤ (wrap64 (x3_1 - 1)) then (if (wrap64 (x3_1 - 1)) < (l0_1.length : Int) then (if ((rd_T84 l0_1 x3_1).f0) ≥ ((rd_T84 l0_1 (wrap64 (x3_1 - 1))).f0) then (some false) else (spec_l06Buckets.l0 k1 (wrap64 (x3_1 + 1)) l0_0 l0_1)) else (none)) else (none)) else (spec_l06Buckets.l0 k1 (wrap64 (x3_1 + 1)) l0_0 l0_1))) else (some false))) = some r := by rw [if_pos rfl] at H; exact H
       clear H
       have H := H1
       clear H1
       replace H := Option.bind_eq_some_iff.mp H
       obtain ⟨t118, A110, H⟩ := H
       replace H : (if t118 = true then (if (((rd_T84 l0_1 x3_1).f2).length : Int) > 8 then (some false) else (if x3_1 > 0 then (if 0 ≤ (wrap64 (x3_1 - 1)) then (if (wrap64 (x3_1 - 1)) < (l0_1.length : Int) then (if ((rd_T84 l0_1 x3_1).f0) ≥ ((rd_T84 l0_1 (wrap64 (x3_1 - 1))).f0) then (some false) else (spec_l06Buckets.l0 k1 (wrap64 (x3_1 + 1)) l0_0 l0_1)) else (none)) else (none)) else (spec_l06Buckets.l0 k1 (wrap64 (x3_1 + 1)) l0_0 l0_1))) else (some false)) = some r := H
       have A11 := Aside0.mk A110
       clear A110
       by_cases c12 : t118 = true
       ·subst c12
        have H1 : (if (((rd_T84 l0_1 x3_1).f2).length : Int) > 8 then (some false) else (if x3_1 > 0 then (if 0 ≤ (wrap64 (x3_1 - 1)) then (if (wrap64 (x3_1 - 1)) < (l0_1.length : Int) then (if ((rd_T84 l0_1 x3_1).f0) ≥ ((rd_T84 l0_1 (wrap64 (x3_1 - 1))).f0) then (some false) else (spec_l06Buckets.l0 k1 (wrap64 (x3_1 + 1)) l0_0 l0_1)) else (none)) else (none)) else (spec_l06Buckets.l0 k1 (wrap64 (x3_1 + 1)) l0_0 l0_1))) = some r := by rw [if_pos rfl] at H; exact H
        clear H
        have H := H1
        clear H1
        by_cases c13 : (((rd_T84 l0_1 x3_1).f2).length : Int) > 8
        ·rw [if_pos c13] at H
         have c13b0 : decide (8 < (((rd_T84 l0_1 x3_1).f2).length : Int)) = true := decide_eq_true c13
         have c13b1 : decide (8 < ((rd_T84 l0_1 x3_1).f2).length) = true := decide_eq_true (by omega)
         clear c13
         obtain rfl := Option.some.inj H
         have hcz14_0 : wr.cell? ⟨gb114, 0, none⟩ = some (.slice A0_0 l0_0.length c0_0) := (blk_cell BK114.out 0).trans rfl
         have hcz14_1 : wr.cell? ⟨gb114, 1, none⟩ = some (.slice A0_1 l0_1.length c0_1) := (blk_cell BK114.out 1).trans rfl
         have hfz14_0 := blk_frozen BK114.out 0
         have hfz14_1 := blk_frozen BK114.out 1
         have p115 : 0 ≤ (x3_1 : Int) := of_decide_eq_true (by assumption)
         have q115 : x3_1 < (l0_1.length : Int) := of_decide_eq_true (by assumption)
         obtain ⟨ad115, A115_2, c115_2, e115, hx115_0, hx115_1, hx115_2, hl115_2, hi115_2⟩ := at_T84 HR0_1.out x3_1 p115 q115
         cases e115
         replace hx115_0 := (HB.out.cell (World.block_lt_of_cell? w _ hx115_0)).trans hx115_0
         replace hx115_1 := (HB.out.cell (World.block_lt_of_cell? w _ hx115_1)).trans hx115_1
         replace hx115_2 := (HB.out.cell (World.block_lt_of_cell? w _ hx115_2)).trans hx115_2
         have HR115_2 := Aside0.mk hi115_2
         have HC115_2 := Aside0.mk hl115_2
         clear hi115_2 hl115_2
         replace p115 := eq_true p115
         replace q115 := eq_true q115
         try go_wp2_with (first | ((with_reducible refine gate_dst (N := 4) rfl ?_); refine box_event ?hg (N := 4) ?hd (cs := #[.int .i64 0, .int .i64 0, .slice none 0 0]) (t := 84) ?hr ?_; (case hd => rfl); (case hg => rfl); (case hr => first | (go_simp; done) | (go_simp; rfl)); intro gb116 hg w15 hbox hb; have n0_ := Aside0.mk (blk_below (g := gb114) (o := .cells #[.slice A0_0 l0_0.length c0_0, .slice (some ad115) l0_1.length c0_1] 31 (0, 0)) (by (with_reducible repeat first | apply blk_drewN | apply blk_drew | apply blk_alloc); exact BK114.out) hb); have n1_ := Aside0.mk (below_step (by repeat (first | (with_reducible first | exact HB.out | apply below_alloc | apply pw_below_drewN | apply below_drew1 | refine below_set ?_ GE114.out) | exact HB.out)) hb); have n2_ := Aside0.mk (hbox); have n3_ := Aside0.mk ((by rw [hg]; exact (below_size (by repeat (first | (with_reducible first | exact HB.out | apply below_alloc | apply pw_below_drewN | apply below_drew1 | refine below_set ?_ GE114.out) | exact HB.out))) : w.heap.size ≤ gb116)); have n4_ := Aside0.mk ((by rw [hg]; exact (below_size (by repeat (first | (with_reducible first | exact HB.out | apply below_alloc | apply pw_below_drewN | apply below_drew1 | refine below_set ?_ GE114.out) | exact HB.out))) : w.heap.size ≤ gb116)); have n5_ := Aside0.mk ((by rw [hg]; exact Nat.ne_of_lt (blk_lt (g := gb114) (o := .cells #[.slice A0_0 l0_0.length c0_0, .slice (some ad115) l0_1.length c0_1] 31 (0, 0)) (by (with_reducible repeat first | apply blk_drewN | apply blk_drew | apply blk_alloc); exact BK114.out)) : gb114 ≠ gb116)); have n6_ := Aside0.mk ((by rw [hg]; exact Nat.ne_of_gt (blk_lt (g := gb114) (o := .cells #[.slice A0_0 l0_0.length c0_0, .slice (some ad115) l0_1.length c0_1] 31 (0, 0)) (by (with_reducible repeat first | apply blk_drewN | apply blk_drew | apply blk_alloc); exact BK114.out)) : gb116 ≠ gb114)); clear BK114; clear HB; have BK114 := n0_; have HB := n1_; have BK116 := n2_; have GW116 := n3_; have GE116 := n4_; have NB114_116 := n5_; have NB116_114 := n6_; clear n0_ n1_ n2_ n3_ n4_ n5_ n6_; clear hb hbox hg; have hnb16 := NB116_114.out; have hnc16 := NB114_116.out; have hcz17_0 : w15.cell? ⟨gb116, 0, none⟩ = some (.int .i64 0) := (blk_cell BK116.out 0).trans rfl; have hcz17_1 : w15.cell? ⟨gb116, 1, none⟩ = some (.int .i64 0) := (blk_cell BK116.out 1).trans rfl; have hcz17_2 : w15.cell? ⟨gb116, 2, none⟩ = some (.slice none 0 0) := (blk_cell BK116.out 2).trans rfl; have hfz17_0 := blk_frozen BK116.out 0; have hfz17_1 := blk_frozen BK116.out 1; have hfz17_2 := blk_frozen BK116.out 2))
         have n0_ : Aside0 ((((w15.setCell ⟨gb116, 0, none⟩ (.int .i64 ((rd_T84 l0_1 x3_1).f0))).setCell ⟨gb116, 1, none⟩ (.int .i64 ((rd_T84 l0_1 x3_1).f1))).setCell ⟨gb116, 2, none⟩ (.slice A115_2 ((rd_T84 l0_1 x3_1).f2).length c115_2)).heap[gb114]? = some (.cells #[.slice A0_0 l0_0.length c0_0, .slice (some ad115) l0_1.length c0_1] 31 (0, 0))) := ⟨by (with_reducible repeat first | apply blk_drewN | apply blk_drew | apply blk_alloc); refine blk_far ?_ NB114_116.out _; (with_reducible repeat first | apply blk_drewN | apply blk_drew | apply blk_alloc); refine blk_far ?_ NB114_116.out _; (with_reducible repeat first | apply blk_drewN | apply blk_drew | apply blk_alloc); refine blk_far ?_ NB114_116.out _; (with_reducible repeat first | apply blk_drewN | apply blk_drew | apply blk_alloc); exact BK114.out⟩
         have n1_ : Aside0 ((((w15.setCell ⟨gb116, 0, none⟩ (.int .i64 ((rd_T84 l0_1 x3_1).f0))).setCell ⟨gb116, 1, none⟩ (.int .i64 ((rd_T84 l0_1 x3_1).f1))).setCell ⟨gb116, 2, none⟩ (.slice A115_2 ((rd_T84 l0_1 x3_1).f2).length c115_2)).heap[gb116]? = some (.cells #[.int .i64 ((rd_T84 l0_1 x3_1).f0), .int .i64 ((rd_T84 l0_1 x3_1).f1), .slice A115_2 ((rd_T84 l0_1 x3_1).f2).length c115_2] 84 (0, 0))) := ⟨by (with_reducible repeat first | apply blk_drewN | apply blk_drew | apply blk_alloc); refine blk_put (cs := #[.int .i64 ((rd_T84 l0_1 x3_1).f0), .int .i64 ((rd_T84 l0_1 x3_1).f1), .slice none 0 0]) ?_ 2 _ rfl; (with_reducible repeat first | apply blk_drewN | apply blk_drew | apply blk_alloc); refine blk_put (cs := #[.int .i64 ((rd_T84 l0_1 x3_1).f0), .int .i64 0, .slice none 0 0]) ?_ 1 _ rfl; (with_reducible repeat first | apply blk_drewN | apply blk_drew | apply blk_alloc); refine blk_put (cs := #[.int .i64 0, .int .i64 0, .slice none 0 0]) ?_ 0 _ rfl; (with_reducible repeat first | apply blk_drewN | apply blk_drew | apply blk_alloc); exact BK116.out⟩
         have n2_ : Aside0 (Below w.heap.size w (((w15.setCell ⟨gb116, 0, none⟩ (.int .i64 ((rd_T84 l0_1 x3_1).f0))).setCell ⟨gb116, 1, none⟩ (.int .i64 ((rd_T84 l0_1 x3_1).f1))).setCell ⟨gb116, 2, none⟩ (.slice A115_2 ((rd_T84 l0_1 x3_1).f2).length c115_2))) := ⟨by repeat (first | (with_reducible first | exact HB.out | apply below_alloc | apply pw_below_drewN | apply below_drew1 | refine below_set ?_ GE114.out | refine below_set ?_ GE116.out) | exact HB.out)⟩
         (try clear BK114)
         (try clear BK116)
         (try clear HB)
         generalize (((w15.setCell ⟨gb116, 0, none⟩ (.int .i64 ((rd_T84 l0_1 x3_1).f0))).setCell ⟨gb116, 1, none⟩ (.int .i64 ((rd_T84 l0_1 x3_1).f1))).setCell ⟨gb116, 2, none⟩ (.slice A115_2 ((rd_T84 l0_1 x3_1).f2).length c115_2)) = w18 at n0_ n1_ n2_ ⊢
         have BK114 := n0_
         have BK116 := n1_
         have HB := n2_
         clear n0_ n1_ n2_
         have n0_ := Aside0.mk (blk_drew BK114.out)
         have n1_ := Aside0.mk (blk_drew BK116.out)
         have n2_ := Aside0.mk (below_drew1 HB.out)
         clear BK114
         clear BK116
         clear HB
         have BK114 := n0_
         have BK116 := n1_
         have HB := n2_
         clear n0_ n1_ n2_
         refine start_ (n := 32) (S := fun w' => w'.cell? ⟨gb116, 0, none⟩ = some (.int .i64 ((rd_T84 l0_1 x3_1).f0)) ∧ w'.cell? ⟨gb116, 1, none⟩ = some (.int .i64 ((rd_T84 l0_1 x3_1).f1)) ∧ w'.cell? ⟨gb116, 2, none⟩ = some (.slice A115_2 ((rd_T84 l0_1 x3_1).f2).length c115_2)) (ds := []) mz103_0 (by kernel_rfl) rfl rfl ⟨(blk_cell BK116.out 0).trans rfl, (blk_cell BK116.out 1).trans rfl, (blk_cell BK116.out 2).trans rfl⟩ (fun hHeld => ?_); refine with_tabW spec_l06Buckets.tab7 spec_l06Buckets.bits7 (fun HT_ HW_ => ?_)
         generalize w18.drew = w19 at BK114 BK116 HB hHeld ⊢
         refine pu_z103 0 (some 21) ?_ mz103_1 rfl rfl (any_of HT_.out (by kernel_rfl)) (fun _ _ _ h => h) (Or.inl ⟨by rfl, ?_⟩) ?_ ?_ ?_
         (rotate_left; ·(intro w'; go_simp; with_reducible rfl)); (rotate_left; ·(simp only [Act.put, pq_z103]; rfl))
         refine take_ (i := 1) (N := some 22) (v := ?_) (a' := ?_) mz103_2 rfl rfl (take_ofW HT_.out HW_.out (by kernel_rfl)) (fun _ _ _ h => h) (Or.inl ⟨by rfl, ?_⟩) hHeld ?_ ?_
         (rotate_left; ·(rintro w' ⟨s0, s1, s2⟩; go_simp; with_reducible rfl)); (rotate_left; ·(simp only [Act.put, pq_z103]; rfl))
         refine one_ (i := 2) (N := some 23) mz103_3 rfl rfl (one_of HT_.out (by kernel_rfl)) (by decide) (fun K hK => ?_)
         refine goes_ Try.func72 (by kernel_rfl) rfl #[.int .i64 ((rd_T84 l0_1 x3_1).f0), .int .i64 (-12), .int .i64 (-1)] (by rfl) rfl rfl (by (try simp only [List.map_toArray, List.map_cons, List.map_nil]); first | done | rfl | (simp only [List.length_drop, List.length_take]; rfl)) ?_
         with_reducible refine (spec_l00In.calls ((rd_T84 l0_1 x3_1).f0) (-12) (-1) true _ A9.out).mono ?_
         rintro e w' ⟨rfl, ⟨nd, rfl⟩⟩
         refine ⟨_, rfl, ?_⟩
         refine hK.out _ _ ⟨(blk_cell BK116.out 0).trans rfl, (blk_cell BK116.out 1).trans rfl, (blk_cell BK116.out 2).trans rfl⟩ (fun hHeld => ?_)
         clear hK K
         refine norm_ (a' := ?_) ?_ ?_
         (rotate_left; ·(show Act.put _ (some 23) _ = _; simp only [Act.put, pq_z103]; rfl))
         refine pu_z103 3 (some 24) ?_ mz103_4 rfl rfl (any_of HT_.out (by kernel_rfl)) (fun _ _ _ h => h) (Or.inl ⟨by rfl, ?_⟩) ?_ ?_ ?_
         (rotate_left; ·(intro w'; go_simp; with_reducible rfl)); (rotate_left; ·(simp only [Act.put, pq_z103]; rfl))
         refine pu_z103 4 (some 25) ?_ mz103_5 rfl rfl (any_of HT_.out (by kernel_rfl)) (fun _ _ _ h => h) (Or.inl ⟨by rfl, ?_⟩) ?_ ?_ ?_
         (rotate_left; ·(intro w'; go_simp; with_reducible rfl)); (rotate_left; ·(simp only [Act.put, pq_z103]; rfl))
         refine pu_z103 5 (some 26) ?_ mz103_6 rfl rfl (any_of HT_.out (by kernel_rfl)) (fun _ _ _ h => h) (Or.inl ⟨by rfl, ?_⟩) ?_ ?_ ?_
         (rotate_left; ·(intro w'; go_simp; with_reducible rfl)); (rotate_left; ·(simp only [Act.put, pq_z103]; rfl))
         refine take_ (i := 6) (N := some 27) (v := ?_) (a' := ?_) mz103_7 rfl rfl (take_ofW HT_.out HW_.out (by kernel_rfl)) (fun _ _ _ h => h) (Or.inl ⟨by rfl, ?_⟩) hHeld ?_ ?_
         (rotate_left; ·(rintro w' ⟨s0, s1, s2⟩; go_simp; with_reducible rfl)); (rotate_left; ·(simp only [Act.put, pq_z103]; rfl))
         refine one_ (i := 7) (N := some 28) mz103_8 rfl rfl (one_of HT_.out (by kernel_rfl)) (by decide) (fun K hK => ?_)
         refine goes_ Try.func72 (by kernel_rfl) rfl #[.int .i64 ((rd_T84 l0_1 x3_1).f1), .int .i64 1, .int .i64 3] (by rfl) rfl rfl (by (try simp only [List.map_toArray, List.map_cons, List.map_nil]); first | done | rfl | (simp only [List.length_drop, List.length_take]; rfl)) ?_
         with_reducible refine (spec_l00In.calls ((rd_T84 l0_1 x3_1).f1) 1 3 true _ A11.out).mono ?_
         rintro e w' ⟨rfl, ⟨nd, rfl⟩⟩
         refine ⟨_, rfl, ?_⟩
         refine hK.out _ _ ⟨(blk_cell BK116.out 0).trans rfl, (blk_cell BK116.out 1).trans rfl, (blk_cell BK116.out 2).trans rfl⟩ (fun hHeld => ?_)
         clear hK K
         refine norm_ (a' := ?_) ?_ ?_
         (rotate_left; ·(show Act.put _ (some 28) _ = _; simp only [Act.put, pq_z103]; rfl))
         refine pu_z103 8 (some 29) ?_ mz103_9 rfl rfl (any_of HT_.out (by kernel_rfl)) (fun _ _ _ h => h) (Or.inl ⟨by rfl, ?_⟩) ?_ ?_ ?_
         (rotate_left; ·(intro w'; go_simp; with_reducible rfl)); (rotate_left; ·(simp only [Act.put, pq_z103]; rfl))
         refine pu_z103 9 (some 30) ?_ mz103_10 rfl rfl (any_of HT_.out (by kernel_rfl)) (fun _ _ _ h => h) (Or.inl ⟨by rfl, ?_⟩) ?_ ?_ ?_
         (rotate_left; ·(intro w'; go_simp; with_reducible rfl)); (rotate_left; ·(simp only [Act.put, pq_z103]; rfl))
         refine pu_z103 10 (some 31) ?_ mz103_11 rfl rfl (any_of HT_.out (by kernel_rfl)) (fun _ _ _ h => h) (Or.inl ⟨by rfl, ?_⟩) ?_ ?_ ?_
         (rotate_left; ·(intro w'; go_simp; with_reducible rfl)); (rotate_left; ·(simp only [Act.put, pq_z103]; rfl))
         refine pu_z103 11 (some 32) ?_ mz103_12 rfl rfl (any_of HT_.out (by kernel_rfl)) (fun _ _ _ h => h) (Or.inl ⟨by rfl, ?_⟩) ?_ ?_ ?_
         (rotate_left; ·(intro w'; go_simp; with_reducible rfl)); (rotate_left; ·(simp only [Act.put, pq_z103]; rfl))
         refine take_ (i := 12) (N := some 33) (v := ?_) (a' := ?_) mz103_13 rfl rfl (take_ofW HT_.out HW_.out (by kernel_rfl)) (fun _ _ _ h => h) (Or.inl ⟨by rfl, ?_⟩) hHeld ?_ ?_
         (rotate_left; ·(rintro w' ⟨s0, s1, s2⟩; go_simp; with_reducible rfl)); (rotate_left; ·(simp only [Act.put, pq_z103]; rfl))
         refine pu_z103 13 (some 34) ?_ mz103_14 rfl rfl (any_of HT_.out (by kernel_rfl)) (fun _ _ _ h => h) (Or.inl ⟨by rfl, ?_⟩) ?_ ?_ ?_
         (rotate_left; ·(intro w'; go_simp; with_reducible rfl)); (rotate_left; ·(simp only [Act.put, pq_z103]; rfl))
         refine pu_z103 14 (some 35) ?_ mz103_15 rfl rfl (any_of HT_.out (by kernel_rfl)) (fun _ _ _ h => h) (Or.inl ⟨by rfl, ?_⟩) ?_ ?_ ?_
         (rotate_left; ·(intro w'; go_simp; with_reducible rfl)); (rotate_left; ·(simp only [Act.put, pq_z103]; rfl))
         refine pu_z103 15 (some 36) ?_ mz103_16 rfl rfl (any_of HT_.out (by kernel_rfl)) (fun _ _ _ h => h) (Or.inl ⟨by rfl, ?_⟩) ?_ ?_ ?_
         (rotate_left; ·(intro w'; go_simp; with_reducible rfl)); (rotate_left; ·(simp only [Act.put, pq_z103]; rfl))
         refine pu_z103 16 (some 37) ?_ mz103_17 rfl rfl (any_of HT_.out (by kernel_rfl)) (fun _ _ _ h => h) (Or.inl ⟨by rfl, ?_⟩) ?_ ?_ ?_
         (rotate_left; ·(intro w'; go_simp; with_reducible rfl)); (rotate_left; ·(simp only [Act.put, pq_z103]; rfl))
         refine pu_z103 17 (some 38) undef mz103_18 rfl rfl (any_of HT_.out (by kernel_rfl)) (fun _ _ _ h => h) (Or.inr ⟨by rfl, rfl⟩) ?_ ?_ ?_
         (rotate_left; ·(simp only [Act.put, pq_z103]; rfl))
         refine pu_z103 18 (some 39) undef mz103_19 rfl rfl (any_of HT_.out (by kernel_rfl)) (fun _ _ _ h => h) (Or.inr ⟨by rfl, rfl⟩) ?_ ?_ ?_
         (rotate_left; ·(simp only [Act.put, pq_z103]; rfl))
         refine pu_z103 19 (some 40) undef mz103_20 rfl rfl (any_of HT_.out (by kernel_rfl)) (fun _ _ _ h => h) (Or.inr ⟨by rfl, rfl⟩) ?_ ?_ ?_
         (rotate_left; ·(simp only [Act.put, pq_z103]; rfl))
         refine pu_z103 20 (some 41) undef mz103_21 rfl rfl (any_of HT_.out (by kernel_rfl)) (fun _ _ _ h => h) (Or.inr ⟨by rfl, rfl⟩) ?_ ?_ ?_
         (rotate_left; ·(simp only [Act.put, pq_z103]; rfl))
         refine pu_z103 21 (some 42) undef mz103_22 rfl rfl (any_of HT_.out (by kernel_rfl)) (fun _ _ _ h => h) (Or.inr ⟨by rfl, rfl⟩) ?_ ?_ ?_
         (rotate_left; ·(simp only [Act.put, pq_z103]; rfl))
         refine pu_z103 22 (some 43) undef mz103_23 rfl rfl (any_of HT_.out (by kernel_rfl)) (fun _ _ _ h => h) (Or.inr ⟨by rfl, rfl⟩) ?_ ?_ ?_
         (rotate_left; ·(simp only [Act.put, pq_z103]; rfl))
         refine pu_z103 23 (some 44) undef mz103_24 rfl rfl (any_of HT_.out (by kernel_rfl)) (fun _ _ _ h => h) (Or.inr ⟨by rfl, rfl⟩) ?_ ?_ ?_
         (rotate_left; ·(simp only [Act.put, pq_z103]; rfl))
         refine pu_z103 24 (some 45) undef mz103_25 rfl rfl (any_of HT_.out (by kernel_rfl)) (fun _ _ _ h => h) (Or.inr ⟨by rfl, rfl⟩) ?_ ?_ ?_
         (rotate_left; ·(simp only [Act.put, pq_z103]; rfl))
         refine pu_z103 25 (some 46) undef mz103_26 rfl rfl (any_of HT_.out (by kernel_rfl)) (fun _ _ _ h => h) (Or.inr ⟨by rfl, rfl⟩) ?_ ?_ ?_
         (rotate_left; ·(simp only [Act.put, pq_z103]; rfl))
         refine pu_z103 26 (some 47) undef mz103_27 rfl rfl (any_of HT_.out (by kernel_rfl)) (fun _ _ _ h => h) (Or.inr ⟨by rfl, rfl⟩) ?_ ?_ ?_
         (rotate_left; ·(simp only [Act.put, pq_z103]; rfl))
         refine pu_z103 27 (some 48) undef mz103_28 rfl rfl (any_of HT_.out (by kernel_rfl)) (fun _ _ _ h => h) (Or.inr ⟨by rfl, rfl⟩) ?_ ?_ ?_
         (rotate_left; ·(simp only [Act.put, pq_z103]; rfl))
         refine pu_z103 28 (some 49) undef mz103_29 rfl rfl (any_of HT_.out (by kernel_rfl)) (fun _ _ _ h => h) (Or.inr ⟨by rfl, rfl⟩) ?_ ?_ ?_
         (rotate_left; ·(simp only [Act.put, pq_z103]; rfl))
         refine pu_z103 29 (some 50) undef mz103_30 rfl rfl (any_of HT_.out (by kernel_rfl)) (fun _ _ _ h => h) (Or.inr ⟨by rfl, rfl⟩) ?_ ?_ ?_
         (rotate_left; ·(simp only [Act.put, pq_z103]; rfl))
         refine pu_z103 30 (some 51) undef mz103_31 rfl rfl (any_of HT_.out (by kernel_rfl)) (fun _ _ _ h => h) (Or.inr ⟨by rfl, rfl⟩) ?_ ?_ ?_
         (rotate_left; ·(simp only [Act.put, pq_z103]; rfl))
         refine pu_z103 31 (some 52) ?_ mz103_32 rfl rfl (any_of HT_.out (by kernel_rfl)) (fun _ _ _ h => h) (Or.inl ⟨by rfl, ?_⟩) ?_ ?_ ?_
         (rotate_left; ·(intro w'; go_simp; with_reducible rfl)); (rotate_left; ·(simp only [Act.put, pq_z103]; rfl))
         refine done_ (done_of HT_.out (by kernel_rfl)) ?_
         try go_wp2
         go_ret
         exact ⟨by first | rfl | (simp [*, errW_none, errW_some] <;> rfl), by repeat (first | (with_reducible first | exact HB.out | apply below_alloc | apply pw_below_drewN | apply below_drew1 | refine below_set ?_ GE114.out | refine below_set ?_ GE116.out) | exact HB.out)⟩
        ·rw [if_neg c13] at H
         have c13b0 : decide (8 < (((rd_T84 l0_1 x3_1).f2).length : Int)) = false := decide_eq_false c13
         have c13b1 : decide (8 < ((rd_T84 l0_1 x3_1).f2).length) = false := decide_eq_false (by omega)
         clear c13
         by_cases c20 : x3_1 > 0
         ·rw [if_pos c20] at H
          have c20b0 : decide (0 < x3_1) = true := decide_eq_true c20
          clear c20
          obtain ⟨ji21, hji21⟩ : ∃ j_ : Int, (wrap64 (x3_1 - 1)) = j_ := ⟨_, rfl⟩
          replace H : (if 0 ≤ (ji21) then (if (ji21) < (l0_1.length : Int) then (if ((rd_T84 l0_1 x3_1).f0) ≥ ((rd_T84 l0_1 (ji21)).f0) then (some false) else (spec_l06Buckets.l0 k1 (wrap64 (x3_1 + 1)) l0_0 l0_1)) else (none)) else (none)) = some r := by first | (rw [hji21] at H; exact H) | (simp only [hji21] at H ⊢; exact H)
          (try rw [hji21] at A9)
          (try rw [hji21] at A11)
          have hji21w : (IntKind.i64.wrap (x3_1 - 1)) = ji21 := (i64_w _).trans hji21
          by_cases c22 : 0 ≤ (ji21)
          ·rw [if_pos c22] at H
           have c22b0 : decide (0 ≤ (ji21)) = true := decide_eq_true c22
           clear c22
           by_cases c23 : (ji21) < (l0_1.length : Int)
           ·rw [if_pos c23] at H
            have c23b0 : decide ((ji21) < (l0_1.length : Int)) = true := decide_eq_true c23
            clear c23
            by_cases c24 : ((rd_T84 l0_1 x3_1).f0) ≥ ((rd_T84 l0_1 (ji21)).f0)
            ·rw [if_pos c24] at H
             have c24b0 : decide (((rd_T84 l0_1 (ji21)).f0) ≤ ((rd_T84 l0_1 x3_1).f0)) = true := decide_eq_true c24
             clear c24
             obtain rfl := Option.some.inj H
             have hcz25_0 : wr.cell? ⟨gb114, 0, none⟩ = some (.slice A0_0 l0_0.length c0_0) := (blk_cell BK114.out 0).trans rfl
             have hcz25_1 : wr.cell? ⟨gb114, 1, none⟩ = some (.slice A0_1 l0_1.length c0_1) := (blk_cell BK114.out 1).trans rfl
             have hfz25_0 := blk_frozen BK114.out 0
             have hfz25_1 := blk_frozen BK114.out 1
             have p115 : 0 ≤ (x3_1 : Int) := of_decide_eq_true (by assumption)
             have q115 : x3_1 < (l0_1.length : Int) := of_decide_eq_true (by assumption)
             obtain ⟨ad115, A115_2, c115_2, e115, hx115_0, hx115_1, hx115_2, hl115_2, hi115_2⟩ := at_T84 HR0_1.out x3_1 p115 q115
             cases e115
             replace hx115_0 := (HB.out.cell (World.block_lt_of_cell? w _ hx115_0)).trans hx115_0
             replace hx115_1 := (HB.out.cell (World.block_lt_of_cell? w _ hx115_1)).trans hx115_1
             replace hx115_2 := (HB.out.cell (World.block_lt_of_cell? w _ hx115_2)).trans hx115_2
             have HR115_2 := Aside0.mk hi115_2
             have HC115_2 := Aside0.mk hl115_2
             clear hi115_2 hl115_2
             replace p115 := eq_true p115
             replace q115 := eq_true q115
             try go_wp2_with (first | ((with_reducible refine gate_dst (N := 4) rfl ?_); refine box_event ?hg (N := 4) ?hd (cs := #[.int .i64 0, .int .i64 0, .slice none 0 0]) (t := 84) ?hr ?_; (case hd => rfl); (case hg => rfl); (case hr => first | (go_simp; done) | (go_simp; rfl)); intro gb116 hg w26 hbox hb; have n0_ := Aside0.mk (blk_below (g := gb114) (o := .cells #[.slice A0_0 l0_0.length c0_0, .slice (some ad115) l0_1.length c0_1] 31 (0, 0)) (by (with_reducible repeat first | apply blk_drewN | apply blk_drew | apply blk_alloc); exact BK114.out) hb); have n1_ := Aside0.mk (below_step (by repeat (first | (with_reducible first | exact HB.out | apply below_alloc | apply pw_below_drewN | apply below_drew1 | refine below_set ?_ GE114.out) | exact HB.out)) hb); have n2_ := Aside0.mk (hbox); have n3_ := Aside0.mk ((by rw [hg]; exact (below_size (by repeat (first | (with_reducible first | exact HB.out | apply below_alloc | apply pw_below_drewN | apply below_drew1 | refine below_set ?_ GE114.out) | exact HB.out))) : w.heap.size ≤ gb116)); have n4_ := Aside0.mk ((by rw [hg]; exact (below_size (by repeat (first | (with_reducible first | exact HB.out | apply below_alloc | apply pw_below_drewN | apply below_drew1 | refine below_set ?_ GE114.out) | exact HB.out))) : w.heap.size ≤ gb116)); have n5_ := Aside0.mk ((by rw [hg]; exact Nat.ne_of_lt (blk_lt (g := gb114) (o := .cells #[.slice A0_0 l0_0.length c0_0, .slice (some ad115) l0_1.length c0_1] 31 (0, 0)) (by (with_reducible repeat first | apply blk_drewN | apply blk_drew | apply blk_alloc); exact BK114.out)) : gb114 ≠ gb116)); have n6_ := Aside0.mk ((by rw [hg]; exact Nat.ne_of_gt (blk_lt (g := gb114) (o := .cells #[.slice A0_0 l0_0.length c0_0, .slice (some ad115) l0_1.length c0_1] 31 (0, 0)) (by (with_reducible repeat first | apply blk_drewN | apply blk_drew | apply blk_alloc); exact BK114.out)) : gb116 ≠ gb114)); clear BK114; clear HB; have BK114 := n0_; have HB := n1_; have BK116 := n2_; have GW116 := n3_; have GE116 := n4_; have NB114_116 := n5_; have NB116_114 := n6_; clear n0_ n1_ n2_ n3_ n4_ n5_ n6_; clear hb hbox hg; have hnb27 := NB116_114.out; have hnc27 := NB114_116.out; have hcz28_0 : w26.cell? ⟨gb116, 0, none⟩ = some (.int .i64 0) := (blk_cell BK116.out 0).trans rfl; have hcz28_1 : w26.cell? ⟨gb116, 1, none⟩ = some (.int .i64 0) := (blk_cell BK116.out 1).trans rfl; have hcz28_2 : w26.cell? ⟨gb116, 2, none⟩ = some (.slice none 0 0) := (blk_cell BK116.out 2).trans rfl; have hfz28_0 := blk_frozen BK116.out 0; have hfz28_1 := blk_frozen BK116.out 1; have hfz28_2 := blk_frozen BK116.out 2))
             have n0_ : Aside0 ((((w26.setCell ⟨gb116, 0, none⟩ (.int .i64 ((rd_T84 l0_1 x3_1).f0))).setCell ⟨gb116, 1, none⟩ (.int .i64 ((rd_T84 l0_1 x3_1).f1))).setCell ⟨gb116, 2, none⟩ (.slice A115_2 ((rd_T84 l0_1 x3_1).f2).length c115_2)).heap[gb114]? = some (.cells #[.slice A0_0 l0_0.length c0_0, .slice (some ad115) l0_1.length c0_1] 31 (0, 0))) := ⟨by (with_reducible repeat first | apply blk_drewN | apply blk_drew | apply blk_alloc); refine blk_far ?_ NB114_116.out _; (with_reducible repeat first | apply blk_drewN | apply blk_drew | apply blk_alloc); refine blk_far ?_ NB114_116.out _; (with_reducible repeat first | apply blk_drewN | apply blk_drew | apply blk_alloc); refine blk_far ?_ NB114_116.out _; (with_reducible repeat first | apply blk_drewN | apply blk_drew | apply blk_alloc); exact BK114.out⟩
             have n1_ : Aside0 ((((w26.setCell ⟨gb116, 0, none⟩ (.int .i64 ((rd_T84 l0_1 x3_1).f0))).setCell ⟨gb116, 1, none⟩ (.int .i64 ((rd_T84 l0_1 x3_1).f1))).setCell ⟨gb116, 2, none⟩ (.slice A115_2 ((rd_T84 l0_1 x3_1).f2).length c115_2)).heap[gb116]? = some (.cells #[.int .i64 ((rd_T84 l0_1 x3_1).f0), .int .i64 ((rd_T84 l0_1 x3_1).f1), .slice A115_2 ((rd_T84 l0_1 x3_1).f2).length c115_2] 84 (0, 0))) := ⟨by (with_reducible repeat first | apply blk_drewN | apply blk_drew | apply blk_alloc); refine blk_put (cs := #[.int .i64 ((rd_T84 l0_1 x3_1).f0), .int .i64 ((rd_T84 l0_1 x3_1).f1), .slice none 0 0]) ?_ 2 _ rfl; (with_reducible repeat first | apply blk_drewN | apply blk_drew | apply blk_alloc); refine blk_put (cs := #[.int .i64 ((rd_T84 l0_1 x3_1).f0), .int .i64 0, .slice none 0 0]) ?_ 1 _ rfl; (with_reducible repeat first | apply blk_drewN | apply blk_drew | apply blk_alloc); refine blk_put (cs := #[.int .i64 0, .int .i64 0, .slice none 0 0]) ?_ 0 _ rfl; (with_reducible repeat first | apply blk_drewN | apply blk_drew | apply blk_alloc); exact BK116.out⟩
             have n2_ : Aside0 (Below w.heap.size w (((w26.setCell ⟨gb116, 0, none⟩ (.int .i64 ((rd_T84 l0_1 x3_1).f0))).setCell ⟨gb116, 1, none⟩ (.int .i64 ((rd_T84 l0_1 x3_1).f1))).setCell ⟨gb116, 2, none⟩ (.slice A115_2 ((rd_T84 l0_1 x3_1).f2).length c115_2))) := ⟨by repeat (first | (with_reducible first | exact HB.out | apply below_alloc | apply pw_below_drewN | apply below_drew1 | refine below_set ?_ GE114.out | refine below_set ?_ GE116.out) | exact HB.out)⟩
             (try clear BK114)
             (try clear BK116)
             (try clear HB)
             generalize (((w26.setCell ⟨gb116, 0, none⟩ (.int .i64 ((rd_T84 l0_1 x3_1).f0))).setCell ⟨gb116, 1, none⟩ (.int .i64 ((rd_T84 l0_1 x3_1).f1))).setCell ⟨gb116, 2, none⟩ (.slice A115_2 ((rd_T84 l0_1 x3_1).f2).length c115_2)) = w29 at n0_ n1_ n2_ ⊢
             have BK114 := n0_
             have BK116 := n1_
             have HB := n2_
             clear n0_ n1_ n2_
             have n0_ := Aside0.mk (blk_drew BK114.out)
             have n1_ := Aside0.mk (blk_drew BK116.out)
             have n2_ := Aside0.mk (below_drew1 HB.out)
             clear BK114
             clear BK116
             clear HB
             have BK114 := n0_
             have BK116 := n1_
             have HB := n2_
             clear n0_ n1_ n2_
             have p119 : 0 ≤ ((ji21) : Int) := of_decide_eq_true (by assumption)
             have q119 : (ji21) < (l0_1.length : Int) := of_decide_eq_true (by assumption)
             obtain ⟨ad119, A119_2, c119_2, e119, hx119_0, hx119_1, hx119_2, hl119_2, hi119_2⟩ := at_T84 HR0_1.out (ji21) p119 q119
             have hw119_2 := hx119_2
             have hw119_1 := hx119_1
             have hw119_0 := hx119_0
             obtain rfl : ad115 = ad119 := (by injection e119)
             replace hx119_0 := (HB.out.cell (World.block_lt_of_cell? w _ hx119_0)).trans hx119_0
             replace hx119_1 := (HB.out.cell (World.block_lt_of_cell? w _ hx119_1)).trans hx119_1
             replace hx119_2 := (HB.out.cell (World.block_lt_of_cell? w _ hx119_2)).trans hx119_2
             have HR119_2 := Aside0.mk hi119_2
             have HC119_2 := Aside0.mk hl119_2
             clear hi119_2 hl119_2
             replace p119 := eq_true p119
             replace q119 := eq_true q119
             refine start_ (n := 32) (S := fun w' => w'.cell? ⟨gb116, 0, none⟩ = some (.int .i64 ((rd_T84 l0_1 x3_1).f0)) ∧ w'.cell? ⟨gb116, 1, none⟩ = some (.int .i64 ((rd_T84 l0_1 x3_1).f1)) ∧ w'.cell? ⟨gb116, 2, none⟩ = some (.slice A115_2 ((rd_T84 l0_1 x3_1).f2).length c115_2) ∧ w'.cell? ⟨gb114, 0, none⟩ = some (.slice A0_0 l0_0.length c0_0) ∧ w'.cell? ⟨gb114, 1, none⟩ = some (.slice (some ad115) l0_1.length c0_1) ∧ w'.cell? (ad115.add (((ji21)).toNat * 3)) = some (.int .i64 ((rd_T84 l0_1 (ji21)).f0)) ∧ w'.cell? ⟨(ad115.add (((ji21)).toNat * 3)).block, (ad115.add (((ji21)).toNat * 3)).off + 1, none⟩ = some (.int .i64 ((rd_T84 l0_1 (ji21)).f1)) ∧ w'.cell? ⟨(ad115.add (((ji21)).toNat * 3)).block, (ad115.add (((ji21)).toNat * 3)).off + 2, none⟩ = some (.slice A119_2 ((rd_T84 l0_1 (ji21)).f2).length c119_2)) (ds := []) mz103_0 (by kernel_rfl) rfl rfl ⟨(blk_cell BK116.out 0).trans rfl, (blk_cell BK116.out 1).trans rfl, (blk_cell BK116.out 2).trans rfl, (blk_cell BK114.out 0).trans rfl, (blk_cell BK114.out 1).trans rfl, ((HB.out.cell (World.block_lt_of_cell? w _ hw119_0)).trans hw119_0), ((HB.out.cell (World.block_lt_of_cell? w _ hw119_1)).trans hw119_1), ((HB.out.cell (World.block_lt_of_cell? w _ hw119_2)).trans hw119_2)⟩ (fun hHeld => ?_); refine with_tabW spec_l06Buckets.tab7 spec_l06Buckets.bits7 (fun HT_ HW_ => ?_)
             generalize w29.drew = w30 at BK114 BK116 HB HR119_2 hx119_0 hx119_1 hx119_2 hHeld ⊢
             refine pu_z103 0 (some 21) ?_ mz103_1 rfl rfl (any_of HT_.out (by kernel_rfl)) (fun _ _ _ h => h) (Or.inl ⟨by rfl, ?_⟩) ?_ ?_ ?_
             (rotate_left; ·(intro w'; go_simp; with_reducible rfl)); (rotate_left; ·(simp only [Act.put, pq_z103]; rfl))
             refine take_ (i := 1) (N := some 22) (v := ?_) (a' := ?_) mz103_2 rfl rfl (take_ofW HT_.out HW_.out (by kernel_rfl)) (fun _ _ _ h => h) (Or.inl ⟨by rfl, ?_⟩) hHeld ?_ ?_
             (rotate_left; ·(rintro w' ⟨s0, s1, s2, s3, s4, s5, s6, s7⟩; go_simp; with_reducible rfl)); (rotate_left; ·(simp only [Act.put, pq_z103]; rfl))
             refine one_ (i := 2) (N := some 23) mz103_3 rfl rfl (one_of HT_.out (by kernel_rfl)) (by decide) (fun K hK => ?_)
             refine goes_ Try.func72 (by kernel_rfl) rfl #[.int .i64 ((rd_T84 l0_1 x3_1).f0), .int .i64 (-12), .int .i64 (-1)] (by rfl) rfl rfl (by (try simp only [List.map_toArray, List.map_cons, List.map_nil]); first | done | rfl | (simp only [List.length_drop, List.length_take]; rfl)) ?_
             with_reducible refine (spec_l00In.calls ((rd_T84 l0_1 x3_1).f0) (-12) (-1) true _ A9.out).mono ?_
             rintro e w' ⟨rfl, ⟨nd, rfl⟩⟩
             refine ⟨_, rfl, ?_⟩
             refine hK.out _ _ ⟨(blk_cell BK116.out 0).trans rfl, (blk_cell BK116.out 1).trans rfl, (blk_cell BK116.out 2).trans rfl, (blk_cell BK114.out 0).trans rfl, (blk_cell BK114.out 1).trans rfl, ((HB.out.cell (World.block_lt_of_cell? w _ hw119_0)).trans hw119_0), ((HB.out.cell (World.block_lt_of_cell? w _ hw119_1)).trans hw119_1), ((HB.out.cell (World.block_lt_of_cell? w _ hw119_2)).trans hw119_2)⟩ (fun hHeld => ?_)
             clear hK K
             refine norm_ (a' := ?_) ?_ ?_
             (rotate_left; ·(show Act.put _ (some 23) _ = _; simp only [Act.put, pq_z103]; rfl))
             refine pu_z103 3 (some 24) ?_ mz103_4 rfl rfl (any_of HT_.out (by kernel_rfl)) (fun _ _ _ h => h) (Or.inl ⟨by rfl, ?_⟩) ?_ ?_ ?_
             (rotate_left; ·(intro w'; go_simp; with_reducible rfl)); (rotate_left; ·(simp only [Act.put, pq_z103]; rfl))
             refine pu_z103 4 (some 25) ?_ mz103_5 rfl rfl (any_of HT_.out (by kernel_rfl)) (fun _ _ _ h => h) (Or.inl ⟨by rfl, ?_⟩) ?_ ?_ ?_
             (rotate_left; ·(intro w'; go_simp; with_reducible rfl)); (rotate_left; ·(simp only [Act.put, pq_z103]; rfl))
             refine pu_z103 5 (some 26) ?_ mz103_6 rfl rfl (any_of HT_.out (by kernel_rfl)) (fun _ _ _ h => h) (Or.inl ⟨by rfl, ?_⟩) ?_ ?_ ?_
             (rotate_left; ·(intro w'; go_simp; with_reducible rfl)); (rotate_left; ·(simp only [Act.put, pq_z103]; rfl))
             refine take_ (i := 6) (N := some 27) (v := ?_) (a' := ?_) mz103_7 rfl rfl (take_ofW HT_.out HW_.out (by kernel_rfl)) (fun _ _ _ h => h) (Or.inl ⟨by rfl, ?_⟩) hHeld ?_ ?_
             (rotate_left; ·(rintro w' ⟨s0, s1, s2, s3, s4, s5, s6, s7⟩; go_simp; with_reducible rfl)); (rotate_left; ·(simp only [Act.put, pq_z103]; rfl))
             refine one_ (i := 7) (N := some 28) mz103_8 rfl rfl (one_of HT_.out (by kernel_rfl)) (by decide) (fun K hK => ?_)
             refine goes_ Try.func72 (by kernel_rfl) rfl #[.int .i64 ((rd_T84 l0_1 x3_1).f1), .int .i64 1, .int .i64 3] (by rfl) rfl rfl (by (try simp only [List.map_toArray, List.map_cons, List.map_nil]); first | done | rfl | (simp only [List.length_drop, List.length_take]; rfl)) ?_
             with_reducible refine (spec_l00In.calls ((rd_T84 l0_1 x3_1).f1) 1 3 true _ A11.out).mono ?_
             rintro e w' ⟨rfl, ⟨nd, rfl⟩⟩
             refine ⟨_, rfl, ?_⟩
             refine hK.out _ _ ⟨(blk_cell BK116.out 0).trans rfl, (blk_cell BK116.out 1).trans rfl, (blk_cell BK116.out 2).trans rfl, (blk_cell BK114.out 0).trans rfl, (blk_cell BK114.out 1).trans rfl, ((HB.out.cell (World.block_lt_of_cell? w _ hw119_0)).trans hw119_0), ((HB.out.cell (World.block_lt_of_cell? w _ hw119_1)).trans hw119_1), ((HB.out.cell (World.block_lt_of_cell? w _ hw119_2)).trans hw119_2)⟩ (fun hHeld => ?_)
             clear hK K
             refine norm_ (a' := ?_) ?_ ?_
             (rotate_left; ·(show Act.put _ (some 28) _ = _; simp only [Act.put, pq_z103]; rfl))
             refine pu_z103 8 (some 29) ?_ mz103_9 rfl rfl (any_of HT_.out (by kernel_rfl)) (fun _ _ _ h => h) (Or.inl ⟨by rfl, ?_⟩) ?_ ?_ ?_
             (rotate_left; ·(intro w'; go_simp; with_reducible rfl)); (rotate_left; ·(simp only [Act.put, pq_z103]; rfl))
             refine pu_z103 9 (some 30) ?_ mz103_10 rfl rfl (any_of HT_.out (by kernel_rfl)) (fun _ _ _ h => h) (Or.inl ⟨by rfl, ?_⟩) ?_ ?_ ?_
             (rotate_left; ·(intro w'; go_simp; with_reducible rfl)); (rotate_left; ·(simp only [Act.put, pq_z103]; rfl))
             refine pu_z103 10 (some 31) ?_ mz103_11 rfl rfl (any_of HT_.out (by kernel_rfl)) (fun _ _ _ h => h) (Or.inl ⟨by rfl, ?_⟩) ?_ ?_ ?_
             (rotate_left; ·(intro w'; go_simp; with_reducible rfl)); (rotate_left; ·(simp only [Act.put, pq_z103]; rfl))
             refine pu_z103 11 (some 32) ?_ mz103_12 rfl rfl (any_of HT_.out (by kernel_rfl)) (fun _ _ _ h => h) (Or.inl ⟨by rfl, ?_⟩) ?_ ?_ ?_
             (rotate_left; ·(intro w'; go_simp; with_reducible rfl)); (rotate_left; ·(simp only [Act.put, pq_z103]; rfl))
             refine take_ (i := 12) (N := some 33) (v := ?_) (a' := ?_) mz103_13 rfl rfl (take_ofW HT_.out HW_.out (by kernel_rfl)) (fun _ _ _ h => h) (Or.inl ⟨by rfl, ?_⟩) hHeld ?_ ?_
             (rotate_left; ·(rintro w' ⟨s0, s1, s2, s3, s4, s5, s6, s7⟩; go_simp; with_reducible rfl)); (rotate_left; ·(simp only [Act.put, pq_z103]; rfl))
             refine pu_z103 13 (some 34) ?_ mz103_14 rfl rfl (any_of HT_.out (by kernel_rfl)) (fun _ _ _ h => h) (Or.inl ⟨by rfl, ?_⟩) ?_ ?_ ?_
             (rotate_left; ·(intro w'; go_simp; with_reducible rfl)); (rotate_left; ·(simp only [Act.put, pq_z103]; rfl))
             refine pu_z103 14 (some 35) ?_ mz103_15 rfl rfl (any_of HT_.out (by kernel_rfl)) (fun _ _ _ h => h) (Or.inl ⟨by rfl, ?_⟩) ?_ ?_ ?_
             (rotate_left; ·(intro w'; go_simp; with_reducible rfl)); (rotate_left; ·(simp only [Act.put, pq_z103]; rfl))
             refine pu_z103 15 (some 36) ?_ mz103_16 rfl rfl (any_of HT_.out (by kernel_rfl)) (fun _ _ _ h => h) (Or.inl ⟨by rfl, ?_⟩) ?_ ?_ ?_
             (rotate_left; ·(intro w'; go_simp; with_reducible rfl)); (rotate_left; ·(simp only [Act.put, pq_z103]; rfl))
             refine pu_z103 16 (some 37) ?_ mz103_17 rfl rfl (any_of HT_.out (by kernel_rfl)) (fun _ _ _ h => h) (Or.inl ⟨by rfl, ?_⟩) ?_ ?_ ?_
             (rotate_left; ·(intro w'; go_simp; with_reducible rfl)); (rotate_left; ·(simp only [Act.put, pq_z103]; rfl))
             refine pu_z103 17 (some 38) ?_ mz103_18 rfl rfl (any_of HT_.out (by kernel_rfl)) (fun _ _ _ h => h) (Or.inl ⟨by rfl, ?_⟩) ?_ ?_ ?_
             (rotate_left; ·(intro w'; go_simp; with_reducible rfl)); (rotate_left; ·(simp only [Act.put, pq_z103]; rfl))
             refine pu_z103 18 (some 39) ?_ mz103_19 rfl rfl (any_of HT_.out (by kernel_rfl)) (fun _ _ _ h => h) (Or.inl ⟨by rfl, ?_⟩) ?_ ?_ ?_
             (rotate_left; ·(intro w'; go_simp; with_reducible rfl)); (rotate_left; ·(simp only [Act.put, pq_z103]; rfl))
             refine pu_z103 19 (some 40) ?_ mz103_20 rfl rfl (any_of HT_.out (by kernel_rfl)) (fun _ _ _ h => h) (Or.inl ⟨by rfl, ?_⟩) ?_ ?_ ?_
             (rotate_left; ·(intro w'; go_simp; with_reducible rfl)); (rotate_left; ·(simp only [Act.put, pq_z103]; rfl))
             refine pu_z103 20 (some 41) ?_ mz103_21 rfl rfl (any_of HT_.out (by kernel_rfl)) (fun _ _ _ h => h) (Or.inl ⟨by rfl, ?_⟩) ?_ ?_ ?_
             (rotate_left; ·(intro w'; go_simp; with_reducible rfl)); (rotate_left; ·(simp only [Act.put, pq_z103]; rfl))
             refine pu_z103 22 (some 43) ?_ mz103_33 rfl rfl (any_of HT_.out (by kernel_rfl)) (fun _ _ _ h => h) (Or.inl ⟨by rfl, ?_⟩) ?_ ?_ ?_
             (rotate_left; ·(intro w'; go_simp; with_reducible rfl)); (rotate_left; ·(simp only [Act.put, pq_z103]; rfl))
             refine pu_z103 24 (some 45) ?_ mz103_34 rfl rfl (any_of HT_.out (by kernel_rfl)) (fun _ _ _ h => h) (Or.inl ⟨by rfl, ?_⟩) ?_ ?_ ?_
             (rotate_left; ·(intro w'; go_simp; with_reducible rfl)); (rotate_left; ·(simp only [Act.put, pq_z103]; rfl))
             refine pu_z103 25 (some 46) ?_ mz103_35 rfl rfl (any_of HT_.out (by kernel_rfl)) (fun _ _ _ h => h) (Or.inl ⟨by rfl, ?_⟩) ?_ ?_ ?_
             (rotate_left; ·(intro w'; go_simp; with_reducible rfl)); (rotate_left; ·(simp only [Act.put, pq_z103]; rfl))
             refine take_ (i := 21) (N := some 42) (v := ?_) (a' := ?_) mz103_36 rfl rfl (take_ofW HT_.out HW_.out (by kernel_rfl)) (fun _ _ _ h => h) (Or.inl ⟨by rfl, ?_⟩) hHeld ?_ ?_
             (rotate_left; ·(rintro w' ⟨s0, s1, s2, s3, s4, s5, s6, s7⟩; go_simp; with_reducible rfl)); (rotate_left; ·(simp only [Act.put, pq_z103]; rfl))
             refine take_ (i := 23) (N := some 44) (v := ?_) (a' := ?_) mz103_26 rfl rfl (take_ofW HT_.out HW_.out (by kernel_rfl)) (fun _ _ _ h => h) (Or.inl ⟨by rfl, ?_⟩) hHeld ?_ ?_
             (rotate_left; ·(rintro w' ⟨s0, s1, s2, s3, s4, s5, s6, s7⟩; go_simp; with_reducible rfl)); (rotate_left; ·(simp only [Act.put, pq_z103]; rfl))
             refine pu_z103 26 (some 47) ?_ mz103_27 rfl rfl (any_of HT_.out (by kernel_rfl)) (fun _ _ _ h => h) (Or.inl ⟨by rfl, ?_⟩) ?_ ?_ ?_
             (rotate_left; ·(intro w'; go_simp; with_reducible rfl)); (rotate_left; ·(simp only [Act.put, pq_z103]; rfl))
             refine pu_z103 27 (some 48) ?_ mz103_28 rfl rfl (any_of HT_.out (by kernel_rfl)) (fun _ _ _ h => h) (Or.inl ⟨by rfl, ?_⟩) ?_ ?_ ?_
             (rotate_left; ·(intro w'; go_simp; with_reducible rfl)); (rotate_left; ·(simp only [Act.put, pq_z103]; rfl))
             refine take_ (i := 28) (N := some 49) (v := ?_) (a' := ?_) mz103_29 rfl rfl (take_ofW HT_.out HW_.out (by kernel_rfl)) (fun _ _ _ h => h) (Or.inl ⟨by rfl, ?_⟩) hHeld ?_ ?_
             (rotate_left; ·(rintro w' ⟨s0, s1, s2, s3, s4, s5, s6, s7⟩; go_simp; with_reducible rfl)); (rotate_left; ·(simp only [Act.put, pq_z103]; rfl))
             refine pu_z103 29 (some 50) ?_ mz103_30 rfl rfl (any_of HT_.out (by kernel_rfl)) (fun _ _ _ h => h) (Or.inl ⟨by rfl, ?_⟩) ?_ ?_ ?_
             (rotate_left; ·(intro w'; go_simp; with_reducible rfl)); (rotate_left; ·(simp only [Act.put, pq_z103]; rfl))
             refine pu_z103 30 (some 51) ?_ mz103_31 rfl rfl (any_of HT_.out (by kernel_rfl)) (fun _ _ _ h => h) (Or.inl ⟨by rfl, ?_⟩) ?_ ?_ ?_
             (rotate_left; ·(intro w'; go_simp; with_reducible rfl)); (rotate_left; ·(simp only [Act.put, pq_z103]; rfl))
             refine pu_z103 31 (some 52) ?_ mz103_32 rfl rfl (any_of HT_.out (by kernel_rfl)) (fun _ _ _ h => h) (Or.inl ⟨by rfl, ?_⟩) ?_ ?_ ?_
             (rotate_left; ·(intro w'; go_simp; with_reducible rfl)); (rotate_left; ·(simp only [Act.put, pq_z103]; rfl))
             refine done_ (done_of HT_.out (by kernel_rfl)) ?_
             try go_wp2
             go_ret
             exact ⟨by first | rfl | (simp [errW_none, errW_some] <;> rfl) | (simp only [← hji21]; first | rfl | (simp [errW_none, errW_some] <;> rfl)) | (simp [*, errW_none, errW_some] <;> rfl), by repeat (first | (with_reducible first | exact HB.out | apply below_alloc | apply pw_below_drewN | apply below_drew1 | refine below_set ?_ GE114.out | refine below_set ?_ GE116.out) | exact HB.out)⟩
            ·rw [if_neg c24] at H
             have c24b0 : decide (((rd_T84 l0_1 (ji21)).f0) ≤ ((rd_T84 l0_1 x3_1).f0)) = false := decide_eq_false c24
             clear c24
             have H' := Aside0.mk H
             clear H
             have hcz31_0 : wr.cell? ⟨gb114, 0, none⟩ = some (.slice A0_0 l0_0.length c0_0) := (blk_cell BK114.out 0).trans rfl
             have hcz31_1 : wr.cell? ⟨gb114, 1, none⟩ = some (.slice A0_1 l0_1.length c0_1) := (blk_cell BK114.out 1).trans rfl
             have hfz31_0 := blk_frozen BK114.out 0
             have hfz31_1 := blk_frozen BK114.out 1
             have p115 : 0 ≤ (x3_1 : Int) := of_decide_eq_true (by assumption)
             have q115 : x3_1 < (l0_1.length : Int) := of_decide_eq_true (by assumption)
             obtain ⟨ad115, A115_2, c115_2, e115, hx115_0, hx115_1, hx115_2, hl115_2, hi115_2⟩ := at_T84 HR0_1.out x3_1 p115 q115
             cases e115
             replace hx115_0 := (HB.out.cell (World.block_lt_of_cell? w _ hx115_0)).trans hx115_0
             replace hx115_1 := (HB.out.cell (World.block_lt_of_cell? w _ hx115_1)).trans hx115_1
             replace hx115_2 := (HB.out.cell (World.block_lt_of_cell? w _ hx115_2)).trans hx115_2
             have HR115_2 := Aside0.mk hi115_2
             have HC115_2 := Aside0.mk hl115_2
             clear hi115_2 hl115_2
             replace p115 := eq_true p115
             replace q115 := eq_true q115
             try go_wp2_with (first | ((with_reducible refine gate_dst (N := 4) rfl ?_); refine box_event ?hg (N := 4) ?hd (cs := #[.int .i64 0, .int .i64 0, .slice none 0 0]) (t := 84) ?hr ?_; (case hd => rfl); (case hg => rfl); (case hr => first | (go_simp; done) | (go_simp; rfl)); intro gb116 hg w32 hbox hb; have n0_ := Aside0.mk (blk_below (g := gb114) (o := .cells #[.slice A0_0 l0_0.length c0_0, .slice (some ad115) l0_1.length c0_1] 31 (0, 0)) (by (with_reducible repeat first | apply blk_drewN | apply blk_drew | apply blk_alloc); exact BK114.out) hb); have n1_ := Aside0.mk (below_step (by repeat (first | (with_reducible first | exact HB.out | apply below_alloc | apply pw_below_drewN | apply below_drew1 | refine below_set ?_ GE114.out) | exact HB.out)) hb); have n2_ := Aside0.mk (hbox); have n3_ := Aside0.mk ((by rw [hg]; exact (below_size (by repeat (first | (with_reducible first | exact HB.out | apply below_alloc | apply pw_below_drewN | apply below_drew1 | refine below_set ?_ GE114.out) | exact HB.out))) : w.heap.size ≤ gb116)); have n4_ := Aside0.mk ((by rw [hg]; exact (below_size (by repeat (first | (with_reducible first | exact HB.out | apply below_alloc | apply pw_below_drewN | apply below_drew1 | refine below_set ?_ GE114.out) | exact HB.out))) : w.heap.size ≤ gb116)); have n5_ := Aside0.mk ((by rw [hg]; exact Nat.ne_of_lt (blk_lt (g := gb114) (o := .cells #[.slice A0_0 l0_0.length c0_0, .slice (some ad115) l0_1.length c0_1] 31 (0, 0)) (by (with_reducible repeat first | apply blk_drewN | apply blk_drew | apply blk_alloc); exact BK114.out)) : gb114 ≠ gb116)); have n6_ := Aside0.mk ((by rw [hg]; exact Nat.ne_of_gt (blk_lt (g := gb114) (o := .cells #[.slice A0_0 l0_0.length c0_0, .slice (some ad115) l0_1.length c0_1] 31 (0, 0)) (by (with_reducible repeat first | apply blk_drewN | apply blk_drew | apply blk_alloc); exact BK114.out)) : gb116 ≠ gb114)); clear BK114; clear HB; have BK114 := n0_; have HB := n1_; have BK116 := n2_; have GW116 := n3_; have GE116 := n4_; have NB114_116 := n5_; have NB116_114 := n6_; clear n0_ n1_ n2_ n3_ n4_ n5_ n6_; clear hb hbox hg; have hnb33 := NB116_114.out; have hnc33 := NB114_116.out; have hcz34_0 : w32.cell? ⟨gb116, 0, none⟩ = some (.int .i64 0) := (blk_cell BK116.out 0).trans rfl; have hcz34_1 : w32.cell? ⟨gb116, 1, none⟩ = some (.int .i64 0) := (blk_cell BK116.out 1).trans rfl; have hcz34_2 : w32.cell? ⟨gb116, 2, none⟩ = some (.slice none 0 0) := (blk_cell BK116.out 2).trans rfl; have hfz34_0 := blk_frozen BK116.out 0; have hfz34_1 := blk_frozen BK116.out 1; have hfz34_2 := blk_frozen BK116.out 2))
             have n0_ : Aside0 ((((w32.setCell ⟨gb116, 0, none⟩ (.int .i64 ((rd_T84 l0_1 x3_1).f0))).setCell ⟨gb116, 1, none⟩ (.int .i64 ((rd_T84 l0_1 x3_1).f1))).setCell ⟨gb116, 2, none⟩ (.slice A115_2 ((rd_T84 l0_1 x3_1).f2).length c115_2)).heap[gb114]? = some (.cells #[.slice A0_0 l0_0.length c0_0, .slice (some ad115) l0_1.length c0_1] 31 (0, 0))) := ⟨by (with_reducible repeat first | apply blk_drewN | apply blk_drew | apply blk_alloc); refine blk_far ?_ NB114_116.out _; (with_reducible repeat first | apply blk_drewN | apply blk_drew | apply blk_alloc); refine blk_far ?_ NB114_116.out _; (with_reducible repeat first | apply blk_drewN | apply blk_drew | apply blk_alloc); refine blk_far ?_ NB114_116.out _; (with_reducible repeat first | apply blk_drewN | apply blk_drew | apply blk_alloc); exact BK114.out⟩
             have n1_ : Aside0 ((((w32.setCell ⟨gb116, 0, none⟩ (.int .i64 ((rd_T84 l0_1 x3_1).f0))).setCell ⟨gb116, 1, none⟩ (.int .i64 ((rd_T84 l0_1 x3_1).f1))).setCell ⟨gb116, 2, none⟩ (.slice A115_2 ((rd_T84 l0_1 x3_1).f2).length c115_2)).heap[gb116]? = some (.cells #[.int .i64 ((rd_T84 l0_1 x3_1).f0), .int .i64 ((rd_T84 l0_1 x3_1).f1), .slice A115_2 ((rd_T84 l0_1 x3_1).f2).length c115_2] 84 (0, 0))) := ⟨by (with_reducible repeat first | apply blk_drewN | apply blk_drew | apply blk_alloc); refine blk_put (cs := #[.int .i64 ((rd_T84 l0_1 x3_1).f0), .int .i64 ((rd_T84 l0_1 x3_1).f1), .slice none 0 0]) ?_ 2 _ rfl; (with_reducible repeat first | apply blk_drewN | apply blk_drew | apply blk_alloc); refine blk_put (cs := #[.int .i64 ((rd_T84 l0_1 x3_1).f0), .int .i64 0, .slice none 0 0]) ?_ 1 _ rfl; (with_reducible repeat first | apply blk_drewN | apply blk_drew | apply blk_alloc); refine blk_put (cs := #[.int .i64 0, .int .i64 0, .slice none 0 0]) ?_ 0 _ rfl; (with_reducible repeat first | apply blk_drewN | apply blk_drew | apply blk_alloc); exact BK116.out⟩
             have n2_ : Aside0 (Below w.heap.size w (((w32.setCell ⟨gb116, 0, none⟩ (.int .i64 ((rd_T84 l0_1 x3_1).f0))).setCell ⟨gb116, 1, none⟩ (.int .i64 ((rd_T84 l0_1 x3_1).f1))).setCell ⟨gb116, 2, none⟩ (.slice A115_2 ((rd_T84 l0_1 x3_1).f2).length c115_2))) := ⟨by repeat (first | (with_reducible first | exact HB.out | apply below_alloc | apply pw_below_drewN | apply below_drew1 | refine below_set ?_ GE114.out | refine below_set ?_ GE116.out) | exact HB.out)⟩
             (try clear BK114)
             (try clear BK116)
             (try clear HB)
             generalize (((w32.setCell ⟨gb116, 0, none⟩ (.int .i64 ((rd_T84 l0_1 x3_1).f0))).setCell ⟨gb116, 1, none⟩ (.int .i64 ((rd_T84 l0_1 x3_1).f1))).setCell ⟨gb116, 2, none⟩ (.slice A115_2 ((rd_T84 l0_1 x3_1).f2).length c115_2)) = w35 at n0_ n1_ n2_ ⊢
             have BK114 := n0_
             have BK116 := n1_
             have HB := n2_
             clear n0_ n1_ n2_
             have n0_ := Aside0.mk (blk_drew BK114.out)
             have n1_ := Aside0.mk (blk_drew BK116.out)
             have n2_ := Aside0.mk (below_drew1 HB.out)
             clear BK114
             clear BK116
             clear HB
             have BK114 := n0_
             have BK116 := n1_
             have HB := n2_
             clear n0_ n1_ n2_
             have p119 : 0 ≤ ((ji21) : Int) := of_decide_eq_true (by assumption)
             have q119 : (ji21) < (l0_1.length : Int) := of_decide_eq_true (by assumption)
             obtain ⟨ad119, A119_2, c119_2, e119, hx119_0, hx119_1, hx119_2, hl119_2, hi119_2⟩ := at_T84 HR0_1.out (ji21) p119 q119
             have hw119_2 := hx119_2
             have hw119_1 := hx119_1
             have hw119_0 := hx119_0
             obtain rfl : ad115 = ad119 := (by injection e119)
             replace hx119_0 := (HB.out.cell (World.block_lt_of_cell? w _ hx119_0)).trans hx119_0
             replace hx119_1 := (HB.out.cell (World.block_lt_of_cell? w _ hx119_1)).trans hx119_1
             replace hx119_2 := (HB.out.cell (World.block_lt_of_cell? w _ hx119_2)).trans hx119_2
             have HR119_2 := Aside0.mk hi119_2
             have HC119_2 := Aside0.mk hl119_2
             clear hi119_2 hl119_2
             replace p119 := eq_true p119
             replace q119 := eq_true q119
             refine start_ (n := 32) (S := fun w' => w'.cell? ⟨gb116, 0, none⟩ = some (.int .i64 ((rd_T84 l0_1 x3_1).f0)) ∧ w'.cell? ⟨gb116, 1, none⟩ = some (.int .i64 ((rd_T84 l0_1 x3_1).f1)) ∧ w'.cell? ⟨gb116, 2, none⟩ = some (.slice A115_2 ((rd_T84 l0_1 x3_1).f2).length c115_2) ∧ w'.cell? ⟨gb114, 0, none⟩ = some (.slice A0_0 l0_0.length c0_0) ∧ w'.cell? ⟨gb114, 1, none⟩ = some (.slice (some ad115) l0_1.length c0_1) ∧ w'.cell? (ad115.add (((ji21)).toNat * 3)) = some (.int .i64 ((rd_T84 l0_1 (ji21)).f0)) ∧ w'.cell? ⟨(ad115.add (((ji21)).toNat * 3)).block, (ad115.add (((ji21)).toNat * 3)).off + 1, none⟩ = some (.int .i64 ((rd_T84 l0_1 (ji21)).f1)) ∧ w'.cell? ⟨(ad115.add (((ji21)).toNat * 3)).block, (ad115.add (((ji21)).toNat * 3)).off + 2, none⟩ = some (.slice A119_2 ((rd_T84 l0_1 (ji21)).f2).length c119_2)) (ds := []) mz103_0 (by kernel_rfl) rfl rfl ⟨(blk_cell BK116.out 0).trans rfl, (blk_cell BK116.out 1).trans rfl, (blk_cell BK116.out 2).trans rfl, (blk_cell BK114.out 0).trans rfl, (blk_cell BK114.out 1).trans rfl, ((HB.out.cell (World.block_lt_of_cell? w _ hw119_0)).trans hw119_0), ((HB.out.cell (World.block_lt_of_cell? w _ hw119_1)).trans hw119_1), ((HB.out.cell (World.block_lt_of_cell? w _ hw119_2)).trans hw119_2)⟩ (fun hHeld => ?_); refine with_tabW spec_l06Buckets.tab7 spec_l06Buckets.bits7 (fun HT_ HW_ => ?_)
             generalize w35.drew = w36 at BK114 BK116 HB HR119_2 hx119_0 hx119_1 hx119_2 hHeld ⊢
             refine pu_z103 0 (some 21) ?_ mz103_1 rfl rfl (any_of HT_.out (by kernel_rfl)) (fun _ _ _ h => h) (Or.inl ⟨by rfl, ?_⟩) ?_ ?_ ?_
             (rotate_left; ·(intro w'; go_simp; with_reducible rfl)); (rotate_left; ·(simp only [Act.put, pq_z103]; rfl))
             refine take_ (i := 1) (N := some 22) (v := ?_) (a' := ?_) mz103_2 rfl rfl (take_ofW HT_.out HW_.out (by kernel_rfl)) (fun _ _ _ h => h) (Or.inl ⟨by rfl, ?_⟩) hHeld ?_ ?_
             (rotate_left; ·(rintro w' ⟨s0, s1, s2, s3, s4, s5, s6, s7⟩; go_simp; with_reducible rfl)); (rotate_left; ·(simp only [Act.put, pq_z103]; rfl))
             refine one_ (i := 2) (N := some 23) mz103_3 rfl rfl (one_of HT_.out (by kernel_rfl)) (by decide) (fun K hK => ?_)
             refine goes_ Try.func72 (by kernel_rfl) rfl #[.int .i64 ((rd_T84 l0_1 x3_1).f0), .int .i64 (-12), .int .i64 (-1)] (by rfl) rfl rfl (by (try simp only [List.map_toArray, List.map_cons, List.map_nil]); first | done | rfl | (simp only [List.length_drop, List.length_take]; rfl)) ?_
             with_reducible refine (spec_l00In.calls ((rd_T84 l0_1 x3_1).f0) (-12) (-1) true _ A9.out).mono ?_
             rintro e w' ⟨rfl, ⟨nd, rfl⟩⟩
             refine ⟨_, rfl, ?_⟩
             refine hK.out _ _ ⟨(blk_cell BK116.out 0).trans rfl, (blk_cell BK116.out 1).trans rfl, (blk_cell BK116.out 2).trans rfl, (blk_cell BK114.out 0).trans rfl, (blk_cell BK114.out 1).trans rfl, ((HB.out.cell (World.block_lt_of_cell? w _ hw119_0)).trans hw119_0), ((HB.out.cell (World.block_lt_of_cell? w _ hw119_1)).trans hw119_1), ((HB.out.cell (World.block_lt_of_cell? w _ hw119_2)).trans hw119_2)⟩ (fun hHeld => ?_)
             clear hK K
             refine norm_ (a' := ?_) ?_ ?_
             (rotate_left; ·(show Act.put _ (some 23) _ = _; simp only [Act.put, pq_z103]; rfl))
             refine pu_z103 3 (some 24) ?_ mz103_4 rfl rfl (any_of HT_.out (by kernel_rfl)) (fun _ _ _ h => h) (Or.inl ⟨by rfl, ?_⟩) ?_ ?_ ?_
             (rotate_left; ·(intro w'; go_simp; with_reducible rfl)); (rotate_left; ·(simp only [Act.put, pq_z103]; rfl))
             refine pu_z103 4 (some 25) ?_ mz103_5 rfl rfl (any_of HT_.out (by kernel_rfl)) (fun _ _ _ h => h) (Or.inl ⟨by rfl, ?_⟩) ?_ ?_ ?_
             (rotate_left; ·(intro w'; go_simp; with_reducible rfl)); (rotate_left; ·(simp only [Act.put, pq_z103]; rfl))
             refine pu_z103 5 (some 26) ?_ mz103_6 rfl rfl (any_of HT_.out (by kernel_rfl)) (fun _ _ _ h => h) (Or.inl ⟨by rfl, ?_⟩) ?_ ?_ ?_
             (rotate_left; ·(intro w'; go_simp; with_reducible rfl)); (rotate_left; ·(simp only [Act.put, pq_z103]; rfl))
             refine take_ (i := 6) (N := some 27) (v := ?_) (a' := ?_) mz103_7 rfl rfl (take_ofW HT_.out HW_.out (by kernel_rfl)) (fun _ _ _ h => h) (Or.inl ⟨by rfl, ?_⟩) hHeld ?_ ?_
             (rotate_left; ·(rintro w' ⟨s0, s1, s2, s3, s4, s5, s6, s7⟩; go_simp; with_reducible rfl)); (rotate_left; ·(simp only [Act.put, pq_z103]; rfl))
             refine one_ (i := 7) (N := some 28) mz103_8 rfl rfl (one_of HT_.out (by kernel_rfl)) (by decide) (fun K hK => ?_)
             refine goes_ Try.func72 (by kernel_rfl) rfl #[.int .i64 ((rd_T84 l0_1 x3_1).f1), .int .i64 1, .int .i64 3] (by rfl) rfl rfl (by (try simp only [List.map_toArray, List.map_cons, List.map_nil]); first | done | rfl | (simp only [List.length_drop, List.length_take]; rfl)) ?_
             with_reducible refine (spec_l00In.calls ((rd_T84 l0_1 x3_1).f1) 1 3 true _ A11.out).mono ?_
             rintro e w' ⟨rfl, ⟨nd, rfl⟩⟩
             refine ⟨_, rfl, ?_⟩
             refine hK.out _ _ ⟨(blk_cell BK116.out 0).trans rfl, (blk_cell BK116.out 1).trans rfl, (blk_cell BK116.out 2).trans rfl, (blk_cell BK114.out 0).trans rfl, (blk_cell BK114.out 1).trans rfl, ((HB.out.cell (World.block_lt_of_cell? w _ hw119_0)).trans hw119_0), ((HB.out.cell (World.block_lt_of_cell? w _ hw119_1)).trans hw119_1), ((HB.out.cell (World.block_lt_of_cell? w _ hw119_2)).trans hw119_2)⟩ (fun hHeld => ?_)
             clear hK K
             refine norm_ (a' := ?_) ?_ ?_
             (rotate_left; ·(show Act.put _ (some 28) _ = _; simp only [Act.put, pq_z103]; rfl))
             refine pu_z103 8 (some 29) ?_ mz103_9 rfl rfl (any_of HT_.out (by kernel_rfl)) (fun _ _ _ h => h) (Or.inl ⟨by rfl, ?_⟩) ?_ ?_ ?_
             (rotate_left; ·(intro w'; go_simp; with_reducible rfl)); (rotate_left; ·(simp only [Act.put, pq_z103]; rfl))
             refine pu_z103 9 (some 30) ?_ mz103_10 rfl rfl (any_of HT_.out (by kernel_rfl)) (fun _ _ _ h => h) (Or.inl ⟨by rfl, ?_⟩) ?_ ?_ ?_
             (rotate_left; ·(intro w'; go_simp; with_reducible rfl)); (rotate_left; ·(simp only [Act.put, pq_z103]; rfl))
             refine pu_z103 10 (some 31) ?_ mz103_11 rfl rfl (any_of HT_.out (by kernel_rfl)) (fun _ _ _ h => h) (Or.inl ⟨by rfl, ?_⟩) ?_ ?_ ?_
             (rotate_left; ·(intro w'; go_simp; with_reducible rfl)); (rotate_left; ·(simp only [Act.put, pq_z103]; rfl))
             refine pu_z103 11 (some 32) ?_ mz103_12 rfl rfl (any_of HT_.out (by kernel_rfl)) (fun _ _ _ h => h) (Or.inl ⟨by rfl, ?_⟩) ?_ ?_ ?_
             (rotate_left; ·(intro w'; go_simp; with_reducible rfl)); (rotate_left; ·(simp only [Act.put, pq_z103]; rfl))
             refine take_ (i := 12) (N := some 33) (v := ?_) (a' := ?_) mz103_13 rfl rfl (take_ofW HT_.out HW_.out (by kernel_rfl)) (fun _ _ _ h => h) (Or.inl ⟨by rfl, ?_⟩) hHeld ?_ ?_
             (rotate_left; ·(rintro w' ⟨s0, s1, s2, s3, s4, s5, s6, s7⟩; go_simp; with_reducible rfl)); (rotate_left; ·(simp only [Act.put, pq_z103]; rfl))
             refine pu_z103 13 (some 34) ?_ mz103_14 rfl rfl (any_of HT_.out (by kernel_rfl)) (fun _ _ _ h => h) (Or.inl ⟨by rfl, ?_⟩) ?_ ?_ ?_
             (rotate_left; ·(intro w'; go_simp; with_reducible rfl)); (rotate_left; ·(simp only [Act.put, pq_z103]; rfl))
             refine pu_z103 14 (some 35) ?_ mz103_15 rfl rfl (any_of HT_.out (by kernel_rfl)) (fun _ _ _ h => h) (Or.inl ⟨by rfl, ?_⟩) ?_ ?_ ?_
             (rotate_left; ·(intro w'; go_simp; with_reducible rfl)); (rotate_left; ·(simp only [Act.put, pq_z103]; rfl))
             refine pu_z103 15 (some 36) ?_ mz103_16 rfl rfl (any_of HT_.out (by kernel_rfl)) (fun _ _ _ h => h) (Or.inl ⟨by rfl, ?_⟩) ?_ ?_ ?_
             (rotate_left; ·(intro w'; go_simp; with_reducible rfl)); (rotate_left; ·(simp only [Act.put, pq_z103]; rfl))
             refine pu_z103 16 (some 37) ?_ mz103_17 rfl rfl (any_of HT_.out (by kernel_rfl)) (fun _ _ _ h => h) (Or.inl ⟨by rfl, ?_⟩) ?_ ?_ ?_
             (rotate_left; ·(intro w'; go_simp; with_reducible rfl)); (rotate_left; ·(simp only [Act.put, pq_z103]; rfl))
             refine pu_z103 17 (some 38) ?_ mz103_18 rfl rfl (any_of HT_.out (by kernel_rfl)) (fun _ _ _ h => h) (Or.inl ⟨by rfl, ?_⟩) ?_ ?_ ?_
             (rotate_left; ·(intro w'; go_simp; with_reducible rfl)); (rotate_left; ·(simp only [Act.put, pq_z103]; rfl))
             refine pu_z103 18 (some 39) ?_ mz103_19 rfl rfl (any_of HT_.out (by kernel_rfl)) (fun _ _ _ h => h) (Or.inl ⟨by rfl, ?_⟩) ?_ ?_ ?_
             (rotate_left; ·(intro w'; go_simp; with_reducible rfl)); (rotate_left; ·(simp only [Act.put, pq_z103]; rfl))
             refine pu_z103 19 (some 40) ?_ mz103_20 rfl rfl (any_of HT_.out (by kernel_rfl)) (fun _ _ _ h => h) (Or.inl ⟨by rfl, ?_⟩) ?_ ?_ ?_
             (rotate_left; ·(intro w'; go_simp; with_reducible rfl)); (rotate_left; ·(simp only [Act.put, pq_z103]; rfl))
             refine pu_z103 20 (some 41) ?_ mz103_21 rfl rfl (any_of HT_.out (by kernel_rfl)) (fun _ _ _ h => h) (Or.inl ⟨by rfl, ?_⟩) ?_ ?_ ?_
             (rotate_left; ·(intro w'; go_simp; with_reducible rfl)); (rotate_left; ·(simp only [Act.put, pq_z103]; rfl))
             refine pu_z103 22 (some 43) ?_ mz103_33 rfl rfl (any_of HT_.out (by kernel_rfl)) (fun _ _ _ h => h) (Or.inl ⟨by rfl, ?_⟩) ?_ ?_ ?_
             (rotate_left; ·(intro w'; go_simp; with_reducible rfl)); (rotate_left; ·(simp only [Act.put, pq_z103]; rfl))
             refine pu_z103 24 (some 45) ?_ mz103_34 rfl rfl (any_of HT_.out (by kernel_rfl)) (fun _ _ _ h => h) (Or.inl ⟨by rfl, ?_⟩) ?_ ?_ ?_
             (rotate_left; ·(intro w'; go_simp; with_reducible rfl)); (rotate_left; ·(simp only [Act.put, pq_z103]; rfl))
             refine pu_z103 25 (some 46) ?_ mz103_35 rfl rfl (any_of HT_.out (by kernel_rfl)) (fun _ _ _ h => h) (Or.inl ⟨by rfl, ?_⟩) ?_ ?_ ?_
             (rotate_left; ·(intro w'; go_simp; with_reducible rfl)); (rotate_left; ·(simp only [Act.put, pq_z103]; rfl))
             refine take_ (i := 21) (N := some 42) (v := ?_) (a' := ?_) mz103_36 rfl rfl (take_ofW HT_.out HW_.out (by kernel_rfl)) (fun _ _ _ h => h) (Or.inl ⟨by rfl, ?_⟩) hHeld ?_ ?_
             (rotate_left; ·(rintro w' ⟨s0, s1, s2, s3, s4, s5, s6, s7⟩; go_simp; with_reducible rfl)); (rotate_left; ·(simp only [Act.put, pq_z103]; rfl))
             refine take_ (i := 23) (N := some 44) (v := ?_) (a' := ?_) mz103_26 rfl rfl (take_ofW HT_.out HW_.out (by kernel_rfl)) (fun _ _ _ h => h) (Or.inl ⟨by rfl, ?_⟩) hHeld ?_ ?_
             (rotate_left; ·(rintro w' ⟨s0, s1, s2, s3, s4, s5, s6, s7⟩; go_simp; with_reducible rfl)); (rotate_left; ·(simp only [Act.put, pq_z103]; rfl))
             refine pu_z103 26 (some 47) ?_ mz103_27 rfl rfl (any_of HT_.out (by kernel_rfl)) (fun _ _ _ h => h) (Or.inl ⟨by rfl, ?_⟩) ?_ ?_ ?_
             (rotate_left; ·(intro w'; go_simp; with_reducible rfl)); (rotate_left; ·(simp only [Act.put, pq_z103]; rfl))
             refine pu_z103 27 (some 48) ?_ mz103_28 rfl rfl (any_of HT_.out (by kernel_rfl)) (fun _ _ _ h => h) (Or.inl ⟨by rfl, ?_⟩) ?_ ?_ ?_
             (rotate_left; ·(intro w'; go_simp; with_reducible rfl)); (rotate_left; ·(simp only [Act.put, pq_z103]; rfl))
             refine take_ (i := 28) (N := some 49) (v := ?_) (a' := ?_) mz103_29 rfl rfl (take_ofW HT_.out HW_.out (by kernel_rfl)) (fun _ _ _ h => h) (Or.inl ⟨by rfl, ?_⟩) hHeld ?_ ?_
             (rotate_left; ·(rintro w' ⟨s0, s1, s2, s3, s4, s5, s6, s7⟩; go_simp; with_reducible rfl)); (rotate_left; ·(simp only [Act.put, pq_z103]; rfl))
             refine pu_z103 29 (some 50) ?_ mz103_30 rfl rfl (any_of HT_.out (by kernel_rfl)) (fun _ _ _ h => h) (Or.inl ⟨by rfl, ?_⟩) ?_ ?_ ?_
             (rotate_left; ·(intro w'; go_simp; with_reducible rfl)); (rotate_left; ·(simp only [Act.put, pq_z103]; rfl))
             refine pu_z103 30 (some 51) ?_ mz103_31 rfl rfl (any_of HT_.out (by kernel_rfl)) (fun _ _ _ h => h) (Or.inl ⟨by rfl, ?_⟩) ?_ ?_ ?_
             (rotate_left; ·(intro w'; go_simp; with_reducible rfl)); (rotate_left; ·(simp only [Act.put, pq_z103]; rfl))
             refine pu_z103 31 (some 52) ?_ mz103_32 rfl rfl (any_of HT_.out (by kernel_rfl)) (fun _ _ _ h => h) (Or.inl ⟨by rfl, ?_⟩) ?_ ?_ ?_
             (rotate_left; ·(intro w'; go_simp; with_reducible rfl)); (rotate_left; ·(simp only [Act.put, pq_z103]; rfl))
             refine done_ (done_of HT_.out (by kernel_rfl)) ?_
             try go_wp2
             go_roundg k1
             case measure => have := HK1.out; omega
             case rel => exact ⟨(wrap64 (x3_1 + 1)), (by first | rfl | (simp; done) | (simp [*]; done)), H', ⟨by have := HK1.out; omega⟩, ⟨by (with_reducible repeat first | apply blk_drewN | apply blk_drew | apply blk_alloc); exact BK114.out⟩, ⟨by repeat (first | (with_reducible first | exact HB.out | apply below_alloc | apply pw_below_drewN | apply below_drew1 | refine below_set ?_ GE114.out | refine below_set ?_ GE116.out) | exact HB.out)⟩⟩
           ·rw [if_neg c23] at H
            exact absurd H (by simp)
          ·rw [if_neg c22] at H
           exact absurd H (by simp)
         ·rw [if_neg c20] at H
          have c20b0 : decide (0 < x3_1) = false := decide_eq_false c20
          clear c20
          have H' := Aside0.mk H
          clear H
          have hcz37_0 : wr.cell? ⟨gb114, 0, none⟩ = some (.slice A0_0 l0_0.length c0_0) := (blk_cell BK114.out 0).trans rfl
          have hcz37_1 : wr.cell? ⟨gb114, 1, none⟩ = some (.slice A0_1 l0_1.length c0_1) := (blk_cell BK114.out 1).trans rfl
          have hfz37_0 := blk_frozen BK114.out 0
          have hfz37_1 := blk_frozen BK114.out 1
          have p115 : 0 ≤ (x3_1 : Int) := of_decide_eq_true (by assumption)
          have q115 : x3_1 < (l0_1.length : Int) := of_decide_eq_true (by assumption)
          obtain ⟨ad115, A115_2, c115_2, e115, hx115_0, hx115_1, hx115_2, hl115_2, hi115_2⟩ := at_T84 HR0_1.out x3_1 p115 q115
          cases e115
          replace hx115_0 := (HB.out.cell (World.block_lt_of_cell? w _ hx115_0)).trans hx115_0
          replace hx115_1 := (HB.out.cell (World.block_lt_of_cell? w _ hx115_1)).trans hx115_1
          replace hx115_2 := (HB.out.cell (World.block_lt_of_cell? w _ hx115_2)).trans hx115_2
          have HR115_2 := Aside0.mk hi115_2
          have HC115_2 := Aside0.mk hl115_2
          clear hi115_2 hl115_2
          replace p115 := eq_true p115
          replace q115 := eq_true q115
          try go_wp2_with (first | ((with_reducible refine gate_dst (N := 4) rfl ?_); refine box_event ?hg (N := 4) ?hd (cs := #[.int .i64 0, .int .i64 0, .slice none 0 0]) (t := 84) ?hr ?_; (case hd => rfl); (case hg => rfl); (case hr => first | (go_simp; done) | (go_simp; rfl)); intro gb116 hg w38 hbox hb; have n0_ := Aside0.mk (blk_below (g := gb114) (o := .cells #[.slice A0_0 l0_0.length c0_0, .slice (some ad115) l0_1.length c0_1] 31 (0, 0)) (by (with_reducible repeat first | apply blk_drewN | apply blk_drew | apply blk_alloc); exact BK114.out) hb); have n1_ := Aside0.mk (below_step (by repeat (first | (with_reducible first | exact HB.out | apply below_alloc | apply pw_below_drewN | apply below_drew1 | refine below_set ?_ GE114.out) | exact HB.out)) hb); have n2_ := Aside0.mk (hbox); have n3_ := Aside0.mk ((by rw [hg]; exact (below_size (by repeat (first | (with_reducible first | exact HB.out | apply below_alloc | apply pw_below_drewN | apply below_drew1 | refine below_set ?_ GE114.out) | exact HB.out))) : w.heap.size ≤ gb116)); have n4_ := Aside0.mk ((by rw [hg]; exact (below_size (by repeat (first | (with_reducible first | exact HB.out | apply below_alloc | apply pw_below_drewN | apply below_drew1 | refine below_set ?_ GE114.out) | exact HB.out))) : w.heap.size ≤ gb116)); have n5_ := Aside0.mk ((by rw [hg]; exact Nat.ne_of_lt (blk_lt (g := gb114) (o := .cells #[.slice A0_0 l0_0.length c0_0, .slice (some ad115) l0_1.length c0_1] 31 (0, 0)) (by (with_reducible repeat first | apply blk_drewN | apply blk_drew | apply blk_alloc); exact BK114.out)) : gb114 ≠ gb116)); have n6_ := Aside0.mk ((by rw [hg]; exact Nat.ne_of_gt (blk_lt (g := gb114) (o := .cells #[.slice A0_0 l0_0.length c0_0, .slice (some ad115) l0_1.length c0_1] 31 (0, 0)) (by (with_reducible repeat first | apply blk_drewN | apply blk_drew | apply blk_alloc); exact BK114.out)) : gb116 ≠ gb114)); clear BK114; clear HB; have BK114 := n0_; have HB := n1_; have BK116 := n2_; have GW116 := n3_; have GE116 := n4_; have NB114_116 := n5_; have NB116_114 := n6_; clear n0_ n1_ n2_ n3_ n4_ n5_ n6_; clear hb hbox hg; have hnb39 := NB116_114.out; have hnc39 := NB114_116.out; have hcz40_0 : w38.cell? ⟨gb116, 0, none⟩ = some (.int .i64 0) := (blk_cell BK116.out 0).trans rfl; have hcz40_1 : w38.cell? ⟨gb116, 1, none⟩ = some (.int .i64 0) := (blk_cell BK116.out 1).trans rfl; have hcz40_2 : w38.cell? ⟨gb116, 2, none⟩ = some (.slice none 0 0) := (blk_cell BK116.out 2).trans rfl; have hfz40_0 := blk_frozen BK116.out 0; have hfz40_1 := blk_frozen BK116.out 1; have hfz40_2 := blk_frozen BK116.out 2))
          have n0_ : Aside0 ((((w38.setCell ⟨gb116, 0, none⟩ (.int .i64 ((rd_T84 l0_1 x3_1).f0))).setCell ⟨gb116, 1, none⟩ (.int .i64 ((rd_T84 l0_1 x3_1).f1))).setCell ⟨gb116, 2, none⟩ (.slice A115_2 ((rd_T84 l0_1 x3_1).f2).length c115_2)).heap[gb114]? = some (.cells #[.slice A0_0 l0_0.length c0_0, .slice (some ad115) l0_1.length c0_1] 31 (0, 0))) := ⟨by (with_reducible repeat first | apply blk_drewN | apply blk_drew | apply blk_alloc); refine blk_far ?_ NB114_116.out _; (with_reducible repeat first | apply blk_drewN | apply blk_drew | apply blk_alloc); refine blk_far ?_ NB114_116.out _; (with_reducible repeat first | apply blk_drewN | apply blk_drew | apply blk_alloc); refine blk_far ?_ NB114_116.out _; (with_reducible repeat first | apply blk_drewN | apply blk_drew | apply blk_alloc); exact BK114.out⟩
          have n1_ : Aside0 ((((w38.setCell ⟨gb116, 0, none⟩ (.int .i64 ((rd_T84 l0_1 x3_1).f0))).setCell ⟨gb116, 1, none⟩ (.int .i64 ((rd_T84 l0_1 x3_1).f1))).setCell ⟨gb116, 2, none⟩ (.slice A115_2 ((rd_T84 l0_1 x3_1).f2).length c115_2)).heap[gb116]? = some (.cells #[.int .i64 ((rd_T84 l0_1 x3_1).f0), .int .i64 ((rd_T84 l0_1 x3_1).f1), .slice A115_2 ((rd_T84 l0_1 x3_1).f2).length c115_2] 84 (0, 0))) := ⟨by (with_reducible repeat first | apply blk_drewN | apply blk_drew | apply blk_alloc); refine blk_put (cs := #[.int .i64 ((rd_T84 l0_1 x3_1).f0), .int .i64 ((rd_T84 l0_1 x3_1).f1), .slice none 0 0]) ?_ 2 _ rfl; (with_reducible repeat first | apply blk_drewN | apply blk_drew | apply blk_alloc); refine blk_put (cs := #[.int .i64 ((rd_T84 l0_1 x3_1).f0), .int .i64 0, .slice none 0 0]) ?_ 1 _ rfl; (with_reducible repeat first | apply blk_drewN | apply blk_drew | apply blk_alloc); refine blk_put (cs := #[.int .i64 0, .int .i64 0, .slice none 0 0]) ?_ 0 _ rfl; (with_reducible repeat first | apply blk_drewN | apply blk_drew | apply blk_alloc); exact BK116.out⟩
          have n2_ : Aside0 (Below w.heap.size w (((w38.setCell ⟨gb116, 0, none⟩ (.int .i64 ((rd_T84 l0_1 x3_1).f0))).setCell ⟨gb116, 1, none⟩ (.int .i64 ((rd_T84 l0_1 x3_1).f1))).setCell ⟨gb116, 2, none⟩ (.slice A115_2 ((rd_T84 l0_1 x3_1).f2).length c115_2))) := ⟨by repeat (first | (with_reducible first | exact HB.out | apply below_alloc | apply pw_below_drewN | apply below_drew1 | refine below_set ?_ GE114.out | refine below_set ?_ GE116.out) | exact HB.out)⟩
          (try clear BK114)
          (try clear BK116)
          (try clear HB)
          generalize (((w38.setCell ⟨gb116, 0, none⟩ (.int .i64 ((rd_T84 l0_1 x3_1).f0))).setCell ⟨gb116, 1, none⟩ (.int .i64 ((rd_T84 l0_1 x3_1).f1))).setCell ⟨gb116, 2, none⟩ (.slice A115_2 ((rd_T84 l0_1 x3_1).f2).length c115_2)) = w41 at n0_ n1_ n2_ ⊢
          have BK114 := n0_
          have BK116 := n1_
          have HB := n2_
          clear n0_ n1_ n2_
          have n0_ := Aside0.mk (blk_drew BK114.out)
          have n1_ := Aside0.mk (blk_drew BK116.out)
          have n2_ := Aside0.mk (below_drew1 HB.out)
          clear BK114
          clear BK116
          clear HB
          have BK114 := n0_
          have BK116 := n1_
          have HB := n2_
          clear n0_ n1_ n2_
          refine start_ (n := 32) (S := fun w' => w'.cell? ⟨gb116, 0, none⟩ = some (.int .i64 ((rd_T84 l0_1 x3_1).f0)) ∧ w'.cell? ⟨gb116, 1, none⟩ = some (.int .i64 ((rd_T84 l0_1 x3_1).f1)) ∧ w'.cell? ⟨gb116, 2, none⟩ = some (.slice A115_2 ((rd_T84 l0_1 x3_1).f2).length c115_2)) (ds := []) mz103_0 (by kernel_rfl) rfl rfl ⟨(blk_cell BK116.out 0).trans rfl, (blk_cell BK116.out 1).trans rfl, (blk_cell BK116.out 2).trans rfl⟩ (fun hHeld => ?_); refine with_tabW spec_l06Buckets.tab7 spec_l06Buckets.bits7 (fun HT_ HW_ => ?_)
          generalize w41.drew = w42 at BK114 BK116 HB hHeld ⊢
          refine pu_z103 0 (some 21) ?_ mz103_1 rfl rfl (any_of HT_.out (by kernel_rfl)) (fun _ _ _ h => h) (Or.inl ⟨by rfl, ?_⟩) ?_ ?_ ?_
          (rotate_left; ·(intro w'; go_simp; with_reducible rfl)); (rotate_left; ·(simp only [Act.put, pq_z103]; rfl))
          refine take_ (i := 1) (N := some 22) (v := ?_) (a' := ?_) mz103_2 rfl rfl (take_ofW HT_.out HW_.out (by kernel_rfl)) (fun _ _ _ h => h) (Or.inl ⟨by rfl, ?_⟩) hHeld ?_ ?_
          (rotate_left; ·(rintro w' ⟨s0, s1, s2⟩; go_simp; with_reducible rfl)); (rotate_left; ·(simp only [Act.put, pq_z103]; rfl))
          refine one_ (i := 2) (N := some 23) mz103_3 rfl rfl (one_of HT_.out (by kernel_rfl)) (by decide) (fun K hK => ?_)
          refine goes_ Try.func72 (by kernel_rfl) rfl #[.int .i64 ((rd_T84 l0_1 x3_1).f0), .int .i64 (-12), .int .i64 (-1)] (by rfl) rfl rfl (by (try simp only [List.map_toArray, List.map_cons, List.map_nil]); first | done | rfl | (simp only [List.length_drop, List.length_take]; rfl)) ?_
          with_reducible refine (spec_l00In.calls ((rd_T84 l0_1 x3_1).f0) (-12) (-1) true _ A9.out).mono ?_
          rintro e w' ⟨rfl, ⟨nd, rfl⟩⟩
          refine ⟨_, rfl, ?_⟩
          refine hK.out _ _ ⟨(blk_cell BK116.out 0).trans rfl, (blk_cell BK116.out 1).trans rfl, (blk_cell BK116.out 2).trans rfl⟩ (fun hHeld => ?_)
          clear hK K
          refine norm_ (a' := ?_) ?_ ?_
          (rotate_left; ·(show Act.put _ (some 23) _ = _; simp only [Act.put, pq_z103]; rfl))
          refine pu_z103 3 (some 24) ?_ mz103_4 rfl rfl (any_of HT_.out (by kernel_rfl)) (fun _ _ _ h => h) (Or.inl ⟨by rfl, ?_⟩) ?_ ?_ ?_
          (rotate_left; ·(intro w'; go_simp; with_reducible rfl)); (rotate_left; ·(simp only [Act.put, pq_z103]; rfl))
          refine pu_z103 4 (some 25) ?_ mz103_5 rfl rfl (any_of HT_.out (by kernel_rfl)) (fun _ _ _ h => h) (Or.inl ⟨by rfl, ?_⟩) ?_ ?_ ?_
          (rotate_left; ·(intro w'; go_simp; with_reducible rfl)); (rotate_left; ·(simp only [Act.put, pq_z103]; rfl))
          refine pu_z103 5 (some 26) ?_ mz103_6 rfl rfl (any_of HT_.out (by kernel_rfl)) (fun _ _ _ h => h) (Or.inl ⟨by rfl, ?_⟩) ?_ ?_ ?_
          (rotate_left; ·(intro w'; go_simp; with_reducible rfl)); (rotate_left; ·(simp only [Act.put, pq_z103]; rfl))
          refine take_ (i := 6) (N := some 27) (v := ?_) (a' := ?_) mz103_7 rfl rfl (take_ofW HT_.out HW_.out (by kernel_rfl)) (fun _ _ _ h => h) (Or.inl ⟨by rfl, ?_⟩) hHeld ?_ ?_
          (rotate_left; ·(rintro w' ⟨s0, s1, s2⟩; go_simp; with_reducible rfl)); (rotate_left; ·(simp only [Act.put, pq_z103]; rfl))
          refine one_ (i := 7) (N := some 28) mz103_8 rfl rfl (one_of HT_.out (by kernel_rfl)) (by decide) (fun K hK => ?_)
          refine goes_ Try.func72 (by kernel_rfl) rfl #[.int .i64 ((rd_T84 l0_1 x3_1).f1), .int .i64 1, .int .i64 3] (by rfl) rfl rfl (by (try simp only [List.map_toArray, List.map_cons, List.map_nil]); first | done | rfl | (simp only [List.length_drop, List.length_take]; rfl)) ?_
          with_reducible refine (spec_l00In.calls ((rd_T84 l0_1 x3_1).f1) 1 3 true _ A11.out).mono ?_
          rintro e w' ⟨rfl, ⟨nd, rfl⟩⟩
          refine ⟨_, rfl, ?_⟩
          refine hK.out _ _ ⟨(blk_cell BK116.out 0).trans rfl, (blk_cell BK116.out 1).trans rfl, (blk_cell BK116.out 2).trans rfl⟩ (fun hHeld => ?_)
          clear hK K
          refine norm_ (a' := ?_) ?_ ?_
          (rotate_left; ·(show Act.put _ (some 28) _ = _; simp only [Act.put, pq_z103]; rfl))
          refine pu_z103 8 (some 29) ?_ mz103_9 rfl rfl (any_of HT_.out (by kernel_rfl)) (fun _ _ _ h => h) (Or.inl ⟨by rfl, ?_⟩) ?_ ?_ ?_
          (rotate_left; ·(intro w'; go_simp; with_reducible rfl)); (rotate_left; ·(simp only [Act.put, pq_z103]; rfl))
          refine pu_z103 9 (some 30) ?_ mz103_10 rfl rfl (any_of HT_.out (by kernel_rfl)) (fun _ _ _ h => h) (Or.inl ⟨by rfl, ?_⟩) ?_ ?_ ?_
          (rotate_left; ·(intro w'; go_simp; with_reducible rfl)); (rotate_left; ·(simp only [Act.put, pq_z103]; rfl))
          refine pu_z103 10 (some 31) ?_ mz103_11 rfl rfl (any_of HT_.out (by kernel_rfl)) (fun _ _ _ h => h) (Or.inl ⟨by rfl, ?_⟩) ?_ ?_ ?_
          (rotate_left; ·(intro w'; go_simp; with_reducible rfl)); (rotate_left; ·(simp only [Act.put, pq_z103]; rfl))
          refine pu_z103 11 (some 32) ?_ mz103_12 rfl rfl (any_of HT_.out (by kernel_rfl)) (fun _ _ _ h => h) (Or.inl ⟨by rfl, ?_⟩) ?_ ?_ ?_
          (rotate_left; ·(intro w'; go_simp; with_reducible rfl)); (rotate_left; ·(simp only [Act.put, pq_z103]; rfl))
          refine take_ (i := 12) (N := some 33) (v := ?_) (a' := ?_) mz103_13 rfl rfl (take_ofW HT_.out HW_.out (by kernel_rfl)) (fun _ _ _ h => h) (Or.inl ⟨by rfl, ?_⟩) hHeld ?_ ?_
          (rotate_left; ·(rintro w' ⟨s0, s1, s2⟩; go_simp; with_reducible rfl)); (rotate_left; ·(simp only [Act.put, pq_z103]; rfl))
          refine pu_z103 13 (some 34) ?_ mz103_14 rfl rfl (any_of HT_.out (by kernel_rfl)) (fun _ _ _ h => h) (Or.inl ⟨by rfl, ?_⟩) ?_ ?_ ?_
          (rotate_left; ·(intro w'; go_simp; with_reducible rfl)); (rotate_left; ·(simp only [Act.put, pq_z103]; rfl))
          refine pu_z103 14 (some 35) ?_ mz103_15 rfl rfl (any_of HT_.out (by kernel_rfl)) (fun _ _ _ h => h) (Or.inl ⟨by rfl, ?_⟩) ?_ ?_ ?_
          (rotate_left; ·(intro w'; go_simp; with_reducible rfl)); (rotate_left; ·(simp only [Act.put, pq_z103]; rfl))
          refine pu_z103 15 (some 36) ?_ mz103_16 rfl rfl (any_of HT_.out (by kernel_rfl)) (fun _ _ _ h => h) (Or.inl ⟨by rfl, ?_⟩) ?_ ?_ ?_
          (rotate_left; ·(intro w'; go_simp; with_reducible rfl)); (rotate_left; ·(simp only [Act.put, pq_z103]; rfl))
          refine pu_z103 16 (some 37) ?_ mz103_17 rfl rfl (any_of HT_.out (by kernel_rfl)) (fun _ _ _ h => h) (Or.inl ⟨by rfl, ?_⟩) ?_ ?_ ?_
          (rotate_left; ·(intro w'; go_simp; with_reducible rfl)); (rotate_left; ·(simp only [Act.put, pq_z103]; rfl))
          refine pu_z103 17 (some 38) ?_ mz103_18 rfl rfl (any_of HT_.out (by kernel_rfl)) (fun _ _ _ h => h) (Or.inl ⟨by rfl, ?_⟩) ?_ ?_ ?_
          (rotate_left; ·(intro w'; go_simp; with_reducible rfl)); (rotate_left; ·(simp only [Act.put, pq_z103]; rfl))
          refine pu_z103 18 (some 39) ?_ mz103_19 rfl rfl (any_of HT_.out (by kernel_rfl)) (fun _ _ _ h => h) (Or.inl ⟨by rfl, ?_⟩) ?_ ?_ ?_
          (rotate_left; ·(intro w'; go_simp; with_reducible rfl)); (rotate_left; ·(simp only [Act.put, pq_z103]; rfl))
          refine pu_z103 19 (some 40) ?_ mz103_20 rfl rfl (any_of HT_.out (by kernel_rfl)) (fun _ _ _ h => h) (Or.inl ⟨by rfl, ?_⟩) ?_ ?_ ?_
          (rotate_left; ·(intro w'; go_simp; with_reducible rfl)); (rotate_left; ·(simp only [Act.put, pq_z103]; rfl))
          refine pu_z103 20 (some 41) undef mz103_21 rfl rfl (any_of HT_.out (by kernel_rfl)) (fun _ _ _ h => h) (Or.inr ⟨by rfl, rfl⟩) ?_ ?_ ?_
          (rotate_left; ·(simp only [Act.put, pq_z103]; rfl))
          refine pu_z103 21 (some 42) undef mz103_22 rfl rfl (any_of HT_.out (by kernel_rfl)) (fun _ _ _ h => h) (Or.inr ⟨by rfl, rfl⟩) ?_ ?_ ?_
          (rotate_left; ·(simp only [Act.put, pq_z103]; rfl))
          refine pu_z103 22 (some 43) undef mz103_23 rfl rfl (any_of HT_.out (by kernel_rfl)) (fun _ _ _ h => h) (Or.inr ⟨by rfl, rfl⟩) ?_ ?_ ?_
          (rotate_left; ·(simp only [Act.put, pq_z103]; rfl))
          refine pu_z103 23 (some 44) undef mz103_24 rfl rfl (any_of HT_.out (by kernel_rfl)) (fun _ _ _ h => h) (Or.inr ⟨by rfl, rfl⟩) ?_ ?_ ?_
          (rotate_left; ·(simp only [Act.put, pq_z103]; rfl))
          refine pu_z103 24 (some 45) undef mz103_25 rfl rfl (any_of HT_.out (by kernel_rfl)) (fun _ _ _ h => h) (Or.inr ⟨by rfl, rfl⟩) ?_ ?_ ?_
          (rotate_left; ·(simp only [Act.put, pq_z103]; rfl))
          refine pu_z103 25 (some 46) undef mz103_26 rfl rfl (any_of HT_.out (by kernel_rfl)) (fun _ _ _ h => h) (Or.inr ⟨by rfl, rfl⟩) ?_ ?_ ?_
          (rotate_left; ·(simp only [Act.put, pq_z103]; rfl))
          refine pu_z103 26 (some 47) undef mz103_27 rfl rfl (any_of HT_.out (by kernel_rfl)) (fun _ _ _ h => h) (Or.inr ⟨by rfl, rfl⟩) ?_ ?_ ?_
          (rotate_left; ·(simp only [Act.put, pq_z103]; rfl))
          refine pu_z103 27 (some 48) undef mz103_28 rfl rfl (any_of HT_.out (by kernel_rfl)) (fun _ _ _ h => h) (Or.inr ⟨by rfl, rfl⟩) ?_ ?_ ?_
          (rotate_left; ·(simp only [Act.put, pq_z103]; rfl))
          refine pu_z103 28 (some 49) undef mz103_29 rfl rfl (any_of HT_.out (by kernel_rfl)) (fun _ _ _ h => h) (Or.inr ⟨by rfl, rfl⟩) ?_ ?_ ?_
          (rotate_left; ·(simp only [Act.put, pq_z103]; rfl))
          refine pu_z103 29 (some 50) undef mz103_30 rfl rfl (any_of HT_.out (by kernel_rfl)) (fun _ _ _ h => h) (Or.inr ⟨by rfl, rfl⟩) ?_ ?_ ?_
          (rotate_left; ·(simp only [Act.put, pq_z103]; rfl))
          refine pu_z103 30 (some 51) ?_ mz103_31 rfl rfl (any_of HT_.out (by kernel_rfl)) (fun _ _ _ h => h) (Or.inl ⟨by rfl, ?_⟩) ?_ ?_ ?_
          (rotate_left; ·(intro w'; go_simp; with_reducible rfl)); (rotate_left; ·(simp only [Act.put, pq_z103]; rfl))
          refine pu_z103 31 (some 52) ?_ mz103_32 rfl rfl (any_of HT_.out (by kernel_rfl)) (fun _ _ _ h => h) (Or.inl ⟨by rfl, ?_⟩) ?_ ?_ ?_
          (rotate_left; ·(intro w'; go_simp; with_reducible rfl)); (rotate_left; ·(simp only [Act.put, pq_z103]; rfl))
          refine done_ (done_of HT_.out (by kernel_rfl)) ?_
          try go_wp2
          go_roundg k1
          case measure => have := HK1.out; omega
          case rel => exact ⟨(wrap64 (x3_1 + 1)), (by first | rfl | (simp; done) | (simp [*]; done)), H', ⟨by have := HK1.out; omega⟩, ⟨by (with_reducible repeat first | apply blk_drewN | apply blk_drew | apply blk_alloc); exact BK114.out⟩, ⟨by repeat (first | (with_reducible first | exact HB.out | apply below_alloc | apply pw_below_drewN | apply below_drew1 | refine below_set ?_ GE114.out | refine below_set ?_ GE116.out) | exact HB.out)⟩⟩
       ·replace c12 := Bool.eq_false_iff.mpr c12
        subst c12
        have H1 : (some false) = some r := by rw [if_neg (show ¬ (false = true) by decide)] at H; exact H
        clear H
        have H := H1
        clear H1
        obtain rfl := Option.some.inj H
        have hcz43_0 : wr.cell? ⟨gb114, 0, none⟩ = some (.slice A0_0 l0_0.length c0_0) := (blk_cell BK114.out 0).trans rfl
        have hcz43_1 : wr.cell? ⟨gb114, 1, none⟩ = some (.slice A0_1 l0_1.length c0_1) := (blk_cell BK114.out 1).trans rfl
        have hfz43_0 := blk_frozen BK114.out 0
        have hfz43_1 := blk_frozen BK114.out 1
        have p115 : 0 ≤ (x3_1 : Int) := of_decide_eq_true (by assumption)
        have q115 : x3_1 < (l0_1.length : Int) := of_decide_eq_true (by assumption)
        obtain ⟨ad115, A115_2, c115_2, e115, hx115_0, hx115_1, hx115_2, hl115_2, hi115_2⟩ := at_T84 HR0_1.out x3_1 p115 q115
        cases e115
        replace hx115_0 := (HB.out.cell (World.block_lt_of_cell? w _ hx115_0)).trans hx115_0
        replace hx115_1 := (HB.out.cell (World.block_lt_of_cell? w _ hx115_1)).trans hx115_1
        replace hx115_2 := (HB.out.cell (World.block_lt_of_cell? w _ hx115_2)).trans hx115_2
        have HR115_2 := Aside0.mk hi115_2
        have HC115_2 := Aside0.mk hl115_2
        clear hi115_2 hl115_2
        replace p115 := eq_true p115
        replace q115 := eq_true q115
        try go_wp2_with (first | ((with_reducible refine gate_dst (N := 4) rfl ?_); refine box_event ?hg (N := 4) ?hd (cs := #[.int .i64 0, .int .i64 0, .slice none 0 0]) (t := 84) ?hr ?_; (case hd => rfl); (case hg => rfl); (case hr => first | (go_simp; done) | (go_simp; rfl)); intro gb116 hg w44 hbox hb; have n0_ := Aside0.mk (blk_below (g := gb114) (o := .cells #[.slice A0_0 l0_0.length c0_0, .slice (some ad115) l0_1.length c0_1] 31 (0, 0)) (by (with_reducible repeat first | apply blk_drewN | apply blk_drew | apply blk_alloc); exact BK114.out) hb); have n1_ := Aside0.mk (below_step (by repeat (first | (with_reducible first | exact HB.out | apply below_alloc | apply pw_below_drewN | apply below_drew1 | refine below_set ?_ GE114.out) | exact HB.out)) hb); have n2_ := Aside0.mk (hbox); have n3_ := Aside0.mk ((by rw [hg]; exact (below_size (by repeat (first | (with_reducible first | exact HB.out | apply below_alloc | apply pw_below_drewN | apply below_drew1 | refine below_set ?_ GE114.out) | exact HB.out))) : w.heap.size ≤ gb116)); have n4_ := Aside0.mk ((by rw [hg]; exact (below_size (by repeat (first | (with_reducible first | exact HB.out | apply below_alloc | apply pw_below_drewN | apply below_drew1 | refine below_set ?_ GE114.out) | exact HB.out))) : w.heap.size ≤ gb116)); have n5_ := Aside0.mk ((by rw [hg]; exact Nat.ne_of_lt (blk_lt (g := gb114) (o := .cells #[.slice A0_0 l0_0.length c0_0, .slice (some ad115) l0_1.length c0_1] 31 (0, 0)) (by (with_reducible repeat first | apply blk_drewN | apply blk_drew | apply blk_alloc); exact BK114.out)) : gb114 ≠ gb116)); have n6_ := Aside0.mk ((by rw [hg]; exact Nat.ne_of_gt (blk_lt (g := gb114) (o := .cells #[.slice A0_0 l0_0.length c0_0, .slice (some ad115) l0_1.length c0_1] 31 (0, 0)) (by (with_reducible repeat first | apply blk_drewN | apply blk_drew | apply blk_alloc); exact BK114.out)) : gb116 ≠ gb114)); clear BK114; clear HB; have BK114 := n0_; have HB := n1_; have BK116 := n2_; have GW116 := n3_; have GE116 := n4_; have NB114_116 := n5_; have NB116_114 := n6_; clear n0_ n1_ n2_ n3_ n4_ n5_ n6_; clear hb hbox hg; have hnb45 := NB116_114.out; have hnc45 := NB114_116.out; have hcz46_0 : w44.cell? ⟨gb116, 0, none⟩ = some (.int .i64 0) := (blk_cell BK116.out 0).trans rfl; have hcz46_1 : w44.cell? ⟨gb116, 1, none⟩ = some (.int .i64 0) := (blk_cell BK116.out 1).trans rfl; have hcz46_2 : w44.cell? ⟨gb116, 2, none⟩ = some (.slice none 0 0) := (blk_cell BK116.out 2).trans rfl; have hfz46_0 := blk_frozen BK116.out 0; have hfz46_1 := blk_frozen BK116.out 1; have hfz46_2 := blk_frozen BK116.out 2))
        have n0_ : Aside0 ((((w44.setCell ⟨gb116, 0, none⟩ (.int .i64 ((rd_T84 l0_1 x3_1).f0))).setCell ⟨gb116, 1, none⟩ (.int .i64 ((rd_T84 l0_1 x3_1).f1))).setCell ⟨gb116, 2, none⟩ (.slice A115_2 ((rd_T84 l0_1 x3_1).f2).length c115_2)).heap[gb114]? = some (.cells #[.slice A0_0 l0_0.length c0_0, .slice (some ad115) l0_1.length c0_1] 31 (0, 0))) := ⟨by (with_reducible repeat first | apply blk_drewN | apply blk_drew | apply blk_alloc); refine blk_far ?_ NB114_116.out _; (with_reducible repeat first | apply blk_drewN | apply blk_drew | apply blk_alloc); refine blk_far ?_ NB114_116.out _; (with_reducible repeat first | apply blk_drewN | apply blk_drew | apply blk_alloc); refine blk_far ?_ NB114_116.out _; (with_reducible repeat first | apply blk_drewN | apply blk_drew | apply blk_alloc); exact BK114.out⟩
        have n1_ : Aside0 ((((w44.setCell ⟨gb116, 0, none⟩ (.int .i64 ((rd_T84 l0_1 x3_1).f0))).setCell ⟨gb116, 1, none⟩ (.int .i64 ((rd_T84 l0_1 x3_1).f1))).setCell ⟨gb116, 2, none⟩ (.slice A115_2 ((rd_T84 l0_1 x3_1).f2).length c115_2)).heap[gb116]? = some (.cells #[.int .i64 ((rd_T84 l0_1 x3_1).f0), .int .i64 ((rd_T84 l0_1 x3_1).f1), .slice A115_2 ((rd_T84 l0_1 x3_1).f2).length c115_2] 84 (0, 0))) := ⟨by (with_reducible repeat first | apply blk_drewN | apply blk_drew | apply blk_alloc); refine blk_put (cs := #[.int .i64 ((rd_T84 l0_1 x3_1).f0), .int .i64 ((rd_T84 l0_1 x3_1).f1), .slice none 0 0]) ?_ 2 _ rfl; (with_reducible repeat first | apply blk_drewN | apply blk_drew | apply blk_alloc); refine blk_put (cs := #[.int .i64 ((rd_T84 l0_1 x3_1).f0), .int .i64 0, .slice none 0 0]) ?_ 1 _ rfl; (with_reducible repeat first | apply blk_drewN | apply blk_drew | apply blk_alloc); refine blk_put (cs := #[.int .i64 0, .int .i64 0, .slice none 0 0]) ?_ 0 _ rfl; (with_reducible repeat first | apply blk_drewN | apply blk_drew | apply blk_alloc); exact BK116.out⟩
        have n2_ : Aside0 (Below w.heap.size w (((w44.setCell ⟨gb116, 0, none⟩ (.int .i64 ((rd_T84 l0_1 x3_1).f0))).setCell ⟨gb116, 1, none⟩ (.int .i64 ((rd_T84 l0_1 x3_1).f1))).setCell ⟨gb116, 2, none⟩ (.slice A115_2 ((rd_T84 l0_1 x3_1).f2).length c115_2))) := ⟨by repeat (first | (with_reducible first | exact HB.out | apply below_alloc | apply pw_below_drewN | apply below_drew1 | refine below_set ?_ GE114.out | refine below_set ?_ GE116.out) | exact HB.out)⟩
        (try clear BK114)
        (try clear BK116)
        (try clear HB)
        generalize (((w44.setCell ⟨gb116, 0, none⟩ (.int .i64 ((rd_T84 l0_1 x3_1).f0))).setCell ⟨gb116, 1, none⟩ (.int .i64 ((rd_T84 l0_1 x3_1).f1))).setCell ⟨gb116, 2, none⟩ (.slice A115_2 ((rd_T84 l0_1 x3_1).f2).length c115_2)) = w47 at n0_ n1_ n2_ ⊢
        have BK114 := n0_
        have BK116 := n1_
        have HB := n2_
        clear n0_ n1_ n2_
        have n0_ := Aside0.mk (blk_drew BK114.out)
        have n1_ := Aside0.mk (blk_drew BK116.out)
        have n2_ := Aside0.mk (below_drew1 HB.out)
        clear BK114
        clear BK116
        clear HB
        have BK114 := n0_
        have BK116 := n1_
        have HB := n2_
        clear n0_ n1_ n2_
        refine start_ (n := 32) (S := fun w' => w'.cell? ⟨gb116, 0, none⟩ = some (.int .i64 ((rd_T84 l0_1 x3_1).f0)) ∧ w'.cell? ⟨gb116, 1, none⟩ = some (.int .i64 ((rd_T84 l0_1 x3_1).f1)) ∧ w'.cell? ⟨gb116, 2, none⟩ = some (.slice A115_2 ((rd_T84 l0_1 x3_1).f2).length c115_2)) (ds := []) mz103_0 (by kernel_rfl) rfl rfl ⟨(blk_cell BK116.out 0).trans rfl, (blk_cell BK116.out 1).trans rfl, (blk_cell BK116.out 2).trans rfl⟩ (fun hHeld => ?_); refine with_tabW spec_l06Buckets.tab7 spec_l06Buckets.bits7 (fun HT_ HW_ => ?_)
        generalize w47.drew = w48 at BK114 BK116 HB hHeld ⊢
        refine pu_z103 0 (some 21) ?_ mz103_1 rfl rfl (any_of HT_.out (by kernel_rfl)) (fun _ _ _ h => h) (Or.inl ⟨by rfl, ?_⟩) ?_ ?_ ?_
        (rotate_left; ·(intro w'; go_simp; with_reducible rfl)); (rotate_left; ·(simp only [Act.put, pq_z103]; rfl))
        refine take_ (i := 1) (N := some 22) (v := ?_) (a' := ?_) mz103_2 rfl rfl (take_ofW HT_.out HW_.out (by kernel_rfl)) (fun _ _ _ h => h) (Or.inl ⟨by rfl, ?_⟩) hHeld ?_ ?_
        (rotate_left; ·(rintro w' ⟨s0, s1, s2⟩; go_simp; with_reducible rfl)); (rotate_left; ·(simp only [Act.put, pq_z103]; rfl))
        refine one_ (i := 2) (N := some 23) mz103_3 rfl rfl (one_of HT_.out (by kernel_rfl)) (by decide) (fun K hK => ?_)
        refine goes_ Try.func72 (by kernel_rfl) rfl #[.int .i64 ((rd_T84 l0_1 x3_1).f0), .int .i64 (-12), .int .i64 (-1)] (by rfl) rfl rfl (by (try simp only [List.map_toArray, List.map_cons, List.map_nil]); first | done | rfl | (simp only [List.length_drop, List.length_take]; rfl)) ?_
        with_reducible refine (spec_l00In.calls ((rd_T84 l0_1 x3_1).f0) (-12) (-1) true _ A9.out).mono ?_
        rintro e w' ⟨rfl, ⟨nd, rfl⟩⟩
        refine ⟨_, rfl, ?_⟩
        refine hK.out _ _ ⟨(blk_cell BK116.out 0).trans rfl, (blk_cell BK116.out 1).trans rfl, (blk_cell BK116.out 2).trans rfl⟩ (fun hHeld => ?_)
        clear hK K
        refine norm_ (a' := ?_) ?_ ?_
        (rotate_left; ·(show Act.put _ (some 23) _ = _; simp only [Act.put, pq_z103]; rfl))
        refine pu_z103 3 (some 24) ?_ mz103_4 rfl rfl (any_of HT_.out (by kernel_rfl)) (fun _ _ _ h => h) (Or.inl ⟨by rfl, ?_⟩) ?_ ?_ ?_
        (rotate_left; ·(intro w'; go_simp; with_reducible rfl)); (rotate_left; ·(simp only [Act.put, pq_z103]; rfl))
        refine pu_z103 4 (some 25) ?_ mz103_5 rfl rfl (any_of HT_.out (by kernel_rfl)) (fun _ _ _ h => h) (Or.inl ⟨by rfl, ?_⟩) ?_ ?_ ?_
        (rotate_left; ·(intro w'; go_simp; with_reducible rfl)); (rotate_left; ·(simp only [Act.put, pq_z103]; rfl))
        refine pu_z103 5 (some 26) ?_ mz103_6 rfl rfl (any_of HT_.out (by kernel_rfl)) (fun _ _ _ h => h) (Or.inl ⟨by rfl, ?_⟩) ?_ ?_ ?_
        (rotate_left; ·(intro w'; go_simp; with_reducible rfl)); (rotate_left; ·(simp only [Act.put, pq_z103]; rfl))
        refine take_ (i := 6) (N := some 27) (v := ?_) (a' := ?_) mz103_7 rfl rfl (take_ofW HT_.out HW_.out (by kernel_rfl)) (fun _ _ _ h => h) (Or.inl ⟨by rfl, ?_⟩) hHeld ?_ ?_
        (rotate_left; ·(rintro w' ⟨s0, s1, s2⟩; go_simp; with_reducible rfl)); (rotate_left; ·(simp only [Act.put, pq_z103]; rfl))
        refine one_ (i := 7) (N := some 28) mz103_8 rfl rfl (one_of HT_.out (by kernel_rfl)) (by decide) (fun K hK => ?_)
        refine goes_ Try.func72 (by kernel_rfl) rfl #[.int .i64 ((rd_T84 l0_1 x3_1).f1), .int .i64 1, .int .i64 3] (by rfl) rfl rfl (by (try simp only [List.map_toArray, List.map_cons, List.map_nil]); first | done | rfl | (simp only [List.length_drop, List.length_take]; rfl)) ?_
        with_reducible refine (spec_l00In.calls ((rd_T84 l0_1 x3_1).f1) 1 3 false _ A11.out).mono ?_
        rintro e w' ⟨rfl, ⟨nd, rfl⟩⟩
        refine ⟨_, rfl, ?_⟩
        refine hK.out _ _ ⟨(blk_cell BK116.out 0).trans rfl, (blk_cell BK116.out 1).trans rfl, (blk_cell BK116.out 2).trans rfl⟩ (fun hHeld => ?_)
        clear hK K
        refine norm_ (a' := ?_) ?_ ?_
        (rotate_left; ·(show Act.put _ (some 28) _ = _; simp only [Act.put, pq_z103]; rfl))
        refine pu_z103 8 (some 29) ?_ mz103_9 rfl rfl (any_of HT_.out (by kernel_rfl)) (fun _ _ _ h => h) (Or.inl ⟨by rfl, ?_⟩) ?_ ?_ ?_
        (rotate_left; ·(intro w'; go_simp; with_reducible rfl)); (rotate_left; ·(simp only [Act.put, pq_z103]; rfl))
        refine pu_z103 9 (some 30) ?_ mz103_10 rfl rfl (any_of HT_.out (by kernel_rfl)) (fun _ _ _ h => h) (Or.inl ⟨by rfl, ?_⟩) ?_ ?_ ?_
        (rotate_left; ·(intro w'; go_simp; with_reducible rfl)); (rotate_left; ·(simp only [Act.put, pq_z103]; rfl))
        refine pu_z103 10 (some 31) ?_ mz103_11 rfl rfl (any_of HT_.out (by kernel_rfl)) (fun _ _ _ h => h) (Or.inl ⟨by rfl, ?_⟩) ?_ ?_ ?_
        (rotate_left; ·(intro w'; go_simp; with_reducible rfl)); (rotate_left; ·(simp only [Act.put, pq_z103]; rfl))
        refine pu_z103 11 (some 32) undef mz103_12 rfl rfl (any_of HT_.out (by kernel_rfl)) (fun _ _ _ h => h) (Or.inr ⟨by rfl, rfl⟩) ?_ ?_ ?_
        (rotate_left; ·(simp only [Act.put, pq_z103]; rfl))
        refine pu_z103 12 (some 33) undef mz103_13 rfl rfl (any_of HT_.out (by kernel_rfl)) (fun _ _ _ h => h) (Or.inr ⟨by rfl, rfl⟩) ?_ ?_ ?_
        (rotate_left; ·(simp only [Act.put, pq_z103]; rfl))
        refine pu_z103 13 (some 34) undef mz103_14 rfl rfl (any_of HT_.out (by kernel_rfl)) (fun _ _ _ h => h) (Or.inr ⟨by rfl, rfl⟩) ?_ ?_ ?_
        (rotate_left; ·(simp only [Act.put, pq_z103]; rfl))
        refine pu_z103 14 (some 35) undef mz103_15 rfl rfl (any_of HT_.out (by kernel_rfl)) (fun _ _ _ h => h) (Or.inr ⟨by rfl, rfl⟩) ?_ ?_ ?_
        (rotate_left; ·(simp only [Act.put, pq_z103]; rfl))
        refine pu_z103 15 (some 36) ?_ mz103_16 rfl rfl (any_of HT_.out (by kernel_rfl)) (fun _ _ _ h => h) (Or.inl ⟨by rfl, ?_⟩) ?_ ?_ ?_
        (rotate_left; ·(intro w'; go_simp; with_reducible rfl)); (rotate_left; ·(simp only [Act.put, pq_z103]; rfl))
        refine pu_z103 16 (some 37) ?_ mz103_17 rfl rfl (any_of HT_.out (by kernel_rfl)) (fun _ _ _ h => h) (Or.inl ⟨by rfl, ?_⟩) ?_ ?_ ?_
        (rotate_left; ·(intro w'; go_simp; with_reducible rfl)); (rotate_left; ·(simp only [Act.put, pq_z103]; rfl))
        refine pu_z103 17 (some 38) undef mz103_18 rfl rfl (any_of HT_.out (by kernel_rfl)) (fun _ _ _ h => h) (Or.inr ⟨by rfl, rfl⟩) ?_ ?_ ?_
        (rotate_left; ·(simp only [Act.put, pq_z103]; rfl))
        refine pu_z103 18 (some 39) undef mz103_19 rfl rfl (any_of HT_.out (by kernel_rfl)) (fun _ _ _ h => h) (Or.inr ⟨by rfl, rfl⟩) ?_ ?_ ?_
        (rotate_left; ·(simp only [Act.put, pq_z103]; rfl))
        refine pu_z103 19 (some 40) undef mz103_20 rfl rfl (any_of HT_.out (by kernel_rfl)) (fun _ _ _ h => h) (Or.inr ⟨by rfl, rfl⟩) ?_ ?_ ?_
        (rotate_left; ·(simp only [Act.put, pq_z103]; rfl))
        refine pu_z103 20 (some 41) undef mz103_21 rfl rfl (any_of HT_.out (by kernel_rfl)) (fun _ _ _ h => h) (Or.inr ⟨by rfl, rfl⟩) ?_ ?_ ?_
        (rotate_left; ·(simp only [Act.put, pq_z103]; rfl))
        refine pu_z103 21 (some 42) undef mz103_22 rfl rfl (any_of HT_.out (by kernel_rfl)) (fun _ _ _ h => h) (Or.inr ⟨by rfl, rfl⟩) ?_ ?_ ?_
        (rotate_left; ·(simp only [Act.put, pq_z103]; rfl))
        refine pu_z103 22 (some 43) undef mz103_23 rfl rfl (any_of HT_.out (by kernel_rfl)) (fun _ _ _ h => h) (Or.inr ⟨by rfl, rfl⟩) ?_ ?_ ?_
        (rotate_left; ·(simp only [Act.put, pq_z103]; rfl))
        refine pu_z103 23 (some 44) undef mz103_24 rfl rfl (any_of HT_.out (by kernel_rfl)) (fun _ _ _ h => h) (Or.inr ⟨by rfl, rfl⟩) ?_ ?_ ?_
        (rotate_left; ·(simp only [Act.put, pq_z103]; rfl))
        refine pu_z103 24 (some 45) undef mz103_25 rfl rfl (any_of HT_.out (by kernel_rfl)) (fun _ _ _ h => h) (Or.inr ⟨by rfl, rfl⟩) ?_ ?_ ?_
        (rotate_left; ·(simp only [Act.put, pq_z103]; rfl))
        refine pu_z103 25 (some 46) undef mz103_26 rfl rfl (any_of HT_.out (by kernel_rfl)) (fun _ _ _ h => h) (Or.inr ⟨by rfl, rfl⟩) ?_ ?_ ?_
        (rotate_left; ·(simp only [Act.put, pq_z103]; rfl))
        refine pu_z103 26 (some 47) undef mz103_27 rfl rfl (any_of HT_.out (by kernel_rfl)) (fun _ _ _ h => h) (Or.inr ⟨by rfl, rfl⟩) ?_ ?_ ?_
        (rotate_left; ·(simp only [Act.put, pq_z103]; rfl))
        refine pu_z103 27 (some 48) undef mz103_28 rfl rfl (any_of HT_.out (by kernel_rfl)) (fun _ _ _ h => h) (Or.inr ⟨by rfl, rfl⟩) ?_ ?_ ?_
        (rotate_left; ·(simp only [Act.put, pq_z103]; rfl))
        refine pu_z103 28 (some 49) undef mz103_29 rfl rfl (any_of HT_.out (by kernel_rfl)) (fun _ _ _ h => h) (Or.inr ⟨by rfl, rfl⟩) ?_ ?_ ?_
        (rotate_left; ·(simp only [Act.put, pq_z103]; rfl))
        refine pu_z103 29 (some 50) undef mz103_30 rfl rfl (any_of HT_.out (by kernel_rfl)) (fun _ _ _ h => h) (Or.inr ⟨by rfl, rfl⟩) ?_ ?_ ?_
        (rotate_left; ·(simp only [Act.put, pq_z103]; rfl))
        refine pu_z103 30 (some 51) undef mz103_31 rfl rfl (any_of HT_.out (by kernel_rfl)) (fun _ _ _ h => h) (Or.inr ⟨by rfl, rfl⟩) ?_ ?_ ?_
        (rotate_left; ·(simp only [Act.put, pq_z103]; rfl))
        refine pu_z103 31 (some 52) ?_ mz103_32 rfl rfl (any_of HT_.out (by kernel_rfl)) (fun _ _ _ h => h) (Or.inl ⟨by rfl, ?_⟩) ?_ ?_ ?_
        (rotate_left; ·(intro w'; go_simp; with_reducible rfl)); (rotate_left; ·(simp only [Act.put, pq_z103]; rfl))
        refine done_ (done_of HT_.out (by kernel_rfl)) ?_
        try go_wp2
        go_ret
        exact ⟨by first | rfl | (simp [*, errW_none, errW_some] <;> rfl), by repeat (first | (with_reducible first | exact HB.out | apply below_alloc | apply pw_below_drewN | apply below_drew1 | refine below_set ?_ GE114.out | refine below_set ?_ GE116.out) | exact HB.out)⟩
      ·replace c10 := Bool.eq_false_iff.mpr c10
       subst c10
       have H1 : (some false) = some r := by rw [if_neg (show ¬ (false = true) by decide)] at H; exact H
       clear H
       have H := H1
       clear H1
       obtain rfl := Option.some.inj H
       have hcz49_0 : wr.cell? ⟨gb114, 0, none⟩ = some (.slice A0_0 l0_0.length c0_0) := (blk_cell BK114.out 0).trans rfl
       have hcz49_1 : wr.cell? ⟨gb114, 1, none⟩ = some (.slice A0_1 l0_1.length c0_1) := (blk_cell BK114.out 1).trans rfl
       have hfz49_0 := blk_frozen BK114.out 0
       have hfz49_1 := blk_frozen BK114.out 1
       have p115 : 0 ≤ (x3_1 : Int) := of_decide_eq_true (by assumption)
       have q115 : x3_1 < (l0_1.length : Int) := of_decide_eq_true (by assumption)
       obtain ⟨ad115, A115_2, c115_2, e115, hx115_0, hx115_1, hx115_2, hl115_2, hi115_2⟩ := at_T84 HR0_1.out x3_1 p115 q115
       cases e115
       replace hx115_0 := (HB.out.cell (World.block_lt_of_cell? w _ hx115_0)).trans hx115_0
       replace hx115_1 := (HB.out.cell (World.block_lt_of_cell? w _ hx115_1)).trans hx115_1
       replace hx115_2 := (HB.out.cell (World.block_lt_of_cell? w _ hx115_2)).trans hx115_2
       have HR115_2 := Aside0.mk hi115_2
       have HC115_2 := Aside0.mk hl115_2
       clear hi115_2 hl115_2
       replace p115 := eq_true p115
       replace q115 := eq_true q115
       try go_wp2_with (first | ((with_reducible refine gate_dst (N := 4) rfl ?_); refine box_event ?hg (N := 4) ?hd (cs := #[.int .i64 0, .int .i64 0, .slice none 0 0]) (t := 84) ?hr ?_; (case hd => rfl); (case hg => rfl); (case hr => first | (go_simp; done) | (go_simp; rfl)); intro gb116 hg w50 hbox hb; have n0_ := Aside0.mk (blk_below (g := gb114) (o := .cells #[.slice A0_0 l0_0.length c0_0, .slice (some ad115) l0_1.length c0_1] 31 (0, 0)) (by (with_reducible repeat first | apply blk_drewN | apply blk_drew | apply blk_alloc); exact BK114.out) hb); have n1_ := Aside0.mk (below_step (by repeat (first | (with_reducible first | exact HB.out | apply below_alloc | apply pw_below_drewN | apply below_drew1 | refine below_set ?_ GE114.out) | exact HB.out)) hb); have n2_ := Aside0.mk (hbox); have n3_ := Aside0.mk ((by rw [hg]; exact (below_size (by repeat (first | (with_reducible first | exact HB.out | apply below_alloc | apply pw_below_drewN | apply below_drew1 | refine below_set ?_ GE114.out) | exact HB.out))) : w.heap.size ≤ gb116)); have n4_ := Aside0.mk ((by rw [hg]; exact (below_size (by repeat (first | (with_reducible first | exact HB.out | apply below_alloc | apply pw_below_drewN | apply below_drew1 | refine below_set ?_ GE114.out) | exact HB.out))) : w.heap.size ≤ gb116)); have n5_ := Aside0.mk ((by rw [hg]; exact Nat.ne_of_lt (blk_lt (g := gb114) (o := .cells #[.slice A0_0 l0_0.length c0_0, .slice (some ad115) l0_1.length c0_1] 31 (0, 0)) (by (with_reducible repeat first | apply blk_drewN | apply blk_drew | apply blk_alloc); exact BK114.out)) : gb114 ≠ gb116)); have n6_ := Aside0.mk ((by rw [hg]; exact Nat.ne_of_gt (blk_lt (g := gb114) (o := .cells #[.slice A0_0 l0_0.length c0_0, .slice (some ad115) l0_1.length c0_1] 31 (0, 0)) (by (with_reducible repeat first | apply blk_drewN | apply blk_drew | apply blk_alloc); exact BK114.out)) : gb116 ≠ gb114)); clear BK114; clear HB; have BK114 := n0_; have HB := n1_; have BK116 := n2_; have GW116 := n3_; have GE116 := n4_; have NB114_116 := n5_; have NB116_114 := n6_; clear n0_ n1_ n2_ n3_ n4_ n5_ n6_; clear hb hbox hg; have hnb51 := NB116_114.out; have hnc51 := NB114_116.out; have hcz52_0 : w50.cell? ⟨gb116, 0, none⟩ = some (.int .i64 0) := (blk_cell BK116.out 0).trans rfl; have hcz52_1 : w50.cell? ⟨gb116, 1, none⟩ = some (.int .i64 0) := (blk_cell BK116.out 1).trans rfl; have hcz52_2 : w50.cell? ⟨gb116, 2, none⟩ = some (.slice none 0 0) := (blk_cell BK116.out 2).trans rfl; have hfz52_0 := blk_frozen BK116.out 0; have hfz52_1 := blk_frozen BK116.out 1; have hfz52_2 := blk_frozen BK116.out 2))
       have n0_ : Aside0 ((((w50.setCell ⟨gb116, 0, none⟩ (.int .i64 ((rd_T84 l0_1 x3_1).f0))).setCell ⟨gb116, 1, none⟩ (.int .i64 ((rd_T84 l0_1 x3_1).f1))).setCell ⟨gb116, 2, none⟩ (.slice A115_2 ((rd_T84 l0_1 x3_1).f2).length c115_2)).heap[gb114]? = some (.cells #[.slice A0_0 l0_0.length c0_0, .slice (some ad115) l0_1.length c0_1] 31 (0, 0))) := ⟨by (with_reducible repeat first | apply blk_drewN | apply blk_drew | apply blk_alloc); refine blk_far ?_ NB114_116.out _; (with_reducible repeat first | apply blk_drewN | apply blk_drew | apply blk_alloc); refine blk_far ?_ NB114_116.out _; (with_reducible repeat first | apply blk_drewN | apply blk_drew | apply blk_alloc); refine blk_far ?_ NB114_116.out _; (with_reducible repeat first | apply blk_drewN | apply blk_drew | apply blk_alloc); exact BK114.out⟩
       have n1_ : Aside0 ((((w50.setCell ⟨gb116, 0, none⟩ (.int .i64 ((rd_T84 l0_1 x3_1).f0))).setCell ⟨gb116, 1, none⟩ (.int .i64 ((rd_T84 l0_1 x3_1).f1))).setCell ⟨gb116, 2, none⟩ (.slice A115_2 ((rd_T84 l0_1 x3_1).f2).length c115_2)).heap[gb116]? = some (.cells #[.int .i64 ((rd_T84 l0_1 x3_1).f0), .int .i64 ((rd_T84 l0_1 x3_1).f1), .slice A115_2 ((rd_T84 l0_1 x3_1).f2).length c115_2] 84 (0, 0))) := ⟨by (with_reducible repeat first | apply blk_drewN | apply blk_drew | apply blk_alloc); refine blk_put (cs := #[.int .i64 ((rd_T84 l0_1 x3_1).f0), .int .i64 ((rd_T84 l0_1 x3_1).f1), .slice none 0 0]) ?_ 2 _ rfl; (with_reducible repeat first | apply blk_drewN | apply blk_drew | apply blk_alloc); refine blk_put (cs := #[.int .i64 ((rd_T84 l0_1 x3_1).f0), .int .i64 0, .slice none 0 0]) ?_ 1 _ rfl; (with_reducible repeat first | apply blk_drewN | apply blk_drew | apply blk_alloc); refine blk_put (cs := #[.int .i64 0, .int .i64 0, .slice none 0 0]) ?_ 0 _ rfl; (with_reducible repeat first | apply blk_drewN | apply blk_drew | apply blk_alloc); exact BK116.out⟩
       have n2_ : Aside0 (Below w.heap.size w (((w50.setCell ⟨gb116, 0, none⟩ (.int .i64 ((rd_T84 l0_1 x3_1).f0))).setCell ⟨gb116, 1, none⟩ (.int .i64 ((rd_T84 l0_1 x3_1).f1))).setCell ⟨gb116, 2, none⟩ (.slice A115_2 ((rd_T84 l0_1 x3_1).f2).length c115_2))) := ⟨by repeat (first | (with_reducible first | exact HB.out | apply below_alloc | apply pw_below_drewN | apply below_drew1 | refine below_set ?_ GE114.out | refine below_set ?_ GE116.out) | exact HB.out)⟩
       (try clear BK114)
       (try clear BK116)
       (try clear HB)
       generalize (((w50.setCell ⟨gb116, 0, none⟩ (.int .i64 ((rd_T84 l0_1 x3_1).f0))).setCell ⟨gb116, 1, none⟩ (.int .i64 ((rd_T84 l0_1 x3_1).f1))).setCell ⟨gb116, 2, none⟩ (.slice A115_2 ((rd_T84 l0_1 x3_1).f2).length c115_2)) = w53 at n0_ n1_ n2_ ⊢
       have BK114 := n0_
       have BK116 := n1_
       have HB := n2_
       clear n0_ n1_ n2_
       have n0_ := Aside0.mk (blk_drew BK114.out)
       have n1_ := Aside0.mk (blk_drew BK116.out)
       have n2_ := Aside0.mk (below_drew1 HB.out)
       clear BK114
       clear BK116
       clear HB
       have BK114 := n0_
       have BK116 := n1_
       have HB := n2_
       clear n0_ n1_ n2_
       refine start_ (n := 32) (S := fun w' => w'.cell? ⟨gb116, 0, none⟩ = some (.int .i64 ((rd_T84 l0_1 x3_1).f0)) ∧ w'.cell? ⟨gb116, 1, none⟩ = some (.int .i64 ((rd_T84 l0_1 x3_1).f1)) ∧ w'.cell? ⟨gb116, 2, none⟩ = some (.slice A115_2 ((rd_T84 l0_1 x3_1).f2).length c115_2)) (ds := []) mz103_0 (by kernel_rfl) rfl rfl ⟨(blk_cell BK116.out 0).trans rfl, (blk_cell BK116.out 1).trans rfl, (blk_cell BK116.out 2).trans rfl⟩ (fun hHeld => ?_); refine with_tabW spec_l06Buckets.tab7 spec_l06Buckets.bits7 (fun HT_ HW_ => ?_)
       generalize w53.drew = w54 at BK114 BK116 HB hHeld ⊢
       refine pu_z103 0 (some 21) ?_ mz103_1 rfl rfl (any_of HT_.out (by kernel_rfl)) (fun _ _ _ h => h) (Or.inl ⟨by rfl, ?_⟩) ?_ ?_ ?_
       (rotate_left; ·(intro w'; go_simp; with_reducible rfl)); (rotate_left; ·(simp only [Act.put, pq_z103]; rfl))
       refine take_ (i := 1) (N := some 22) (v := ?_) (a' := ?_) mz103_2 rfl rfl (take_ofW HT_.out HW_.out (by kernel_rfl)) (fun _ _ _ h => h) (Or.inl ⟨by rfl, ?_⟩) hHeld ?_ ?_
       (rotate_left; ·(rintro w' ⟨s0, s1, s2⟩; go_simp; with_reducible rfl)); (rotate_left; ·(simp only [Act.put, pq_z103]; rfl))
       refine one_ (i := 2) (N := some 23) mz103_3 rfl rfl (one_of HT_.out (by kernel_rfl)) (by decide) (fun K hK => ?_)
       refine goes_ Try.func72 (by kernel_rfl) rfl #[.int .i64 ((rd_T84 l0_1 x3_1).f0), .int .i64 (-12), .int .i64 (-1)] (by rfl) rfl rfl (by (try simp only [List.map_toArray, List.map_cons, List.map_nil]); first | done | rfl | (simp only [List.length_drop, List.length_take]; rfl)) ?_
       with_reducible refine (spec_l00In.calls ((rd_T84 l0_1 x3_1).f0) (-12) (-1) false _ A9.out).mono ?_
       rintro e w' ⟨rfl, ⟨nd, rfl⟩⟩
       refine ⟨_, rfl, ?_⟩
       refine hK.out _ _ ⟨(blk_cell BK116.out 0).trans rfl, (blk_cell BK116.out 1).trans rfl, (blk_cell BK116.out 2).trans rfl⟩ (fun hHeld => ?_)
       clear hK K
       refine norm_ (a' := ?_) ?_ ?_
       (rotate_left; ·(show Act.put _ (some 23) _ = _; simp only [Act.put, pq_z103]; rfl))
       refine pu_z103 3 (some 24) ?_ mz103_4 rfl rfl (any_of HT_.out (by kernel_rfl)) (fun _ _ _ h => h) (Or.inl ⟨by rfl, ?_⟩) ?_ ?_ ?_
       (rotate_left; ·(intro w'; go_simp; with_reducible rfl)); (rotate_left; ·(simp only [Act.put, pq_z103]; rfl))
       refine pu_z103 4 (some 25) ?_ mz103_5 rfl rfl (any_of HT_.out (by kernel_rfl)) (fun _ _ _ h => h) (Or.inl ⟨by rfl, ?_⟩) ?_ ?_ ?_
       (rotate_left; ·(intro w'; go_simp; with_reducible rfl)); (rotate_left; ·(simp only [Act.put, pq_z103]; rfl))
       refine pu_z103 5 (some 26) undef mz103_6 rfl rfl (any_of HT_.out (by kernel_rfl)) (fun _ _ _ h => h) (Or.inr ⟨by rfl, rfl⟩) ?_ ?_ ?_
       (rotate_left; ·(simp only [Act.put, pq_z103]; rfl))
       refine pu_z103 6 (some 27) undef mz103_7 rfl rfl (any_of HT_.out (by kernel_rfl)) (fun _ _ _ h => h) (Or.inr ⟨by rfl, rfl⟩) ?_ ?_ ?_
       (rotate_left; ·(simp only [Act.put, pq_z103]; rfl))
       refine pu_z103 7 (some 28) undef mz103_8 rfl rfl (any_of HT_.out (by kernel_rfl)) (fun _ _ _ h => h) (Or.inr ⟨by rfl, rfl⟩) ?_ ?_ ?_
       (rotate_left; ·(simp only [Act.put, pq_z103]; rfl))
       refine pu_z103 8 (some 29) undef mz103_9 rfl rfl (any_of HT_.out (by kernel_rfl)) (fun _ _ _ h => h) (Or.inr ⟨by rfl, rfl⟩) ?_ ?_ ?_
       (rotate_left; ·(simp only [Act.put, pq_z103]; rfl))
       refine pu_z103 9 (some 30) ?_ mz103_10 rfl rfl (any_of HT_.out (by kernel_rfl)) (fun _ _ _ h => h) (Or.inl ⟨by rfl, ?_⟩) ?_ ?_ ?_
       (rotate_left; ·(intro w'; go_simp; with_reducible rfl)); (rotate_left; ·(simp only [Act.put, pq_z103]; rfl))
       refine pu_z103 10 (some 31) ?_ mz103_11 rfl rfl (any_of HT_.out (by kernel_rfl)) (fun _ _ _ h => h) (Or.inl ⟨by rfl, ?_⟩) ?_ ?_ ?_
       (rotate_left; ·(intro w'; go_simp; with_reducible rfl)); (rotate_left; ·(simp only [Act.put, pq_z103]; rfl))
       refine pu_z103 11 (some 32) undef mz103_12 rfl rfl (any_of HT_.out (by kernel_rfl)) (fun _ _ _ h => h) (Or.inr ⟨by rfl, rfl⟩) ?_ ?_ ?_
       (rotate_left; ·(simp only [Act.put, pq_z103]; rfl))
       refine pu_z103 12 (some 33) undef mz103_13 rfl rfl (any_of HT_.out (by kernel_rfl)) (fun _ _ _ h => h) (Or.inr ⟨by rfl, rfl⟩) ?_ ?_ ?_
       (rotate_left; ·(simp only [Act.put, pq_z103]; rfl))
       refine pu_z103 13 (some 34) undef mz103_14 rfl rfl (any_of HT_.out (by kernel_rfl)) (fun _ _ _ h => h) (Or.inr ⟨by rfl, rfl⟩) ?_ ?_ ?_
       (rotate_left; ·(simp only [Act.put, pq_z103]; rfl))
       refine pu_z103 14 (some 35) undef mz103_15 rfl rfl (any_of HT_.out (by kernel_rfl)) (fun _ _ _ h => h) (Or.inr ⟨by rfl, rfl⟩) ?_ ?_ ?_
       (rotate_left; ·(simp only [Act.put, pq_z103]; rfl))
       refine pu_z103 15 (some 36) ?_ mz103_16 rfl rfl (any_of HT_.out (by kernel_rfl)) (fun _ _ _ h => h) (Or.inl ⟨by rfl, ?_⟩) ?_ ?_ ?_
       (rotate_left; ·(intro w'; go_simp; with_reducible rfl)); (rotate_left; ·(simp only [Act.put, pq_z103]; rfl))
       refine pu_z103 16 (some 37) ?_ mz103_17 rfl rfl (any_of HT_.out (by kernel_rfl)) (fun _ _ _ h => h) (Or.inl ⟨by rfl, ?_⟩) ?_ ?_ ?_
       (rotate_left; ·(intro w'; go_simp; with_reducible rfl)); (rotate_left; ·(simp only [Act.put, pq_z103]; rfl))
       refine pu_z103 17 (some 38) undef mz103_18 rfl rfl (any_of HT_.out (by kernel_rfl)) (fun _ _ _ h => h) (Or.inr ⟨by rfl, rfl⟩) ?_ ?_ ?_
       (rotate_left; ·(simp only [Act.put, pq_z103]; rfl))
       refine pu_z103 18 (some 39) undef mz103_19 rfl rfl (any_of HT_.out (by kernel_rfl)) (fun _ _ _ h => h) (Or.inr ⟨by rfl, rfl⟩) ?_ ?_ ?_
       (rotate_left; ·(simp only [Act.put, pq_z103]; rfl))
       refine pu_z103 19 (some 40) undef mz103_20 rfl rfl (any_of HT_.out (by kernel_rfl)) (fun _ _ _ h => h) (Or.inr ⟨by rfl, rfl⟩) ?_ ?_ ?_
       (rotate_left; ·(simp only [Act.put, pq_z103]; rfl))
       refine pu_z103 20 (some 41) undef mz103_21 rfl rfl (any_of HT_.out (by kernel_rfl)) (fun _ _ _ h => h) (Or.inr ⟨by rfl, rfl⟩) ?_ ?_ ?_
       (rotate_left; ·(simp only [Act.put, pq_z103]; rfl))
       refine pu_z103 21 (some 42) undef mz103_22 rfl rfl (any_of HT_.out (by kernel_rfl)) (fun _ _ _ h => h) (Or.inr ⟨by rfl, rfl⟩) ?_ ?_ ?_
       (rotate_left; ·(simp only [Act.put, pq_z103]; rfl))
       refine pu_z103 22 (some 43) undef mz103_23 rfl rfl (any_of HT_.out (by kernel_rfl)) (fun _ _ _ h => h) (Or.inr ⟨by rfl, rfl⟩) ?_ ?_ ?_
       (rotate_left; ·(simp only [Act.put, pq_z103]; rfl))
       refine pu_z103 23 (some 44) undef mz103_24 rfl rfl (any_of HT_.out (by kernel_rfl)) (fun _ _ _ h => h) (Or.inr ⟨by rfl, rfl⟩) ?_ ?_ ?_
       (rotate_left; ·(simp only [Act.put, pq_z103]; rfl))
       refine pu_z103 24 (some 45) undef mz103_25 rfl rfl (any_of HT_.out (by kernel_rfl)) (fun _ _ _ h => h) (Or.inr ⟨by rfl, rfl⟩) ?_ ?_ ?_
       (rotate_left; ·(simp only [Act.put, pq_z103]; rfl))
       refine pu_z103 25 (some 46) undef mz103_26 rfl rfl (any_of HT_.out (by kernel_rfl)) (fun _ _ _ h => h) (Or.inr ⟨by rfl, rfl⟩) ?_ ?_ ?_
       (rotate_left; ·(simp only [Act.put, pq_z103]; rfl))
       refine pu_z103 26 (some 47) undef mz103_27 rfl rfl (any_of HT_.out (by kernel_rfl)) (fun _ _ _ h => h) (Or.inr ⟨by rfl, rfl⟩) ?_ ?_ ?_
       (rotate_left; ·(simp only [Act.put, pq_z103]; rfl))
       refine pu_z103 27 (some 48) undef mz103_28 rfl rfl (any_of HT_.out (by kernel_rfl)) (fun _ _ _ h => h) (Or.inr ⟨by rfl, rfl⟩) ?_ ?_ ?_
       (rotate_left; ·(simp only [Act.put, pq_z103]; rfl))
       refine pu_z103 28 (some 49) undef mz103_29 rfl rfl (any_of HT_.out (by kernel_rfl)) (fun _ _ _ h => h) (Or.inr ⟨by rfl, rfl⟩) ?_ ?_ ?_
       (rotate_left; ·(simp only [Act.put, pq_z103]; rfl))
       refine pu_z103 29 (some 50) undef mz103_30 rfl rfl (any_of HT_.out (by kernel_rfl)) (fun _ _ _ h => h) (Or.inr ⟨by rfl, rfl⟩) ?_ ?_ ?_
       (rotate_left; ·(simp only [Act.put, pq_z103]; rfl))
       refine pu_z103 30 (some 51) undef mz103_31 rfl rfl (any_of HT_.out (by kernel_rfl)) (fun _ _ _ h => h) (Or.inr ⟨by rfl, rfl⟩) ?_ ?_ ?_
       (rotate_left; ·(simp only [Act.put, pq_z103]; rfl))
       refine pu_z103 31 (some 52) ?_ mz103_32 rfl rfl (any_of HT_.out (by kernel_rfl)) (fun _ _ _ h => h) (Or.inl ⟨by rfl, ?_⟩) ?_ ?_ ?_
       (rotate_left; ·(intro w'; go_simp; with_reducible rfl)); (rotate_left; ·(simp only [Act.put, pq_z103]; rfl))
       refine done_ (done_of HT_.out (by kernel_rfl)) ?_
       try go_wp2
       go_ret
       exact ⟨by first | rfl | (simp [*, errW_none, errW_some] <;> rfl), by repeat (first | (with_reducible first | exact HB.out | apply below_alloc | apply pw_below_drewN | apply below_drew1 | refine below_set ?_ GE114.out | refine below_set ?_ GE116.out) | exact HB.out)⟩
     ·rw [if_neg c8] at H
      exact absurd H (by simp)
    ·rw [if_neg c7] at H
     have c7b0 : decide (x3_1 < (l0_1.length : Int)) = false := decide_eq_false c7
     clear c7
     obtain rfl := Option.some.inj H
     have hcz55_0 : wr.cell? ⟨gb114, 0, none⟩ = some (.slice A0_0 l0_0.length c0_0) := (blk_cell BK114.out 0).trans rfl
     have hcz55_1 : wr.cell? ⟨gb114, 1, none⟩ = some (.slice A0_1 l0_1.length c0_1) := (blk_cell BK114.out 1).trans rfl
     have hfz55_0 := blk_frozen BK114.out 0
     have hfz55_1 := blk_frozen BK114.out 1
     go_wp2
     go_ret
     exact ⟨by first | rfl | (simp [*, errW_none, errW_some] <;> rfl), by repeat (first | (with_reducible first | exact HB.out | apply below_alloc | apply pw_below_drewN | apply below_drew1 | refine below_set ?_ GE114.out) | exact HB.out)⟩

end Go.Proofs.Ytbofikjgileanaa.Q
