/- Walks and plain laws of one claim, several texts in one. -/
import Derived.Test.YtkadeelplnkpgaaGreatQ0
import Derived.Test.YtkadeelplnkpgaaGreatMFnExactPlacea
import Derived.Test.YtkadeelplnkpgaaGreatMFnExactPlaceb
namespace Go.Proofs.YtkadeelplnkpgaaGreat.Q
open Go.RowKit Go.Proofs.YtkadeelplnkpgaaGreatW.PrintWords Go.Proofs.YtkadeelplnkpgaaGreatW.PrintLast Go.Proofs.YtkadeelplnkpgaaGreatW.PrintMore
attribute [local go_sem] max2_int min2_int max_two min_two max_three min_three max_four min_four   -- for this text's walks alone
set_option linter.unusedVariables false
set_option linter.unusedSimpArgs false
/-! ### spec_l08Domain: function 77 -/
def spec_l08Domain.f (k : Nat) (l0_0 : List (S72)) (l0_1 : List (S68)) (a1 : Int) (a2 : Int) : Option (Int) := if a1 = 0 then (some a2) else ((spec_l06Above.f k l0_0 l0_1 a2 a1).bind fun t243 => (some t243))
set_option maxHeartbeats 8000000 in
set_option maxRecDepth 100000 in
theorem spec_l08Domain.calls (k : Nat) (A0_0 : Option Addr) (c0_0 : Nat) (l0_0 : List (S72)) (A0_1 : Option Addr) (c0_1 : Nat) (l0_1 : List (S68)) (a1 : Int) (a2 : Int) (r : Int) (w : World) (hr0_0 : Kd.C k72 w A0_0 l0_0.length l0_0) (hc0_0 : l0_0.length ≤ c0_0) (hr0_1 : Kd.C k68 w A0_1 l0_1.length l0_1) (hc0_1 : l0_1.length ≤ c0_1) (h : spec_l08Domain.f k l0_0 l0_1 a1 a2 = some r) :
  Calls Tryz.prog 77 #[.agg #[.slice A0_0 l0_0.length c0_0, .slice A0_1 l0_1.length c0_1], .int .i64 a1, .int .i64 a2] w fun e w' => e = .returned (.int .i64 r) ∧ Below w.heap.size w w' := by
 have hu35 := Tryz.underlying35
 have HR0_0 := Aside0.mk hr0_0
 have HC0_0 := Aside0.mk hc0_0
 clear hr0_0 hc0_0
 have HR0_1 := Aside0.mk hr0_1
 have HC0_1 := Aside0.mk hc0_1
 clear hr0_1 hc0_1
 have HB := Aside0.mk (Below.refl w.heap.size w)
 have H : (if a1 = 0 then (some a2) else ((spec_l06Above.f k l0_0 l0_1 a2 a1).bind fun t243 => (some t243))) = some r := h
 clear h
 by_cases c4 : a1 = 0
 ·rw [if_pos c4] at H
  have c4b0 : (a1 == 0) = true := beq_iff_eq.mpr c4
  have c4b1 : (a1 != 0) = false := bne_eq_false_iff_eq.mpr c4
  clear c4
  obtain rfl := Option.some.inj H
  go_enter Tryz.func77, Tryz.ntmps77
  go_wp2_with (first | ((with_reducible refine gate_dst (N := 3) rfl ?_); refine box_event ?hg (N := 3) ?hd (cs := #[.slice A0_0 l0_0.length c0_0, .slice A0_1 l0_1.length c0_1]) (t := 35) ?hr ?_; (case hd => rfl); (case hg => rfl); (case hr => first | (go_simp; done) | (go_simp; rfl)); intro gb242 hg w5 hbox hb; have n0_ := Aside0.mk (below_step (by repeat first | exact HB.out | apply pw_below_drewN) hb); have n1_ := Aside0.mk (hbox); clear HB; have HB := n0_; have BK242 := n1_; clear n0_ n1_; clear hb hbox hg))
  go_ret
  exact ⟨by first | rfl | (simp [*, errW_none, errW_some] <;> rfl), by repeat first | exact HB.out | apply pw_below_drewN⟩
 ·rw [if_neg c4] at H
  have c4b0 : (a1 == 0) = false := beq_eq_false_iff_ne.mpr c4
  have c4b1 : (a1 != 0) = true := bne_iff_ne.mpr c4
  replace H := Option.bind_eq_some_iff.mp H
  obtain ⟨t243, A60, H⟩ := H
  set_option simprocs false in try dsimp only at H
  have A6 := Aside0.mk A60
  clear A60
  obtain rfl := Option.some.inj H
  go_enter Tryz.func77, Tryz.ntmps77
  go_wp2_with (first | ((with_reducible refine gate_dst (N := 3) rfl ?_); refine box_event ?hg (N := 3) ?hd (cs := #[.slice A0_0 l0_0.length c0_0, .slice A0_1 l0_1.length c0_1]) (t := 35) ?hr ?_; (case hd => rfl); (case hg => rfl); (case hr => first | (go_simp; done) | (go_simp; rfl)); intro gb242 hg w7 hbox hb; have n0_ := Aside0.mk (below_step (by repeat first | exact HB.out | apply pw_below_drewN) hb); have n1_ := Aside0.mk (hbox); clear HB; have HB := n0_; have BK242 := n1_; clear n0_ n1_; clear hb hbox hg; have hcz8_0 := (blk_cell BK242.out 0).trans rfl; have hcz8_1 := (blk_cell BK242.out 1).trans rfl) | ((with_reducible refine gate_callee (f := 86) rfl ?_); refine gl (some 13) Tryz.func86 #[.agg #[.slice A0_0 l0_0.length c0_0, .slice A0_1 l0_1.length c0_1], .int .i64 a2, .int .i64 a1] ?_; (with_reducible refine (spec_l06Above.calls k _ _ l0_0 _ _ l0_1 a2 a1 t243 _ ?side1 ?side2 ?side3 ?side4 A6.out).mono ?_); (case side1 => exact (Kd.C_below HR0_0.out HB.out)); (case side2 => exact HC0_0.out); (case side3 => exact (Kd.C_below HR0_1.out HB.out)); (case side4 => exact HC0_1.out); rintro e w9 ⟨rfl, hb⟩; refine ⟨_, rfl, ?_⟩; have n0_ := Aside0.mk (blk_below (by exact BK242.out) hb); have n1_ := Aside0.mk (below_step (by repeat first | exact HB.out | apply pw_below_drewN) hb); clear BK242; clear HB; have BK242 := n0_; have HB := n1_; clear n0_ n1_; (try clear hb); (try clear hb2); (try clear hk); (try clear hi)))
  go_ret
  exact ⟨by first | rfl | (simp [*, errW_none, errW_some] <;> rfl), by repeat first | exact HB.out | apply pw_below_drewN⟩

/-! ### spec_l08Free: function 64 -/
def spec_l08Free.l0 : Nat → Int → List Int → Int → Int → Int → List (S72) → List (S68) → Option (Bool)
  | 0, _, _, _, _, _, _, _ => none
  | k + 1, x1, x2, x3, x4, x11, x245000, x245001 => if x11 < (x2.length : Int) then (if x11 = x3 then (spec_l08Free.l0 k x1 x2 x3 x4 (wrap64 (x11 + 1)) x245000 x245001) else (if 0 ≤ x11 then (if (rd x2 x11) ≥ 0 then (if (rd x2 x11) = x4 then (some false) else ((spec_l08Domain.f k x245000 x245001 x1 (rd x2 x11)).bind fun t248 => ((spec_l08Domain.f k x245000 x245001 x1 x4).bind fun t249 => (if t248 = t249 then (some false) else (spec_l08Free.l0 k x1 x2 x3 x4 (wrap64 (x11 + 1)) x245000 x245001))))) else (spec_l08Free.l0 k x1 x2 x3 x4 (wrap64 (x11 + 1)) x245000 x245001)) else (none))) else (some true)
def spec_l08Free.f (k : Nat) (l0_0 : List (S72)) (l0_1 : List (S68)) (a1 : Int) (l2 : List Int) (a3 : Int) (a4 : Int) : Option (Bool) := spec_l08Free.l0 k a1 l2 a3 a4 0 l0_0 l0_1
def spec_l08Free.T4 : Bool × List (List Nat × List Nat) := (true, [([], []), ([], []), ([0, 1], [0, 1]), ([2], [2]), ([3], [3]), ([3], [3]), ([4, 5, 3], [3, 4, 5]), ([6, 3], [3, 6]), ([7, 3], [3, 7]), ([3, 8], [3, 8]), ([9, 3], [9]), ([10], [10]), ([10], [10]), ([11, 12, 10], [10, 11, 12]), ([13, 10], [10, 13]), ([10], [10]), ([14, 15, 10], [10, 14, 15]), ([16, 10, 10], [10, 16]), ([17], [17]), ([17], [17]), ([17], [17]), ([17], [17]), ([20, 21, 17], [17, 20, 21]), ([22, 17], [17, 22]), ([18, 19, 23, 17, 17], [17, 18, 19, 23]), ([17], [17]), ([17], [17]), ([17], [17]), ([25, 26, 27, 24, 17], [17, 25, 26, 27]), ([24, 28, 17], [17, 24, 28]), ([17, 29, 10], [10, 17, 29]), ([10, 30], [10, 30])])
def spec_l08Free.B4 : List Nat := [0, 0, 3, 7, 15, 15, 63, 127, 255, 511, 1023, 2047, 2047, 8191, 16383, 2047, 65535, 131071, 262143, 262143, 262143, 262143, 3407871, 7602175, 16777215, 262143, 262143, 262143, 268435455, 536870911, 1073741823, 2147483647]
theorem spec_l08Free.tab4 : rtab .any (opsOf Tryz.f64 4) = spec_l08Free.T4 := by kernel_rfl
theorem spec_l08Free.bits4 : waitsOk spec_l08Free.T4.2 spec_l08Free.B4 = true := by kernel_rfl
def az_z64 (n m : Nat) : Array Bool := (List.replicate n true ++ List.replicate m false).toArray
def mz64_0 : Array Bool := az_z64 0 32
def mz64_1 : Array Bool := az_z64 1 31
def mz64_2 : Array Bool := az_z64 2 30
def mz64_3 : Array Bool := az_z64 3 29
def mz64_4 : Array Bool := az_z64 4 28
def mz64_5 : Array Bool := az_z64 5 27
def mz64_6 : Array Bool := az_z64 6 26
def mz64_7 : Array Bool := az_z64 7 25
def mz64_8 : Array Bool := az_z64 8 24
def mz64_9 : Array Bool := az_z64 9 23
def mz64_10 : Array Bool := az_z64 10 22
def mz64_11 : Array Bool := az_z64 11 21
def mz64_12 : Array Bool := az_z64 12 20
def mz64_13 : Array Bool := az_z64 13 19
def mz64_14 : Array Bool := az_z64 14 18
def mz64_15 : Array Bool := az_z64 15 17
def mz64_16 : Array Bool := az_z64 16 16
def mz64_17 : Array Bool := az_z64 17 15
def mz64_18 : Array Bool := az_z64 18 14
def mz64_19 : Array Bool := az_z64 19 13
def mz64_20 : Array Bool := az_z64 20 12
def mz64_21 : Array Bool := az_z64 21 11
def mz64_22 : Array Bool := az_z64 22 10
def mz64_23 : Array Bool := az_z64 23 9
def mz64_24 : Array Bool := az_z64 24 8
def mz64_25 : Array Bool := az_z64 25 7
def mz64_26 : Array Bool := az_z64 26 6
def mz64_27 : Array Bool := az_z64 27 5
def mz64_28 : Array Bool := az_z64 28 4
def mz64_29 : Array Bool := az_z64 29 3
def mz64_30 : Array Bool := az_z64 30 2
def mz64_31 : Array Bool := az_z64 31 1
def mz64_32 : Array Bool := az_z64 32 0
def mz64_33 : Array Bool := #[true, true, true, true, true, true, true, true, true, true, true, true, true, true, false, true, false, false, false, false, false, false, false, false, false, false, false, false, false, false, false, false]
def mz64_34 : Array Bool := #[true, true, true, true, true, true, true, true, true, true, true, true, true, true, true, true, true, true, false, true, false, false, false, false, false, false, false, false, false, false, false, false]
def mz64_35 : Array Bool := #[true, true, true, true, true, true, true, true, true, true, true, true, true, true, true, true, true, true, false, true, true, false, false, false, false, false, false, false, false, false, false, false]
def mz64_36 : Array Bool := #[true, true, true, true, true, true, true, true, true, true, true, true, true, true, true, true, true, true, false, true, true, true, false, false, false, false, false, false, false, false, false, false]
def mz64_37 : Array Bool := #[true, true, true, true, true, true, true, true, true, true, true, true, true, true, true, true, true, true, false, true, true, true, true, false, false, false, false, false, false, false, false, false]
def mz64_38 : Array Bool := #[true, true, true, true, true, true, true, true, true, true, true, true, true, true, true, true, true, true, false, true, true, true, true, false, false, false, true, false, false, false, false, false]
def mz64_39 : Array Bool := #[true, true, true, true, true, true, true, true, true, true, true, true, true, true, true, true, true, true, false, true, true, true, true, false, false, false, true, true, false, false, false, false]
def mz64_40 : Array Bool := #[true, true, true, true, true, true, true, true, true, true, true, true, true, true, true, true, true, true, true, true, true, true, true, false, false, false, true, true, false, false, false, false]
def mz64_41 : Array Bool := #[true, true, true, true, true, true, true, true, true, true, true, true, true, true, true, true, true, true, true, true, true, true, true, true, false, false, true, true, false, false, false, false]
def mz64_42 : Array Bool := #[true, true, true, true, true, true, true, true, true, true, true, true, true, true, true, true, true, true, true, true, true, true, true, true, false, true, true, true, false, false, false, false]
theorem pu_z64 {P : Program} {ops : Array Oper} {Q : Exit → Act → World → Prop} {md : Region.Mode} {S : World → Prop} {ds : List Nat} {oi : Oper} {fuel : Nat} {l : Array Bool} {a : Act} {w : World} (i : Nat) (N : Option Tmp) (v : Value) (l' : Array Bool) (hi : ops[i]? = some oi) (hN : oi.dst = N) (hc : anyB md ops l l' i = true)
    (hQ : ∀ c a w, Q (.panic c) (a.put oi.dst v) w → Q (.panic c) a w) (hy : Yields P ops oi v a) (a' : Act) (ha : a.put N v = a')
    (h : wpAnyLast P md ops Q S ds fuel l' a' w) : wpAnyLast P md ops Q S ds (fuel + 1) l a w := pure_ l' hi hN hc hQ hy ha h
theorem pq_z64 : (∀ (l : List Value) (i : Nat) (v : Value), l.toArray.setIfInBounds i v = (l.set i v).toArray) ∧ (∀ (x v : Value) (xs : List Value), (x :: xs).set 0 v = v :: xs) ∧ (∀ (x v : Value) (xs : List Value) (n : Nat), (x :: xs).set (n + 1) v = x :: xs.set n v) ∧ (∀ n : Int, IntKind.i64.wrap n = Go.RowKit.wrap64 n) ∧ (∀ n : Int, IntKind.i32.wrap n = Go.RowKit.wrap32 n) :=
  ⟨fun l i v => List.setIfInBounds_toArray l i v, fun _ _ _ => rfl, fun _ _ _ _ => rfl, i64_w, i32_w⟩
set_option maxHeartbeats 8000000 in
set_option maxRecDepth 100000 in
theorem spec_l08Free.calls (k : Nat) (A0_0 : Option Addr) (c0_0 : Nat) (l0_0 : List (S72)) (A0_1 : Option Addr) (c0_1 : Nat) (l0_1 : List (S68)) (a1 : Int) (A2 : Option Addr) (c2 : Nat) (l2 : List Int) (a3 : Int) (a4 : Int) (r : Bool) (w : World) (hr0_0 : Kd.C k72 w A0_0 l0_0.length l0_0) (hc0_0 : l0_0.length ≤ c0_0) (hr0_1 : Kd.C k68 w A0_1 l0_1.length l0_1) (hc0_1 : l0_1.length ≤ c0_1) (hr2 : Kd.C (Kd.int .i64) w A2 l2.length l2) (hc2 : l2.length ≤ c2) (h : spec_l08Free.f k l0_0 l0_1 a1 l2 a3 a4 = some r) :
  Calls Tryz.prog 64 #[.agg #[.slice A0_0 l0_0.length c0_0, .slice A0_1 l0_1.length c0_1], .int .i64 a1, .slice A2 l2.length c2, .int .i64 a3, .int .i64 a4] w fun e w' => e = .returned (.bool r) ∧ Below w.heap.size w w' := by
 have hu35 := Tryz.underlying35
 have HR0_0 := Aside0.mk hr0_0
 have HC0_0 := Aside0.mk hc0_0
 clear hr0_0 hc0_0
 have HR0_1 := Aside0.mk hr0_1
 have HC0_1 := Aside0.mk hc0_1
 clear hr0_1 hc0_1
 have HR2 := Aside0.mk hr2
 have HC2 := Aside0.mk hc2
 clear hr2 hc2
 have HB := Aside0.mk (Below.refl w.heap.size w)
 have H : (spec_l08Free.l0 k a1 l2 a3 a4 0 l0_0 l0_1) = some r := h
 clear h
 have H' := Aside0.mk H
 clear H
 go_enter Tryz.func64, Tryz.ntmps64
 go_wp2_with (first | ((with_reducible refine gate_dst (N := 5) rfl ?_); refine box_event ?hg (N := 5) ?hd (cs := #[.slice A0_0 l0_0.length c0_0, .slice A0_1 l0_1.length c0_1]) (t := 35) ?hr ?_; (case hd => rfl); (case hg => rfl); (case hr => first | (go_simp; done) | (go_simp; rfl)); intro gb244 hg w6 hbox hb; have n0_ := Aside0.mk (below_step (by repeat first | exact HB.out | apply pw_below_drewN) hb); have n1_ := Aside0.mk (hbox); clear HB; have HB := n0_; have BK244 := n1_; clear n0_ n1_; clear hb hbox hg))
 go_loopg [11] k (fun kq v11 w' => ∃ (x11_1 : Int), v11 = .int .i64 x11_1 ∧ Aside0 (spec_l08Free.l0 kq a1 l2 a3 a4 x11_1 l0_0 l0_1 = some r) ∧ Aside0 (kq ≤ k) ∧ Aside0 (w'.heap[gb244]? = some (.cells #[(.slice A0_0 l0_0.length c0_0), (.slice A0_1 l0_1.length c0_1)] 35 (0, 0))) ∧ Aside0 (Below w.heap.size w w'))
 case atStart => exact ⟨(0), (by first | rfl | (simp; done) | (simp [*]; done)), H', ⟨Nat.le_refl _⟩, ⟨by exact BK244.out⟩, ⟨by repeat first | exact HB.out | apply pw_below_drewN⟩⟩
 case round =>
  clear H'
  try clear c2
  try clear p2
  try clear c6
  obtain ⟨x11_1, rfl, HA, HK1, BK244, HB⟩ := hrel
  cases gk with
  | zero => exact absurd HA.out (by simp [spec_l08Free.l0])
  | succ k1 =>
   have H := HA.out
   clear HA
   simp only [spec_l08Free.l0] at H
   by_cases c7 : x11_1 < (l2.length : Int)
   ·rw [if_pos c7] at H
    have c7b0 : decide (x11_1 < (l2.length : Int)) = true := decide_eq_true c7
    clear c7
    by_cases c8 : x11_1 = a3
    ·rw [if_pos c8] at H
     have c8b0 : (x11_1 == a3) = true := beq_iff_eq.mpr c8
     have c8b1 : (x11_1 != a3) = false := bne_eq_false_iff_eq.mpr c8
     clear c8
     have H' := Aside0.mk H
     clear H
     try go_wp2
     have n0_ := Aside0.mk (blk_drew BK244.out)
     have n1_ := Aside0.mk (below_drew1 HB.out)
     clear BK244
     clear HB
     have BK244 := n0_
     have HB := n1_
     clear n0_ n1_
     refine start_ (n := 32) (S := fun w' => True) (ds := []) mz64_0 (by kernel_rfl) rfl rfl trivial (fun hHeld => ?_); refine with_tabW spec_l08Free.tab4 spec_l08Free.bits4 (fun HT_ HW_ => ?_)
     generalize wr.drew = w9 at BK244 HB hHeld ⊢
     refine pu 0 (some 18) mz64_1 (any_of HT_.out (by kernel_rfl)) ?_
     refine pu 1 (some 19) mz64_2 (any_of HT_.out (by kernel_rfl)) ?_
     refine pu 2 (some 20) mz64_3 (any_of HT_.out (by kernel_rfl)) ?_
     refine pu 3 (some 21) mz64_4 (any_of HT_.out (by kernel_rfl)) ?_
     refine po 4 (some 22) mz64_5 (any_of HT_.out (by kernel_rfl)) ?_
     refine po 5 (some 23) mz64_6 (any_of HT_.out (by kernel_rfl)) ?_
     refine po 6 (some 24) mz64_7 (any_of HT_.out (by kernel_rfl)) ?_
     refine po 7 (some 25) mz64_8 (any_of HT_.out (by kernel_rfl)) ?_
     refine po 8 (some 26) mz64_9 (any_of HT_.out (by kernel_rfl)) ?_
     refine pu 9 (some 27) mz64_10 (any_of HT_.out (by kernel_rfl)) ?_
     refine pu 10 (some 28) mz64_11 (any_of HT_.out (by kernel_rfl)) ?_
     refine po 11 (some 29) mz64_12 (any_of HT_.out (by kernel_rfl)) ?_
     refine po 12 (some 30) mz64_13 (any_of HT_.out (by kernel_rfl)) ?_
     refine po 13 (some 31) mz64_14 (any_of HT_.out (by kernel_rfl)) ?_
     refine po 14 (some 32) mz64_15 (any_of HT_.out (by kernel_rfl)) ?_
     refine po 15 (some 33) mz64_16 (any_of HT_.out (by kernel_rfl)) ?_
     refine po 16 (some 34) mz64_17 (any_of HT_.out (by kernel_rfl)) ?_
     refine po 17 (some 35) mz64_18 (any_of HT_.out (by kernel_rfl)) ?_
     refine po 18 (some 36) mz64_19 (any_of HT_.out (by kernel_rfl)) ?_
     refine po 19 (some 37) mz64_20 (any_of HT_.out (by kernel_rfl)) ?_
     refine po 20 (some 38) mz64_21 (any_of HT_.out (by kernel_rfl)) ?_
     refine po 21 (some 39) mz64_22 (any_of HT_.out (by kernel_rfl)) ?_
     refine po 22 (some 40) mz64_23 (any_of HT_.out (by kernel_rfl)) ?_
     refine po 23 (some 41) mz64_24 (any_of HT_.out (by kernel_rfl)) ?_
     refine po 24 (some 42) mz64_25 (any_of HT_.out (by kernel_rfl)) ?_
     refine po 25 (some 43) mz64_26 (any_of HT_.out (by kernel_rfl)) ?_
     refine po 26 (some 44) mz64_27 (any_of HT_.out (by kernel_rfl)) ?_
     refine po 27 (some 45) mz64_28 (any_of HT_.out (by kernel_rfl)) ?_
     refine po 28 (some 46) mz64_29 (any_of HT_.out (by kernel_rfl)) ?_
     refine po 29 (some 47) mz64_30 (any_of HT_.out (by kernel_rfl)) ?_
     refine po 30 (some 48) mz64_31 (any_of HT_.out (by kernel_rfl)) ?_
     refine pu 31 (some 49) mz64_32 (any_of HT_.out (by kernel_rfl)) ?_
     refine done_ (done_of HT_.out (by kernel_rfl)) ?_
     try go_wp2
     go_roundg k1
     case measure => have := HK1.out; omega
     case rel => exact ⟨(wrap64 (x11_1 + 1)), (by first | rfl | (simp; done) | (simp [*]; done)), H', ⟨by have := HK1.out; omega⟩, ⟨by exact BK244.out⟩, ⟨by repeat first | exact HB.out | apply pw_below_drewN⟩⟩
    ·rw [if_neg c8] at H
     have c8b0 : (x11_1 == a3) = false := beq_eq_false_iff_ne.mpr c8
     have c8b1 : (x11_1 != a3) = true := bne_iff_ne.mpr c8
     by_cases c10 : 0 ≤ x11_1
     ·rw [if_pos c10] at H
      have c10b0 : decide (0 ≤ x11_1) = true := decide_eq_true c10
      clear c10
      by_cases c11 : (rd l2 x11_1) ≥ 0
      ·rw [if_pos c11] at H
       have c11b0 : decide (0 ≤ (rd l2 x11_1)) = true := decide_eq_true c11
       clear c11
       by_cases c12 : (rd l2 x11_1) = a4
       ·rw [if_pos c12] at H
        have c12b0 : ((rd l2 x11_1) == a4) = true := beq_iff_eq.mpr c12
        have c12b1 : ((rd l2 x11_1) != a4) = false := bne_eq_false_iff_eq.mpr c12
        clear c12
        obtain rfl := Option.some.inj H
        try go_wp2
        have n0_ := Aside0.mk (blk_drew BK244.out)
        have n1_ := Aside0.mk (below_drew1 HB.out)
        clear BK244
        clear HB
        have BK244 := n0_
        have HB := n1_
        clear n0_ n1_
        have p245 : 0 ≤ (x11_1 : Int) := of_decide_eq_true (by assumption)
        have q245 : x11_1 < (l2.length : Int) := of_decide_eq_true (by assumption)
        obtain ⟨ad245, e245, hx245_0⟩ := Kd.at_int HR2.out x11_1 p245 q245
        have hw245_0 := hx245_0
        cases e245
        replace hx245_0 := (HB.out.cell (World.block_lt_of_cell? w _ hx245_0)).trans hx245_0
        replace p245 := eq_true p245
        replace q245 := eq_true q245
        have p246 : 0 ≤ (x11_1 : Int) := of_decide_eq_true (by assumption)
        have q246 : x11_1 < (l2.length : Int) := of_decide_eq_true (by assumption)
        obtain ⟨ad246, e246, hx246_0⟩ := Kd.at_int HR2.out x11_1 p246 q246
        have hw246_0 := hx246_0
        obtain rfl : ad245 = ad246 := (by injection e246)
        replace hx246_0 := (HB.out.cell (World.block_lt_of_cell? w _ hx246_0)).trans hx246_0
        replace p246 := eq_true p246
        replace q246 := eq_true q246
        refine start_ (n := 32) (S := fun w' => w'.cell? (ad245.add (x11_1).toNat) = some (.int .i64 (rd l2 x11_1)) ∧ w'.cell? (ad245.add (x11_1).toNat) = some (.int .i64 (rd l2 x11_1))) (ds := []) mz64_0 (by kernel_rfl) rfl rfl ⟨((HB.out.cell (World.block_lt_of_cell? w _ hw245_0)).trans hw245_0), ((HB.out.cell (World.block_lt_of_cell? w _ hw246_0)).trans hw246_0)⟩ (fun hHeld => ?_); refine with_tabW spec_l08Free.tab4 spec_l08Free.bits4 (fun HT_ HW_ => ?_)
        generalize wr.drew = w13 at BK244 HB hx245_0 hx246_0 hHeld ⊢
        refine pu 0 (some 18) mz64_1 (any_of HT_.out (by kernel_rfl)) ?_
        refine pu 1 (some 19) mz64_2 (any_of HT_.out (by kernel_rfl)) ?_
        refine pu 2 (some 20) mz64_3 (any_of HT_.out (by kernel_rfl)) ?_
        refine pu 3 (some 21) mz64_4 (any_of HT_.out (by kernel_rfl)) ?_
        refine pu 4 (some 22) mz64_5 (any_of HT_.out (by kernel_rfl)) ?_
        refine pu 5 (some 23) mz64_6 (any_of HT_.out (by kernel_rfl)) ?_
        refine pu 6 (some 24) mz64_7 (any_of HT_.out (by kernel_rfl)) ?_
        refine tk 7 (some 25) mz64_8 hHeld (take_ofW HT_.out HW_.out (by kernel_rfl)) ?_
        refine pu 8 (some 26) mz64_9 (any_of HT_.out (by kernel_rfl)) ?_
        refine pu 9 (some 27) mz64_10 (any_of HT_.out (by kernel_rfl)) ?_
        refine pu 10 (some 28) mz64_11 (any_of HT_.out (by kernel_rfl)) ?_
        refine pu 11 (some 29) mz64_12 (any_of HT_.out (by kernel_rfl)) ?_
        refine pu 12 (some 30) mz64_13 (any_of HT_.out (by kernel_rfl)) ?_
        refine pu 13 (some 31) mz64_14 (any_of HT_.out (by kernel_rfl)) ?_
        refine pu 15 (some 33) mz64_33 (any_of HT_.out (by kernel_rfl)) ?_
        refine tk 14 (some 32) mz64_16 hHeld (take_ofW HT_.out HW_.out (by kernel_rfl)) ?_
        refine pu 16 (some 34) mz64_17 (any_of HT_.out (by kernel_rfl)) ?_
        refine pu 17 (some 35) mz64_18 (any_of HT_.out (by kernel_rfl)) ?_
        refine po 18 (some 36) mz64_19 (any_of HT_.out (by kernel_rfl)) ?_
        refine po 19 (some 37) mz64_20 (any_of HT_.out (by kernel_rfl)) ?_
        refine po 20 (some 38) mz64_21 (any_of HT_.out (by kernel_rfl)) ?_
        refine po 21 (some 39) mz64_22 (any_of HT_.out (by kernel_rfl)) ?_
        refine po 22 (some 40) mz64_23 (any_of HT_.out (by kernel_rfl)) ?_
        refine po 23 (some 41) mz64_24 (any_of HT_.out (by kernel_rfl)) ?_
        refine po 24 (some 42) mz64_25 (any_of HT_.out (by kernel_rfl)) ?_
        refine po 25 (some 43) mz64_26 (any_of HT_.out (by kernel_rfl)) ?_
        refine po 26 (some 44) mz64_27 (any_of HT_.out (by kernel_rfl)) ?_
        refine po 27 (some 45) mz64_28 (any_of HT_.out (by kernel_rfl)) ?_
        refine po 28 (some 46) mz64_29 (any_of HT_.out (by kernel_rfl)) ?_
        refine po 29 (some 47) mz64_30 (any_of HT_.out (by kernel_rfl)) ?_
        refine pu 30 (some 48) mz64_31 (any_of HT_.out (by kernel_rfl)) ?_
        refine pu 31 (some 49) mz64_32 (any_of HT_.out (by kernel_rfl)) ?_
        refine done_ (done_of HT_.out (by kernel_rfl)) ?_
        try go_wp2
        go_ret
        exact ⟨by first | rfl | (simp [*, errW_none, errW_some] <;> rfl), by repeat first | exact HB.out | apply pw_below_drewN⟩
       ·rw [if_neg c12] at H
        have c12b0 : ((rd l2 x11_1) == a4) = false := beq_eq_false_iff_ne.mpr c12
        have c12b1 : ((rd l2 x11_1) != a4) = true := bne_iff_ne.mpr c12
        replace H := Option.bind_eq_some_iff.mp H
        obtain ⟨t248, A140, H⟩ := H
        set_option simprocs false in try dsimp only at H
        have A14 := Aside0.mk A140
        clear A140
        replace H := Option.bind_eq_some_iff.mp H
        obtain ⟨t249, A150, H⟩ := H
        set_option simprocs false in try dsimp only at H
        have A15 := Aside0.mk A150
        clear A150
        by_cases c16 : t248 = t249
        ·rw [if_pos c16] at H
         have c16b0 : (t248 == t249) = true := beq_iff_eq.mpr c16
         have c16b1 : (t248 != t249) = false := bne_eq_false_iff_eq.mpr c16
         clear c16
         obtain rfl := Option.some.inj H
         try go_wp2
         have n0_ := Aside0.mk (blk_drew BK244.out)
         have n1_ := Aside0.mk (below_drew1 HB.out)
         clear BK244
         clear HB
         have BK244 := n0_
         have HB := n1_
         clear n0_ n1_
         have p245 : 0 ≤ (x11_1 : Int) := of_decide_eq_true (by assumption)
         have q245 : x11_1 < (l2.length : Int) := of_decide_eq_true (by assumption)
         obtain ⟨ad245, e245, hx245_0⟩ := Kd.at_int HR2.out x11_1 p245 q245
         have hw245_0 := hx245_0
         cases e245
         replace hx245_0 := (HB.out.cell (World.block_lt_of_cell? w _ hx245_0)).trans hx245_0
         replace p245 := eq_true p245
         replace q245 := eq_true q245
         have p246 : 0 ≤ (x11_1 : Int) := of_decide_eq_true (by assumption)
         have q246 : x11_1 < (l2.length : Int) := of_decide_eq_true (by assumption)
         obtain ⟨ad246, e246, hx246_0⟩ := Kd.at_int HR2.out x11_1 p246 q246
         have hw246_0 := hx246_0
         obtain rfl : ad245 = ad246 := (by injection e246)
         replace hx246_0 := (HB.out.cell (World.block_lt_of_cell? w _ hx246_0)).trans hx246_0
         replace p246 := eq_true p246
         replace q246 := eq_true q246
         have p247 : 0 ≤ (x11_1 : Int) := of_decide_eq_true (by assumption)
         have q247 : x11_1 < (l2.length : Int) := of_decide_eq_true (by assumption)
         obtain ⟨ad247, e247, hx247_0⟩ := Kd.at_int HR2.out x11_1 p247 q247
         have hw247_0 := hx247_0
         obtain rfl : ad245 = ad247 := (by injection e247)
         replace hx247_0 := (HB.out.cell (World.block_lt_of_cell? w _ hx247_0)).trans hx247_0
         replace p247 := eq_true p247
         replace q247 := eq_true q247
         refine start_ (n := 32) (S := fun w' => w'.cell? ⟨gb244, 0, none⟩ = some (.slice A0_0 l0_0.length c0_0) ∧ w'.cell? ⟨gb244, 1, none⟩ = some (.slice A0_1 l0_1.length c0_1) ∧ w'.cell? (ad245.add (x11_1).toNat) = some (.int .i64 (rd l2 x11_1)) ∧ w'.cell? (ad245.add (x11_1).toNat) = some (.int .i64 (rd l2 x11_1)) ∧ w'.cell? (ad245.add (x11_1).toNat) = some (.int .i64 (rd l2 x11_1))) (ds := []) mz64_0 (by kernel_rfl) rfl rfl ⟨(blk_cell BK244.out 0).trans rfl, (blk_cell BK244.out 1).trans rfl, ((HB.out.cell (World.block_lt_of_cell? w _ hw245_0)).trans hw245_0), ((HB.out.cell (World.block_lt_of_cell? w _ hw246_0)).trans hw246_0), ((HB.out.cell (World.block_lt_of_cell? w _ hw247_0)).trans hw247_0)⟩ (fun hHeld => ?_); refine with_tabW spec_l08Free.tab4 spec_l08Free.bits4 (fun HT_ HW_ => ?_)
         generalize wr.drew = w17 at BK244 HB hx245_0 hx246_0 hx247_0 hHeld ⊢
         refine pu 0 (some 18) mz64_1 (any_of HT_.out (by kernel_rfl)) ?_
         refine pu 1 (some 19) mz64_2 (any_of HT_.out (by kernel_rfl)) ?_
         refine pu 2 (some 20) mz64_3 (any_of HT_.out (by kernel_rfl)) ?_
         refine pu 3 (some 21) mz64_4 (any_of HT_.out (by kernel_rfl)) ?_
         refine pu 4 (some 22) mz64_5 (any_of HT_.out (by kernel_rfl)) ?_
         refine pu 5 (some 23) mz64_6 (any_of HT_.out (by kernel_rfl)) ?_
         refine pu 6 (some 24) mz64_7 (any_of HT_.out (by kernel_rfl)) ?_
         refine tk 7 (some 25) mz64_8 hHeld (take_ofW HT_.out HW_.out (by kernel_rfl)) ?_
         refine pu 8 (some 26) mz64_9 (any_of HT_.out (by kernel_rfl)) ?_
         refine pu 9 (some 27) mz64_10 (any_of HT_.out (by kernel_rfl)) ?_
         refine pu 10 (some 28) mz64_11 (any_of HT_.out (by kernel_rfl)) ?_
         refine pu 11 (some 29) mz64_12 (any_of HT_.out (by kernel_rfl)) ?_
         refine pu 12 (some 30) mz64_13 (any_of HT_.out (by kernel_rfl)) ?_
         refine pu 13 (some 31) mz64_14 (any_of HT_.out (by kernel_rfl)) ?_
         refine pu 15 (some 33) mz64_33 (any_of HT_.out (by kernel_rfl)) ?_
         refine tk 14 (some 32) mz64_16 hHeld (take_ofW HT_.out HW_.out (by kernel_rfl)) ?_
         refine pu 16 (some 34) mz64_17 (any_of HT_.out (by kernel_rfl)) ?_
         refine pu 17 (some 35) mz64_18 (any_of HT_.out (by kernel_rfl)) ?_
         refine pu 19 (some 37) mz64_34 (any_of HT_.out (by kernel_rfl)) ?_
         refine pu 20 (some 38) mz64_35 (any_of HT_.out (by kernel_rfl)) ?_
         refine pu 21 (some 39) mz64_36 (any_of HT_.out (by kernel_rfl)) ?_
         refine pu 22 (some 40) mz64_37 (any_of HT_.out (by kernel_rfl)) ?_
         refine pu 26 (some 44) mz64_38 (any_of HT_.out (by kernel_rfl)) ?_
         refine pu 27 (some 45) mz64_39 (any_of HT_.out (by kernel_rfl)) ?_
         refine tk 18 (some 36) mz64_40 hHeld (take_ofW HT_.out HW_.out (by kernel_rfl)) ?_
         refine tk 23 (some 41) mz64_41 hHeld (take_ofW HT_.out HW_.out (by kernel_rfl)) ?_
         refine tk 25 (some 43) mz64_42 hHeld (take_ofW HT_.out HW_.out (by kernel_rfl)) ?_
         refine one_ (i := 24) (N := some 42) mz64_28 rfl rfl (one_of HT_.out (by kernel_rfl)) (by decide) (fun K hK => ?_)
         refine goes_ Tryz.func77 (by kernel_rfl) rfl #[.agg #[.slice A0_0 l0_0.length c0_0, .slice A0_1 l0_1.length c0_1], .int .i64 a1, .int .i64 (rd l2 x11_1)] (by rfl) rfl rfl (by (try simp only [List.map_toArray, List.map_cons, List.map_nil]); first | done | rfl) ?_
         with_reducible refine (spec_l08Domain.calls k1 _ _ l0_0 _ _ l0_1 a1 (rd l2 x11_1) t248 _ ?side1 ?side2 ?side3 ?side4 A14.out).mono ?_
         (case side1 => exact (Kd.C_below HR0_0.out HB.out))
         (case side2 => exact HC0_0.out)
         (case side3 => exact (Kd.C_below HR0_1.out HB.out))
         (case side4 => exact HC0_1.out)
         rintro e w18 ⟨rfl, hb⟩
         refine ⟨_, rfl, ?_⟩
         have n0_ := Aside0.mk (blk_below (by exact BK244.out) hb)
         have n1_ := Aside0.mk (below_step (by repeat first | exact HB.out | apply pw_below_drewN) hb)
         clear BK244
         clear HB
         have BK244 := n0_
         have HB := n1_
         clear n0_ n1_
         (try clear hb)
         (try clear hb2)
         (try clear hk)
         (try clear hi)
         refine hK.out _ _ ⟨(blk_cell BK244.out 0).trans rfl, (blk_cell BK244.out 1).trans rfl, ((HB.out.cell (World.block_lt_of_cell? w _ hw245_0)).trans hw245_0), ((HB.out.cell (World.block_lt_of_cell? w _ hw246_0)).trans hw246_0), ((HB.out.cell (World.block_lt_of_cell? w _ hw247_0)).trans hw247_0)⟩ (fun hHeld => ?_)
         clear hK K
         refine norm_ (a' := ?_) ?_ ?_
         (rotate_left; ·(show Act.put _ (some 42) _ = _; simp only [Act.put, pq_z64]; rfl))
         refine one_ (i := 28) (N := some 46) mz64_29 rfl rfl (one_of HT_.out (by kernel_rfl)) (by decide) (fun K hK => ?_)
         refine goes_ Tryz.func77 (by kernel_rfl) rfl #[.agg #[.slice A0_0 l0_0.length c0_0, .slice A0_1 l0_1.length c0_1], .int .i64 a1, .int .i64 a4] (by rfl) rfl rfl (by (try simp only [List.map_toArray, List.map_cons, List.map_nil]); first | done | rfl) ?_
         with_reducible refine (spec_l08Domain.calls k1 _ _ l0_0 _ _ l0_1 a1 a4 t249 _ ?side1 ?side2 ?side3 ?side4 A15.out).mono ?_
         (case side1 => exact (Kd.C_below HR0_0.out HB.out))
         (case side2 => exact HC0_0.out)
         (case side3 => exact (Kd.C_below HR0_1.out HB.out))
         (case side4 => exact HC0_1.out)
         rintro e w19 ⟨rfl, hb⟩
         refine ⟨_, rfl, ?_⟩
         have n0_ := Aside0.mk (blk_below (by exact BK244.out) hb)
         have n1_ := Aside0.mk (below_step (by repeat first | exact HB.out | apply pw_below_drewN) hb)
         clear BK244
         clear HB
         have BK244 := n0_
         have HB := n1_
         clear n0_ n1_
         (try clear hb)
         (try clear hb2)
         (try clear hk)
         (try clear hi)
         refine hK.out _ _ ⟨(blk_cell BK244.out 0).trans rfl, (blk_cell BK244.out 1).trans rfl, ((HB.out.cell (World.block_lt_of_cell? w _ hw245_0)).trans hw245_0), ((HB.out.cell (World.block_lt_of_cell? w _ hw246_0)).trans hw246_0), ((HB.out.cell (World.block_lt_of_cell? w _ hw247_0)).trans hw247_0)⟩ (fun hHeld => ?_)
         clear hK K
         refine norm_ (a' := ?_) ?_ ?_
         (rotate_left; ·(show Act.put _ (some 46) _ = _; simp only [Act.put, pq_z64]; rfl))
         refine pu 29 (some 47) mz64_30 (any_of HT_.out (by kernel_rfl)) ?_
         refine pu 30 (some 48) mz64_31 (any_of HT_.out (by kernel_rfl)) ?_
         refine pu 31 (some 49) mz64_32 (any_of HT_.out (by kernel_rfl)) ?_
         refine done_ (done_of HT_.out (by kernel_rfl)) ?_
         try go_wp2
         go_ret
         exact ⟨by first | rfl | (simp [*, errW_none, errW_some] <;> rfl), by repeat first | exact HB.out | apply pw_below_drewN⟩
        ·rw [if_neg c16] at H
         have c16b0 : (t248 == t249) = false := beq_eq_false_iff_ne.mpr c16
         have c16b1 : (t248 != t249) = true := bne_iff_ne.mpr c16
         have H' := Aside0.mk H
         clear H
         try go_wp2
         have n0_ := Aside0.mk (blk_drew BK244.out)
         have n1_ := Aside0.mk (below_drew1 HB.out)
         clear BK244
         clear HB
         have BK244 := n0_
         have HB := n1_
         clear n0_ n1_
         have p245 : 0 ≤ (x11_1 : Int) := of_decide_eq_true (by assumption)
         have q245 : x11_1 < (l2.length : Int) := of_decide_eq_true (by assumption)
         obtain ⟨ad245, e245, hx245_0⟩ := Kd.at_int HR2.out x11_1 p245 q245
         have hw245_0 := hx245_0
         cases e245
         replace hx245_0 := (HB.out.cell (World.block_lt_of_cell? w _ hx245_0)).trans hx245_0
         replace p245 := eq_true p245
         replace q245 := eq_true q245
         have p246 : 0 ≤ (x11_1 : Int) := of_decide_eq_true (by assumption)
         have q246 : x11_1 < (l2.length : Int) := of_decide_eq_true (by assumption)
         obtain ⟨ad246, e246, hx246_0⟩ := Kd.at_int HR2.out x11_1 p246 q246
         have hw246_0 := hx246_0
         obtain rfl : ad245 = ad246 := (by injection e246)
         replace hx246_0 := (HB.out.cell (World.block_lt_of_cell? w _ hx246_0)).trans hx246_0
         replace p246 := eq_true p246
         replace q246 := eq_true q246
         have p247 : 0 ≤ (x11_1 : Int) := of_decide_eq_true (by assumption)
         have q247 : x11_1 < (l2.length : Int) := of_decide_eq_true (by assumption)
         obtain ⟨ad247, e247, hx247_0⟩ := Kd.at_int HR2.out x11_1 p247 q247
         have hw247_0 := hx247_0
         obtain rfl : ad245 = ad247 := (by injection e247)
         replace hx247_0 := (HB.out.cell (World.block_lt_of_cell? w _ hx247_0)).trans hx247_0
         replace p247 := eq_true p247
         replace q247 := eq_true q247
         refine start_ (n := 32) (S := fun w' => w'.cell? ⟨gb244, 0, none⟩ = some (.slice A0_0 l0_0.length c0_0) ∧ w'.cell? ⟨gb244, 1, none⟩ = some (.slice A0_1 l0_1.length c0_1) ∧ w'.cell? (ad245.add (x11_1).toNat) = some (.int .i64 (rd l2 x11_1)) ∧ w'.cell? (ad245.add (x11_1).toNat) = some (.int .i64 (rd l2 x11_1)) ∧ w'.cell? (ad245.add (x11_1).toNat) = some (.int .i64 (rd l2 x11_1))) (ds := []) mz64_0 (by kernel_rfl) rfl rfl ⟨(blk_cell BK244.out 0).trans rfl, (blk_cell BK244.out 1).trans rfl, ((HB.out.cell (World.block_lt_of_cell? w _ hw245_0)).trans hw245_0), ((HB.out.cell (World.block_lt_of_cell? w _ hw246_0)).trans hw246_0), ((HB.out.cell (World.block_lt_of_cell? w _ hw247_0)).trans hw247_0)⟩ (fun hHeld => ?_); refine with_tabW spec_l08Free.tab4 spec_l08Free.bits4 (fun HT_ HW_ => ?_)
         generalize wr.drew = w20 at BK244 HB hx245_0 hx246_0 hx247_0 hHeld ⊢
         refine pu 0 (some 18) mz64_1 (any_of HT_.out (by kernel_rfl)) ?_
         refine pu 1 (some 19) mz64_2 (any_of HT_.out (by kernel_rfl)) ?_
         refine pu 2 (some 20) mz64_3 (any_of HT_.out (by kernel_rfl)) ?_
         refine pu 3 (some 21) mz64_4 (any_of HT_.out (by kernel_rfl)) ?_
         refine pu 4 (some 22) mz64_5 (any_of HT_.out (by kernel_rfl)) ?_
         refine pu 5 (some 23) mz64_6 (any_of HT_.out (by kernel_rfl)) ?_
         refine pu 6 (some 24) mz64_7 (any_of HT_.out (by kernel_rfl)) ?_
         refine tk 7 (some 25) mz64_8 hHeld (take_ofW HT_.out HW_.out (by kernel_rfl)) ?_
         refine pu 8 (some 26) mz64_9 (any_of HT_.out (by kernel_rfl)) ?_
         refine pu 9 (some 27) mz64_10 (any_of HT_.out (by kernel_rfl)) ?_
         refine pu 10 (some 28) mz64_11 (any_of HT_.out (by kernel_rfl)) ?_
         refine pu 11 (some 29) mz64_12 (any_of HT_.out (by kernel_rfl)) ?_
         refine pu 12 (some 30) mz64_13 (any_of HT_.out (by kernel_rfl)) ?_
         refine pu 13 (some 31) mz64_14 (any_of HT_.out (by kernel_rfl)) ?_
         refine pu 15 (some 33) mz64_33 (any_of HT_.out (by kernel_rfl)) ?_
         refine tk 14 (some 32) mz64_16 hHeld (take_ofW HT_.out HW_.out (by kernel_rfl)) ?_
         refine pu 16 (some 34) mz64_17 (any_of HT_.out (by kernel_rfl)) ?_
         refine pu 17 (some 35) mz64_18 (any_of HT_.out (by kernel_rfl)) ?_
         refine pu 19 (some 37) mz64_34 (any_of HT_.out (by kernel_rfl)) ?_
         refine pu 20 (some 38) mz64_35 (any_of HT_.out (by kernel_rfl)) ?_
         refine pu 21 (some 39) mz64_36 (any_of HT_.out (by kernel_rfl)) ?_
         refine pu 22 (some 40) mz64_37 (any_of HT_.out (by kernel_rfl)) ?_
         refine pu 26 (some 44) mz64_38 (any_of HT_.out (by kernel_rfl)) ?_
         refine pu 27 (some 45) mz64_39 (any_of HT_.out (by kernel_rfl)) ?_
         refine tk 18 (some 36) mz64_40 hHeld (take_ofW HT_.out HW_.out (by kernel_rfl)) ?_
         refine tk 23 (some 41) mz64_41 hHeld (take_ofW HT_.out HW_.out (by kernel_rfl)) ?_
         refine tk 25 (some 43) mz64_42 hHeld (take_ofW HT_.out HW_.out (by kernel_rfl)) ?_
         refine one_ (i := 24) (N := some 42) mz64_28 rfl rfl (one_of HT_.out (by kernel_rfl)) (by decide) (fun K hK => ?_)
         refine goes_ Tryz.func77 (by kernel_rfl) rfl #[.agg #[.slice A0_0 l0_0.length c0_0, .slice A0_1 l0_1.length c0_1], .int .i64 a1, .int .i64 (rd l2 x11_1)] (by rfl) rfl rfl (by (try simp only [List.map_toArray, List.map_cons, List.map_nil]); first | done | rfl) ?_
         with_reducible refine (spec_l08Domain.calls k1 _ _ l0_0 _ _ l0_1 a1 (rd l2 x11_1) t248 _ ?side1 ?side2 ?side3 ?side4 A14.out).mono ?_
         (case side1 => exact (Kd.C_below HR0_0.out HB.out))
         (case side2 => exact HC0_0.out)
         (case side3 => exact (Kd.C_below HR0_1.out HB.out))
         (case side4 => exact HC0_1.out)
         rintro e w21 ⟨rfl, hb⟩
         refine ⟨_, rfl, ?_⟩
         have n0_ := Aside0.mk (blk_below (by exact BK244.out) hb)
         have n1_ := Aside0.mk (below_step (by repeat first | exact HB.out | apply pw_below_drewN) hb)
         clear BK244
         clear HB
         have BK244 := n0_
         have HB := n1_
         clear n0_ n1_
         (try clear hb)
         (try clear hb2)
         (try clear hk)
         (try clear hi)
         refine hK.out _ _ ⟨(blk_cell BK244.out 0).trans rfl, (blk_cell BK244.out 1).trans rfl, ((HB.out.cell (World.block_lt_of_cell? w _ hw245_0)).trans hw245_0), ((HB.out.cell (World.block_lt_of_cell? w _ hw246_0)).trans hw246_0), ((HB.out.cell (World.block_lt_of_cell? w _ hw247_0)).trans hw247_0)⟩ (fun hHeld => ?_)
         clear hK K
         refine norm_ (a' := ?_) ?_ ?_
         (rotate_left; ·(show Act.put _ (some 42) _ = _; simp only [Act.put, pq_z64]; rfl))
         refine one_ (i := 28) (N := some 46) mz64_29 rfl rfl (one_of HT_.out (by kernel_rfl)) (by decide) (fun K hK => ?_)
         refine goes_ Tryz.func77 (by kernel_rfl) rfl #[.agg #[.slice A0_0 l0_0.length c0_0, .slice A0_1 l0_1.length c0_1], .int .i64 a1, .int .i64 a4] (by rfl) rfl rfl (by (try simp only [List.map_toArray, List.map_cons, List.map_nil]); first | done | rfl) ?_
         with_reducible refine (spec_l08Domain.calls k1 _ _ l0_0 _ _ l0_1 a1 a4 t249 _ ?side1 ?side2 ?side3 ?side4 A15.out).mono ?_
         (case side1 => exact (Kd.C_below HR0_0.out HB.out))
         (case side2 => exact HC0_0.out)
         (case side3 => exact (Kd.C_below HR0_1.out HB.out))
         (case side4 => exact HC0_1.out)
         rintro e w22 ⟨rfl, hb⟩
         refine ⟨_, rfl, ?_⟩
         have n0_ := Aside0.mk (blk_below (by exact BK244.out) hb)
         have n1_ := Aside0.mk (below_step (by repeat first | exact HB.out | apply pw_below_drewN) hb)
         clear BK244
         clear HB
         have BK244 := n0_
         have HB := n1_
         clear n0_ n1_
         (try clear hb)
         (try clear hb2)
         (try clear hk)
         (try clear hi)
         refine hK.out _ _ ⟨(blk_cell BK244.out 0).trans rfl, (blk_cell BK244.out 1).trans rfl, ((HB.out.cell (World.block_lt_of_cell? w _ hw245_0)).trans hw245_0), ((HB.out.cell (World.block_lt_of_cell? w _ hw246_0)).trans hw246_0), ((HB.out.cell (World.block_lt_of_cell? w _ hw247_0)).trans hw247_0)⟩ (fun hHeld => ?_)
         clear hK K
         refine norm_ (a' := ?_) ?_ ?_
         (rotate_left; ·(show Act.put _ (some 46) _ = _; simp only [Act.put, pq_z64]; rfl))
         refine pu 29 (some 47) mz64_30 (any_of HT_.out (by kernel_rfl)) ?_
         refine pu 30 (some 48) mz64_31 (any_of HT_.out (by kernel_rfl)) ?_
         refine pu 31 (some 49) mz64_32 (any_of HT_.out (by kernel_rfl)) ?_
         refine done_ (done_of HT_.out (by kernel_rfl)) ?_
         try go_wp2
         go_roundg k1
         case measure => have := HK1.out; omega
         case rel => exact ⟨(wrap64 (x11_1 + 1)), (by first | rfl | (simp; done) | (simp [*]; done)), H', ⟨by have := HK1.out; omega⟩, ⟨by exact BK244.out⟩, ⟨by repeat first | exact HB.out | apply pw_below_drewN⟩⟩
      ·rw [if_neg c11] at H
       have c11b0 : decide (0 ≤ (rd l2 x11_1)) = false := decide_eq_false c11
       clear c11
       have H' := Aside0.mk H
       clear H
       try go_wp2
       have n0_ := Aside0.mk (blk_drew BK244.out)
       have n1_ := Aside0.mk (below_drew1 HB.out)
       clear BK244
       clear HB
       have BK244 := n0_
       have HB := n1_
       clear n0_ n1_
       have p245 : 0 ≤ (x11_1 : Int) := of_decide_eq_true (by assumption)
       have q245 : x11_1 < (l2.length : Int) := of_decide_eq_true (by assumption)
       obtain ⟨ad245, e245, hx245_0⟩ := Kd.at_int HR2.out x11_1 p245 q245
       have hw245_0 := hx245_0
       cases e245
       replace hx245_0 := (HB.out.cell (World.block_lt_of_cell? w _ hx245_0)).trans hx245_0
       replace p245 := eq_true p245
       replace q245 := eq_true q245
       refine start_ (n := 32) (S := fun w' => w'.cell? (ad245.add (x11_1).toNat) = some (.int .i64 (rd l2 x11_1))) (ds := []) mz64_0 (by kernel_rfl) rfl rfl (((HB.out.cell (World.block_lt_of_cell? w _ hw245_0)).trans hw245_0)) (fun hHeld => ?_); refine with_tabW spec_l08Free.tab4 spec_l08Free.bits4 (fun HT_ HW_ => ?_)
       generalize wr.drew = w23 at BK244 HB hx245_0 hHeld ⊢
       refine pu 0 (some 18) mz64_1 (any_of HT_.out (by kernel_rfl)) ?_
       refine pu 1 (some 19) mz64_2 (any_of HT_.out (by kernel_rfl)) ?_
       refine pu 2 (some 20) mz64_3 (any_of HT_.out (by kernel_rfl)) ?_
       refine pu 3 (some 21) mz64_4 (any_of HT_.out (by kernel_rfl)) ?_
       refine pu 4 (some 22) mz64_5 (any_of HT_.out (by kernel_rfl)) ?_
       refine pu 5 (some 23) mz64_6 (any_of HT_.out (by kernel_rfl)) ?_
       refine pu 6 (some 24) mz64_7 (any_of HT_.out (by kernel_rfl)) ?_
       refine take_ (i := 7) (N := some 25) (v := ?_) (a' := ?_) mz64_8 rfl rfl (take_ofW HT_.out HW_.out (by kernel_rfl)) (fun _ _ _ h => h) (Or.inl ⟨by rfl, ?_⟩) hHeld ?_ ?_
       rotate_left
       ·intro w' s0
        go_simp
        with_reducible rfl
       (rotate_left; ·(simp only [Act.put, pq_z64]; rfl))
       refine pu 8 (some 26) mz64_9 (any_of HT_.out (by kernel_rfl)) ?_
       refine pu 9 (some 27) mz64_10 (any_of HT_.out (by kernel_rfl)) ?_
       refine pu 10 (some 28) mz64_11 (any_of HT_.out (by kernel_rfl)) ?_
       refine po 11 (some 29) mz64_12 (any_of HT_.out (by kernel_rfl)) ?_
       refine po 12 (some 30) mz64_13 (any_of HT_.out (by kernel_rfl)) ?_
       refine po 13 (some 31) mz64_14 (any_of HT_.out (by kernel_rfl)) ?_
       refine po 14 (some 32) mz64_15 (any_of HT_.out (by kernel_rfl)) ?_
       refine po 15 (some 33) mz64_16 (any_of HT_.out (by kernel_rfl)) ?_
       refine po 16 (some 34) mz64_17 (any_of HT_.out (by kernel_rfl)) ?_
       refine po 17 (some 35) mz64_18 (any_of HT_.out (by kernel_rfl)) ?_
       refine po 18 (some 36) mz64_19 (any_of HT_.out (by kernel_rfl)) ?_
       refine po 19 (some 37) mz64_20 (any_of HT_.out (by kernel_rfl)) ?_
       refine po 20 (some 38) mz64_21 (any_of HT_.out (by kernel_rfl)) ?_
       refine po 21 (some 39) mz64_22 (any_of HT_.out (by kernel_rfl)) ?_
       refine po 22 (some 40) mz64_23 (any_of HT_.out (by kernel_rfl)) ?_
       refine po 23 (some 41) mz64_24 (any_of HT_.out (by kernel_rfl)) ?_
       refine po 24 (some 42) mz64_25 (any_of HT_.out (by kernel_rfl)) ?_
       refine po 25 (some 43) mz64_26 (any_of HT_.out (by kernel_rfl)) ?_
       refine po 26 (some 44) mz64_27 (any_of HT_.out (by kernel_rfl)) ?_
       refine po 27 (some 45) mz64_28 (any_of HT_.out (by kernel_rfl)) ?_
       refine po 28 (some 46) mz64_29 (any_of HT_.out (by kernel_rfl)) ?_
       refine po 29 (some 47) mz64_30 (any_of HT_.out (by kernel_rfl)) ?_
       refine po 30 (some 48) mz64_31 (any_of HT_.out (by kernel_rfl)) ?_
       refine pu 31 (some 49) mz64_32 (any_of HT_.out (by kernel_rfl)) ?_
       refine done_ (done_of HT_.out (by kernel_rfl)) ?_
       try go_wp2
       go_roundg k1
       case measure => have := HK1.out; omega
       case rel => exact ⟨(wrap64 (x11_1 + 1)), (by first | rfl | (simp; done) | (simp [*]; done)), H', ⟨by have := HK1.out; omega⟩, ⟨by exact BK244.out⟩, ⟨by repeat first | exact HB.out | apply pw_below_drewN⟩⟩
     ·rw [if_neg c10] at H
      exact absurd H (by simp)
   ·rw [if_neg c7] at H
    have c7b0 : decide (x11_1 < (l2.length : Int)) = false := decide_eq_false c7
    clear c7
    obtain rfl := Option.some.inj H
    go_wp2
    go_ret
    exact ⟨by first | rfl | (simp [*, errW_none, errW_some] <;> rfl), by repeat first | exact HB.out | apply pw_below_drewN⟩

/-! ### spec_l08Find: function 43 -/
def spec_l08Find.l0 : Nat → Int → List Int → Int → List Int → Int → List (S72) → List (S68) → Int → Int → Int → Bool → Option (Int)
  | 0, _, _, _, _, _, _, _, _, _, _, _ => none
  | k + 1, x2, x3, x4, x5, x13, x251000, x251001, x252000, x252001, x252002, x252003 => if x13 < 30 then ((spec_l07Descend.f k x251000 x251001 x252001 x252002 x2 (wrap64 ((wrap64 (x13 * 7)) + x4))).bind fun bt252 => (if bt252.2 = true then ((spec_l07Descend.f k x251000 x251001 bt252.1 0 x2 (wrap64 ((wrap64 (x13 * 7)) + x4))).bind fun bt254 => (if bt254.2 = true then ((spec_l00Has.f k x5 bt254.1).bind fun t256 => (if t256 = true then (spec_l08Find.l0 k x2 x3 x4 x5 (wrap64 (x13 + 1)) x251000 x251001 x252000 x252001 x252002 x252003) else ((spec_l08Free.f k x251000 x251001 x252002 x3 x4 bt254.1).bind fun t257 => (if t257 = true then (some bt254.1) else (spec_l08Find.l0 k x2 x3 x4 x5 (wrap64 (x13 + 1)) x251000 x251001 x252000 x252001 x252002 x252003))))) else (spec_l08Find.l0 k x2 x3 x4 x5 (wrap64 (x13 + 1)) x251000 x251001 x252000 x252001 x252002 x252003))) else (some (-1)))) else (some (-1))
def spec_l08Find.f (k : Nat) (l0_0 : List (S72)) (l0_1 : List (S68)) (a1_0 : Int) (a1_1 : Int) (a1_2 : Int) (a1_3 : Bool) (a2 : Int) (l3 : List Int) (a4 : Int) (l5 : List Int) : Option (Int) := spec_l08Find.l0 k a2 l3 a4 l5 0 l0_0 l0_1 a1_0 a1_1 a1_2 a1_3
set_option maxHeartbeats 8000000 in
set_option maxRecDepth 100000 in
theorem spec_l08Find.calls (k : Nat) (A0_0 : Option Addr) (c0_0 : Nat) (l0_0 : List (S72)) (A0_1 : Option Addr) (c0_1 : Nat) (l0_1 : List (S68)) (a1_0 : Int) (a1_1 : Int) (a1_2 : Int) (a1_3 : Bool) (a2 : Int) (A3 : Option Addr) (c3 : Nat) (l3 : List Int) (a4 : Int) (A5 : Option Addr) (c5 : Nat) (l5 : List Int) (r : Int) (w : World) (hr0_0 : Kd.C k72 w A0_0 l0_0.length l0_0) (hc0_0 : l0_0.length ≤ c0_0) (hr0_1 : Kd.C k68 w A0_1 l0_1.length l0_1) (hc0_1 : l0_1.length ≤ c0_1) (hr3 : Kd.C (Kd.int .i64) w A3 l3.length l3) (hc3 : l3.length ≤ c3) (hr5 : Kd.C (Kd.int .i64) w A5 l5.length l5) (hc5 : l5.length ≤ c5) (h : spec_l08Find.f k l0_0 l0_1 a1_0 a1_1 a1_2 a1_3 a2 l3 a4 l5 = some r) :
  Calls Tryz.prog 43 #[.agg #[.slice A0_0 l0_0.length c0_0, .slice A0_1 l0_1.length c0_1], .agg #[.int .i64 a1_0, .int .i64 a1_1, .int .i64 a1_2, .bool a1_3], .int .i64 a2, .slice A3 l3.length c3, .int .i64 a4, .slice A5 l5.length c5] w fun e w' => e = .returned (.int .i64 r) ∧ Below w.heap.size w w' := by
 have hu35 := Tryz.underlying35
 have hu37 := Tryz.underlying37
 have HR0_0 := Aside0.mk hr0_0
 have HC0_0 := Aside0.mk hc0_0
 clear hr0_0 hc0_0
 have HR0_1 := Aside0.mk hr0_1
 have HC0_1 := Aside0.mk hc0_1
 clear hr0_1 hc0_1
 have HR3 := Aside0.mk hr3
 have HC3 := Aside0.mk hc3
 clear hr3 hc3
 have HR5 := Aside0.mk hr5
 have HC5 := Aside0.mk hc5
 clear hr5 hc5
 have HB := Aside0.mk (Below.refl w.heap.size w)
 have H : (spec_l08Find.l0 k a2 l3 a4 l5 0 l0_0 l0_1 a1_0 a1_1 a1_2 a1_3) = some r := h
 clear h
 have H' := Aside0.mk H
 clear H
 go_enter Tryz.func43, Tryz.ntmps43
 go_wp2_with (first | ((with_reducible refine gate_dst (N := 6) rfl ?_); refine box_event ?hg (N := 6) ?hd (cs := #[.slice A0_0 l0_0.length c0_0, .slice A0_1 l0_1.length c0_1]) (t := 35) ?hr ?_; (case hd => rfl); (case hg => rfl); (case hr => first | (go_simp; done) | (go_simp; rfl)); intro gb250 hg w7 hbox hb; have n0_ := Aside0.mk (below_step (by repeat first | exact HB.out | apply pw_below_drewN) hb); have n1_ := Aside0.mk (hbox); clear HB; have HB := n0_; have BK250 := n1_; clear n0_ n1_; clear hb hbox hg) | ((with_reducible refine gate_dst (N := 7) rfl ?_); refine box_event ?hg (N := 7) ?hd (cs := #[.int .i64 a1_0, .int .i64 a1_1, .int .i64 a1_2, .bool a1_3]) (t := 37) ?hr ?_; (case hd => rfl); (case hg => rfl); (case hr => first | (go_simp; done) | (go_simp; rfl)); intro gb251 hg w8 hbox hb; have n0_ := Aside0.mk (blk_below (by exact BK250.out) hb); have n1_ := Aside0.mk (below_step (by repeat first | exact HB.out | apply pw_below_drewN) hb); have n2_ := Aside0.mk (hbox); clear BK250; clear HB; have BK250 := n0_; have HB := n1_; have BK251 := n2_; clear n0_ n1_ n2_; clear hb hbox hg))
 go_loopg [13] k (fun kq v13 w' => ∃ (x13_1 : Int), v13 = .int .i64 x13_1 ∧ Aside0 (spec_l08Find.l0 kq a2 l3 a4 l5 x13_1 l0_0 l0_1 a1_0 a1_1 a1_2 a1_3 = some r) ∧ Aside0 (kq ≤ k) ∧ Aside0 (w'.heap[gb250]? = some (.cells #[(.slice A0_0 l0_0.length c0_0), (.slice A0_1 l0_1.length c0_1)] 35 (0, 0))) ∧ Aside0 (w'.heap[gb251]? = some (.cells #[.int .i64 a1_0, .int .i64 a1_1, .int .i64 a1_2, .bool a1_3] 37 (0, 0))) ∧ Aside0 (Below w.heap.size w w'))
 case atStart => exact ⟨(0), (by first | rfl | (simp; done) | (simp [*]; done)), H', ⟨Nat.le_refl _⟩, ⟨by exact BK250.out⟩, ⟨by exact BK251.out⟩, ⟨by repeat first | exact HB.out | apply pw_below_drewN⟩⟩
 case round =>
  clear H'
  try clear p2
  try clear c3
  try clear c4
  try clear c5
  obtain ⟨x13_1, rfl, HA, HK1, BK250, BK251, HB⟩ := hrel
  cases gk with
  | zero => exact absurd HA.out (by simp [spec_l08Find.l0])
  | succ k1 =>
   have H := HA.out
   clear HA
   simp only [spec_l08Find.l0] at H
   by_cases c9 : x13_1 < 30
   ·rw [if_pos c9] at H
    have c9b0 : decide (x13_1 < 30) = true := decide_eq_true c9
    clear c9
    replace H := Option.bind_eq_some_iff.mp H
    obtain ⟨⟨t252, t253⟩, A100, H⟩ := H
    set_option simprocs false in try dsimp only at H
    have A10 := Aside0.mk A100
    clear A100
    by_cases c11 : t253 = true
    ·subst c11
     rw [if_pos rfl] at H
     replace H := Option.bind_eq_some_iff.mp H
     obtain ⟨⟨t254, t255⟩, A120, H⟩ := H
     set_option simprocs false in try dsimp only at H
     have A12 := Aside0.mk A120
     clear A120
     by_cases c13 : t255 = true
     ·subst c13
      rw [if_pos rfl] at H
      replace H := Option.bind_eq_some_iff.mp H
      obtain ⟨t256, A140, H⟩ := H
      set_option simprocs false in try dsimp only at H
      have A14 := Aside0.mk A140
      clear A140
      by_cases c15 : t256 = true
      ·subst c15
       rw [if_pos rfl] at H
       have H' := Aside0.mk H
       clear H
       have hcz17_0 := (blk_cell BK250.out 0).trans rfl
       have hcz17_1 := (blk_cell BK250.out 1).trans rfl
       have hcz18_0 := (blk_cell BK251.out 0).trans rfl
       have hcz18_1 := (blk_cell BK251.out 1).trans rfl
       have hcz18_2 := (blk_cell BK251.out 2).trans rfl
       have hcz18_3 := (blk_cell BK251.out 3).trans rfl
       go_wp2_with (first | ((with_reducible refine gate_callee (f := 63) rfl ?_); refine gl (some 34) Tryz.func63 #[.agg #[.slice A0_0 l0_0.length c0_0, .slice A0_1 l0_1.length c0_1], .int .i64 a1_1, .int .i64 a1_2, .int .i64 a2, .int .i64 (wrap64 ((wrap64 (x13_1 * 7)) + a4))] ?_; (with_reducible refine (spec_l07Descend.calls k1 _ _ l0_0 _ _ l0_1 a1_1 a1_2 a2 (wrap64 ((wrap64 (x13_1 * 7)) + a4)) t252 true _ ?side1 ?side2 ?side3 ?side4 A10.out).mono ?_); (case side1 => exact (Kd.C_below HR0_0.out HB.out)); (case side2 => exact HC0_0.out); (case side3 => exact (Kd.C_below HR0_1.out HB.out)); (case side4 => exact HC0_1.out); rintro e w19 ⟨rfl, hb⟩; refine ⟨_, rfl, ?_⟩; have n0_ := Aside0.mk (blk_below (by exact BK250.out) hb); have n1_ := Aside0.mk (blk_below (by exact BK251.out) hb); have n2_ := Aside0.mk (below_step (by repeat first | exact HB.out | apply pw_below_drewN) hb); clear BK250; clear BK251; clear HB; have BK250 := n0_; have BK251 := n1_; have HB := n2_; clear n0_ n1_ n2_; (try clear hb); (try clear hb2); (try clear hk); (try clear hi); have hcz20_0 := (blk_cell BK250.out 0).trans rfl; have hcz20_1 := (blk_cell BK250.out 1).trans rfl) | ((with_reducible refine gate_callee (f := 63) rfl ?_); refine gl (some 44) Tryz.func63 #[.agg #[.slice A0_0 l0_0.length c0_0, .slice A0_1 l0_1.length c0_1], .int .i64 t252, .int .i64 0, .int .i64 a2, .int .i64 (wrap64 ((wrap64 (x13_1 * 7)) + a4))] ?_; (with_reducible refine (spec_l07Descend.calls k1 _ _ l0_0 _ _ l0_1 t252 0 a2 (wrap64 ((wrap64 (x13_1 * 7)) + a4)) t254 true _ ?side1 ?side2 ?side3 ?side4 A12.out).mono ?_); (case side1 => exact (Kd.C_below HR0_0.out HB.out)); (case side2 => exact HC0_0.out); (case side3 => exact (Kd.C_below HR0_1.out HB.out)); (case side4 => exact HC0_1.out); rintro e w21 ⟨rfl, hb⟩; refine ⟨_, rfl, ?_⟩; have n0_ := Aside0.mk (blk_below (by exact BK250.out) hb); have n1_ := Aside0.mk (blk_below (by exact BK251.out) hb); have n2_ := Aside0.mk (below_step (by repeat first | exact HB.out | apply pw_below_drewN) hb); clear BK250; clear BK251; clear HB; have BK250 := n0_; have BK251 := n1_; have HB := n2_; clear n0_ n1_ n2_; (try clear hb); (try clear hb2); (try clear hk); (try clear hi)) | (go_at_call 60; (with_reducible refine (spec_l00Has.calls k1 _ _ l5 t254 true _ ?side1 ?side2 A14.out).mono ?_); (case side1 => exact (Kd.C_below HR5.out HB.out)); (case side2 => exact HC5.out); rintro e w' ⟨rfl, ⟨nd, rfl⟩⟩))
       go_roundg k1
       case measure => have := HK1.out; omega
       case rel => exact ⟨(wrap64 (x13_1 + 1)), (by first | rfl | (simp; done) | (simp [*]; done)), H', ⟨by have := HK1.out; omega⟩, ⟨by exact BK250.out⟩, ⟨by exact BK251.out⟩, ⟨by repeat first | exact HB.out | apply pw_below_drewN⟩⟩
      ·replace c15 := Bool.eq_false_iff.mpr c15
       subst c15
       rw [if_neg (show ¬ (false = true) by decide)] at H
       replace H := Option.bind_eq_some_iff.mp H
       obtain ⟨t257, A220, H⟩ := H
       set_option simprocs false in try dsimp only at H
       have A22 := Aside0.mk A220
       clear A220
       by_cases c23 : t257 = true
       ·subst c23
        rw [if_pos rfl] at H
        obtain rfl := Option.some.inj H
        have hcz25_0 := (blk_cell BK250.out 0).trans rfl
        have hcz25_1 := (blk_cell BK250.out 1).trans rfl
        have hcz26_0 := (blk_cell BK251.out 0).trans rfl
        have hcz26_1 := (blk_cell BK251.out 1).trans rfl
        have hcz26_2 := (blk_cell BK251.out 2).trans rfl
        have hcz26_3 := (blk_cell BK251.out 3).trans rfl
        go_wp2_with (first | ((with_reducible refine gate_callee (f := 63) rfl ?_); refine gl (some 34) Tryz.func63 #[.agg #[.slice A0_0 l0_0.length c0_0, .slice A0_1 l0_1.length c0_1], .int .i64 a1_1, .int .i64 a1_2, .int .i64 a2, .int .i64 (wrap64 ((wrap64 (x13_1 * 7)) + a4))] ?_; (with_reducible refine (spec_l07Descend.calls k1 _ _ l0_0 _ _ l0_1 a1_1 a1_2 a2 (wrap64 ((wrap64 (x13_1 * 7)) + a4)) t252 true _ ?side1 ?side2 ?side3 ?side4 A10.out).mono ?_); (case side1 => exact (Kd.C_below HR0_0.out HB.out)); (case side2 => exact HC0_0.out); (case side3 => exact (Kd.C_below HR0_1.out HB.out)); (case side4 => exact HC0_1.out); rintro e w27 ⟨rfl, hb⟩; refine ⟨_, rfl, ?_⟩; have n0_ := Aside0.mk (blk_below (by exact BK250.out) hb); have n1_ := Aside0.mk (blk_below (by exact BK251.out) hb); have n2_ := Aside0.mk (below_step (by repeat first | exact HB.out | apply pw_below_drewN) hb); clear BK250; clear BK251; clear HB; have BK250 := n0_; have BK251 := n1_; have HB := n2_; clear n0_ n1_ n2_; (try clear hb); (try clear hb2); (try clear hk); (try clear hi); have hcz28_0 := (blk_cell BK250.out 0).trans rfl; have hcz28_1 := (blk_cell BK250.out 1).trans rfl) | ((with_reducible refine gate_callee (f := 63) rfl ?_); refine gl (some 44) Tryz.func63 #[.agg #[.slice A0_0 l0_0.length c0_0, .slice A0_1 l0_1.length c0_1], .int .i64 t252, .int .i64 0, .int .i64 a2, .int .i64 (wrap64 ((wrap64 (x13_1 * 7)) + a4))] ?_; (with_reducible refine (spec_l07Descend.calls k1 _ _ l0_0 _ _ l0_1 t252 0 a2 (wrap64 ((wrap64 (x13_1 * 7)) + a4)) t254 true _ ?side1 ?side2 ?side3 ?side4 A12.out).mono ?_); (case side1 => exact (Kd.C_below HR0_0.out HB.out)); (case side2 => exact HC0_0.out); (case side3 => exact (Kd.C_below HR0_1.out HB.out)); (case side4 => exact HC0_1.out); rintro e w29 ⟨rfl, hb⟩; refine ⟨_, rfl, ?_⟩; have n0_ := Aside0.mk (blk_below (by exact BK250.out) hb); have n1_ := Aside0.mk (blk_below (by exact BK251.out) hb); have n2_ := Aside0.mk (below_step (by repeat first | exact HB.out | apply pw_below_drewN) hb); clear BK250; clear BK251; clear HB; have BK250 := n0_; have BK251 := n1_; have HB := n2_; clear n0_ n1_ n2_; (try clear hb); (try clear hb2); (try clear hk); (try clear hi)) | (go_at_call 60; (with_reducible refine (spec_l00Has.calls k1 _ _ l5 t254 false _ ?side1 ?side2 A14.out).mono ?_); (case side1 => exact (Kd.C_below HR5.out HB.out)); (case side2 => exact HC5.out); rintro e w' ⟨rfl, ⟨nd, rfl⟩⟩; have hcz30_0 := (blk_cell BK250.out 0).trans rfl; have hcz30_1 := (blk_cell BK250.out 1).trans rfl; have hcz31_0 := (blk_cell BK251.out 0).trans rfl; have hcz31_1 := (blk_cell BK251.out 1).trans rfl; have hcz31_2 := (blk_cell BK251.out 2).trans rfl; have hcz31_3 := (blk_cell BK251.out 3).trans rfl) | (go_at_call 64; (with_reducible refine (spec_l08Free.calls k1 _ _ l0_0 _ _ l0_1 a1_2 _ _ l3 a4 t254 true _ ?side1 ?side2 ?side3 ?side4 ?side5 ?side6 A22.out).mono ?_); (case side1 => exact (Kd.C_below HR0_0.out (by repeat first | exact HB.out | apply pw_below_drewN))); (case side2 => exact HC0_0.out); (case side3 => exact (Kd.C_below HR0_1.out (by repeat first | exact HB.out | apply pw_below_drewN))); (case side4 => exact HC0_1.out); (case side5 => exact (Kd.C_below HR3.out (by repeat first | exact HB.out | apply pw_below_drewN))); (case side6 => exact HC3.out); rintro e w32 ⟨rfl, hb⟩; have n0_ := Aside0.mk (blk_below (by exact BK250.out) hb); have n1_ := Aside0.mk (blk_below (by exact BK251.out) hb); have n2_ := Aside0.mk (below_step (by repeat first | exact HB.out | apply pw_below_drewN) hb); clear BK250; clear BK251; clear HB; have BK250 := n0_; have BK251 := n1_; have HB := n2_; clear n0_ n1_ n2_; (try clear hb); (try clear hb2); (try clear hk); (try clear hi)))
        go_ret
        exact ⟨by first | rfl | (simp [*, errW_none, errW_some] <;> rfl), by repeat first | exact HB.out | apply pw_below_drewN⟩
       ·replace c23 := Bool.eq_false_iff.mpr c23
        subst c23
        rw [if_neg (show ¬ (false = true) by decide)] at H
        have H' := Aside0.mk H
        clear H
        have hcz34_0 := (blk_cell BK250.out 0).trans rfl
        have hcz34_1 := (blk_cell BK250.out 1).trans rfl
        have hcz35_0 := (blk_cell BK251.out 0).trans rfl
        have hcz35_1 := (blk_cell BK251.out 1).trans rfl
        have hcz35_2 := (blk_cell BK251.out 2).trans rfl
        have hcz35_3 := (blk_cell BK251.out 3).trans rfl
        go_wp2_with (first | ((with_reducible refine gate_callee (f := 63) rfl ?_); refine gl (some 34) Tryz.func63 #[.agg #[.slice A0_0 l0_0.length c0_0, .slice A0_1 l0_1.length c0_1], .int .i64 a1_1, .int .i64 a1_2, .int .i64 a2, .int .i64 (wrap64 ((wrap64 (x13_1 * 7)) + a4))] ?_; (with_reducible refine (spec_l07Descend.calls k1 _ _ l0_0 _ _ l0_1 a1_1 a1_2 a2 (wrap64 ((wrap64 (x13_1 * 7)) + a4)) t252 true _ ?side1 ?side2 ?side3 ?side4 A10.out).mono ?_); (case side1 => exact (Kd.C_below HR0_0.out HB.out)); (case side2 => exact HC0_0.out); (case side3 => exact (Kd.C_below HR0_1.out HB.out)); (case side4 => exact HC0_1.out); rintro e w36 ⟨rfl, hb⟩; refine ⟨_, rfl, ?_⟩; have n0_ := Aside0.mk (blk_below (by exact BK250.out) hb); have n1_ := Aside0.mk (blk_below (by exact BK251.out) hb); have n2_ := Aside0.mk (below_step (by repeat first | exact HB.out | apply pw_below_drewN) hb); clear BK250; clear BK251; clear HB; have BK250 := n0_; have BK251 := n1_; have HB := n2_; clear n0_ n1_ n2_; (try clear hb); (try clear hb2); (try clear hk); (try clear hi); have hcz37_0 := (blk_cell BK250.out 0).trans rfl; have hcz37_1 := (blk_cell BK250.out 1).trans rfl) | ((with_reducible refine gate_callee (f := 63) rfl ?_); refine gl (some 44) Tryz.func63 #[.agg #[.slice A0_0 l0_0.length c0_0, .slice A0_1 l0_1.length c0_1], .int .i64 t252, .int .i64 0, .int .i64 a2, .int .i64 (wrap64 ((wrap64 (x13_1 * 7)) + a4))] ?_; (with_reducible refine (spec_l07Descend.calls k1 _ _ l0_0 _ _ l0_1 t252 0 a2 (wrap64 ((wrap64 (x13_1 * 7)) + a4)) t254 true _ ?side1 ?side2 ?side3 ?side4 A12.out).mono ?_); (case side1 => exact (Kd.C_below HR0_0.out HB.out)); (case side2 => exact HC0_0.out); (case side3 => exact (Kd.C_below HR0_1.out HB.out)); (case side4 => exact HC0_1.out); rintro e w38 ⟨rfl, hb⟩; refine ⟨_, rfl, ?_⟩; have n0_ := Aside0.mk (blk_below (by exact BK250.out) hb); have n1_ := Aside0.mk (blk_below (by exact BK251.out) hb); have n2_ := Aside0.mk (below_step (by repeat first | exact HB.out | apply pw_below_drewN) hb); clear BK250; clear BK251; clear HB; have BK250 := n0_; have BK251 := n1_; have HB := n2_; clear n0_ n1_ n2_; (try clear hb); (try clear hb2); (try clear hk); (try clear hi)) | (go_at_call 60; (with_reducible refine (spec_l00Has.calls k1 _ _ l5 t254 false _ ?side1 ?side2 A14.out).mono ?_); (case side1 => exact (Kd.C_below HR5.out HB.out)); (case side2 => exact HC5.out); rintro e w' ⟨rfl, ⟨nd, rfl⟩⟩; have hcz39_0 := (blk_cell BK250.out 0).trans rfl; have hcz39_1 := (blk_cell BK250.out 1).trans rfl; have hcz40_0 := (blk_cell BK251.out 0).trans rfl; have hcz40_1 := (blk_cell BK251.out 1).trans rfl; have hcz40_2 := (blk_cell BK251.out 2).trans rfl; have hcz40_3 := (blk_cell BK251.out 3).trans rfl) | (go_at_call 64; (with_reducible refine (spec_l08Free.calls k1 _ _ l0_0 _ _ l0_1 a1_2 _ _ l3 a4 t254 false _ ?side1 ?side2 ?side3 ?side4 ?side5 ?side6 A22.out).mono ?_); (case side1 => exact (Kd.C_below HR0_0.out (by repeat first | exact HB.out | apply pw_below_drewN))); (case side2 => exact HC0_0.out); (case side3 => exact (Kd.C_below HR0_1.out (by repeat first | exact HB.out | apply pw_below_drewN))); (case side4 => exact HC0_1.out); (case side5 => exact (Kd.C_below HR3.out (by repeat first | exact HB.out | apply pw_below_drewN))); (case side6 => exact HC3.out); rintro e w41 ⟨rfl, hb⟩; have n0_ := Aside0.mk (blk_below (by exact BK250.out) hb); have n1_ := Aside0.mk (blk_below (by exact BK251.out) hb); have n2_ := Aside0.mk (below_step (by repeat first | exact HB.out | apply pw_below_drewN) hb); clear BK250; clear BK251; clear HB; have BK250 := n0_; have BK251 := n1_; have HB := n2_; clear n0_ n1_ n2_; (try clear hb); (try clear hb2); (try clear hk); (try clear hi)))
        go_roundg k1
        case measure => have := HK1.out; omega
        case rel => exact ⟨(wrap64 (x13_1 + 1)), (by first | rfl | (simp; done) | (simp [*]; done)), H', ⟨by have := HK1.out; omega⟩, ⟨by exact BK250.out⟩, ⟨by exact BK251.out⟩, ⟨by repeat first | exact HB.out | apply pw_below_drewN⟩⟩
     ·replace c13 := Bool.eq_false_iff.mpr c13
      subst c13
      rw [if_neg (show ¬ (false = true) by decide)] at H
      have H' := Aside0.mk H
      clear H
      have hcz43_0 := (blk_cell BK250.out 0).trans rfl
      have hcz43_1 := (blk_cell BK250.out 1).trans rfl
      have hcz44_0 := (blk_cell BK251.out 0).trans rfl
      have hcz44_1 := (blk_cell BK251.out 1).trans rfl
      have hcz44_2 := (blk_cell BK251.out 2).trans rfl
      have hcz44_3 := (blk_cell BK251.out 3).trans rfl
      go_wp2_with (first | ((with_reducible refine gate_callee (f := 63) rfl ?_); refine gl (some 34) Tryz.func63 #[.agg #[.slice A0_0 l0_0.length c0_0, .slice A0_1 l0_1.length c0_1], .int .i64 a1_1, .int .i64 a1_2, .int .i64 a2, .int .i64 (wrap64 ((wrap64 (x13_1 * 7)) + a4))] ?_; (with_reducible refine (spec_l07Descend.calls k1 _ _ l0_0 _ _ l0_1 a1_1 a1_2 a2 (wrap64 ((wrap64 (x13_1 * 7)) + a4)) t252 true _ ?side1 ?side2 ?side3 ?side4 A10.out).mono ?_); (case side1 => exact (Kd.C_below HR0_0.out HB.out)); (case side2 => exact HC0_0.out); (case side3 => exact (Kd.C_below HR0_1.out HB.out)); (case side4 => exact HC0_1.out); rintro e w45 ⟨rfl, hb⟩; refine ⟨_, rfl, ?_⟩; have n0_ := Aside0.mk (blk_below (by exact BK250.out) hb); have n1_ := Aside0.mk (blk_below (by exact BK251.out) hb); have n2_ := Aside0.mk (below_step (by repeat first | exact HB.out | apply pw_below_drewN) hb); clear BK250; clear BK251; clear HB; have BK250 := n0_; have BK251 := n1_; have HB := n2_; clear n0_ n1_ n2_; (try clear hb); (try clear hb2); (try clear hk); (try clear hi); have hcz46_0 := (blk_cell BK250.out 0).trans rfl; have hcz46_1 := (blk_cell BK250.out 1).trans rfl) | ((with_reducible refine gate_callee (f := 63) rfl ?_); refine gl (some 44) Tryz.func63 #[.agg #[.slice A0_0 l0_0.length c0_0, .slice A0_1 l0_1.length c0_1], .int .i64 t252, .int .i64 0, .int .i64 a2, .int .i64 (wrap64 ((wrap64 (x13_1 * 7)) + a4))] ?_; (with_reducible refine (spec_l07Descend.calls k1 _ _ l0_0 _ _ l0_1 t252 0 a2 (wrap64 ((wrap64 (x13_1 * 7)) + a4)) t254 false _ ?side1 ?side2 ?side3 ?side4 A12.out).mono ?_); (case side1 => exact (Kd.C_below HR0_0.out HB.out)); (case side2 => exact HC0_0.out); (case side3 => exact (Kd.C_below HR0_1.out HB.out)); (case side4 => exact HC0_1.out); rintro e w47 ⟨rfl, hb⟩; refine ⟨_, rfl, ?_⟩; have n0_ := Aside0.mk (blk_below (by exact BK250.out) hb); have n1_ := Aside0.mk (blk_below (by exact BK251.out) hb); have n2_ := Aside0.mk (below_step (by repeat first | exact HB.out | apply pw_below_drewN) hb); clear BK250; clear BK251; clear HB; have BK250 := n0_; have BK251 := n1_; have HB := n2_; clear n0_ n1_ n2_; (try clear hb); (try clear hb2); (try clear hk); (try clear hi)))
      go_roundg k1
      case measure => have := HK1.out; omega
      case rel => exact ⟨(wrap64 (x13_1 + 1)), (by first | rfl | (simp; done) | (simp [*]; done)), H', ⟨by have := HK1.out; omega⟩, ⟨by exact BK250.out⟩, ⟨by exact BK251.out⟩, ⟨by repeat first | exact HB.out | apply pw_below_drewN⟩⟩
    ·replace c11 := Bool.eq_false_iff.mpr c11
     subst c11
     rw [if_neg (show ¬ (false = true) by decide)] at H
     obtain rfl := Option.some.inj H
     have hcz49_0 := (blk_cell BK250.out 0).trans rfl
     have hcz49_1 := (blk_cell BK250.out 1).trans rfl
     have hcz50_0 := (blk_cell BK251.out 0).trans rfl
     have hcz50_1 := (blk_cell BK251.out 1).trans rfl
     have hcz50_2 := (blk_cell BK251.out 2).trans rfl
     have hcz50_3 := (blk_cell BK251.out 3).trans rfl
     go_wp2_with (first | ((with_reducible refine gate_callee (f := 63) rfl ?_); refine gl (some 34) Tryz.func63 #[.agg #[.slice A0_0 l0_0.length c0_0, .slice A0_1 l0_1.length c0_1], .int .i64 a1_1, .int .i64 a1_2, .int .i64 a2, .int .i64 (wrap64 ((wrap64 (x13_1 * 7)) + a4))] ?_; (with_reducible refine (spec_l07Descend.calls k1 _ _ l0_0 _ _ l0_1 a1_1 a1_2 a2 (wrap64 ((wrap64 (x13_1 * 7)) + a4)) t252 false _ ?side1 ?side2 ?side3 ?side4 A10.out).mono ?_); (case side1 => exact (Kd.C_below HR0_0.out HB.out)); (case side2 => exact HC0_0.out); (case side3 => exact (Kd.C_below HR0_1.out HB.out)); (case side4 => exact HC0_1.out); rintro e w51 ⟨rfl, hb⟩; refine ⟨_, rfl, ?_⟩; have n0_ := Aside0.mk (blk_below (by exact BK250.out) hb); have n1_ := Aside0.mk (blk_below (by exact BK251.out) hb); have n2_ := Aside0.mk (below_step (by repeat first | exact HB.out | apply pw_below_drewN) hb); clear BK250; clear BK251; clear HB; have BK250 := n0_; have BK251 := n1_; have HB := n2_; clear n0_ n1_ n2_; (try clear hb); (try clear hb2); (try clear hk); (try clear hi)))
     go_ret
     exact ⟨by first | rfl | (simp [*, errW_none, errW_some] <;> rfl), by repeat first | exact HB.out | apply pw_below_drewN⟩
   ·rw [if_neg c9] at H
    have c9b0 : decide (x13_1 < 30) = false := decide_eq_false c9
    clear c9
    obtain rfl := Option.some.inj H
    go_wp2
    go_ret
    exact ⟨by first | rfl | (simp [*, errW_none, errW_some] <;> rfl), by repeat first | exact HB.out | apply pw_below_drewN⟩

/-! ### spec_l08Whole: function 23 -/
def spec_l08Whole.l0 : Nat → Int → Int → List Int → Int → List (S72) → List (S68) → Int → Int → Int → Bool → Option (List Int)
 | 0, _, _, _, _, _, _, _, _, _, _ => none
 | k + 1, x2, x3, x9, x10, x259000, x259001, x260000, x260001, x260002, x260003 => if x10 < x3 then ((spec_l08Find.f k x259000 x259001 x260000 x260001 x260002 x260003 x2 x9 x10 ([] : List Int)).bind fun t263 => (if x9.length < 17592186044416 then (spec_l08Whole.l0 k x2 x3 (x9 ++ [t263]) (wrap64 (x10 + 1)) x259000 x259001 x260000 x260001 x260002 x260003) else (none))) else (some x9)
def spec_l08Whole.f (k : Nat) (l0_0 : List (S72)) (l0_1 : List (S68)) (a1_0 : Int) (a1_1 : Int) (a1_2 : Int) (a1_3 : Bool) (a2 : Int) (a3 : Int) : Option (List Int) := spec_l08Whole.l0 k a2 a3 (([] : List Int)) 0 l0_0 l0_1 a1_0 a1_1 a1_2 a1_3
set_option maxHeartbeats 8000000 in
set_option maxRecDepth 100000 in
theorem spec_l08Whole.calls (k : Nat) (A0_0 : Option Addr) (c0_0 : Nat) (l0_0 : List (S72)) (A0_1 : Option Addr) (c0_1 : Nat) (l0_1 : List (S68)) (a1_0 : Int) (a1_1 : Int) (a1_2 : Int) (a1_3 : Bool) (a2 : Int) (a3 : Int) (r : List Int) (w : World) (hr0_0 : Kd.C k72 w A0_0 l0_0.length l0_0) (hc0_0 : l0_0.length ≤ c0_0) (hr0_1 : Kd.C k68 w A0_1 l0_1.length l0_1) (hc0_1 : l0_1.length ≤ c0_1) (h : spec_l08Whole.f k l0_0 l0_1 a1_0 a1_1 a1_2 a1_3 a2 a3 = some r) :
  Calls Tryz.prog 23 #[.agg #[.slice A0_0 l0_0.length c0_0, .slice A0_1 l0_1.length c0_1], .agg #[.int .i64 a1_0, .int .i64 a1_1, .int .i64 a1_2, .bool a1_3], .int .i64 a2, .int .i64 a3] w fun e w' => ∃ v0_ : Value, e = .returned (v0_) ∧ Kd.R (Kd.int .i64) 2 w' w.heap.size (fun _ => True) v0_ r ∧ Below w.heap.size w w' := by
 have hu35 := Tryz.underlying35
 have hu37 := Tryz.underlying37
 have HR0_0 := Aside0.mk hr0_0
 have HC0_0 := Aside0.mk hc0_0
 clear hr0_0 hc0_0
 have HR0_1 := Aside0.mk hr0_1
 have HC0_1 := Aside0.mk hc0_1
 clear hr0_1 hc0_1
 have HB := Aside0.mk (Below.refl w.heap.size w)
 have H : (spec_l08Whole.l0 k a2 a3 (([] : List Int)) 0 l0_0 l0_1 a1_0 a1_1 a1_2 a1_3) = some r := h
 clear h
 obtain ⟨y260, hy260⟩ : ∃ y_ : List Int, y_ = (([] : List Int)) := ⟨_, rfl⟩
 replace H : (spec_l08Whole.l0 k a2 a3 y260 0 l0_0 l0_1 a1_0 a1_1 a1_2 a1_3) = some r := by first | (rw [hy260]; with_reducible exact H) | (have H2_ := (Option.bind_some _ _).symm.trans H; rw [hy260]; with_reducible exact H2_) | (have H2_ := (Option.bind_some _ _).symm.trans H; with_reducible exact H2_) | with_reducible exact H | (rw [hy260]; exact H) | exact H
 have Ny260 := Aside0.mk hy260
 clear hy260
 have H' := Aside0.mk H
 clear H
 go_enter Tryz.func23, Tryz.ntmps23
 go_wp2_with (first | ((with_reducible refine gate_dst (N := 4) rfl ?_); refine box_event ?hg (N := 4) ?hd (cs := #[.slice A0_0 l0_0.length c0_0, .slice A0_1 l0_1.length c0_1]) (t := 35) ?hr ?_; (case hd => rfl); (case hg => rfl); (case hr => first | (go_simp; done) | (go_simp; rfl)); intro gb258 hg w5 hbox hb; have n0_ := Aside0.mk (below_step (by repeat first | exact HB.out | apply pw_below_drewN) hb); have n1_ := Aside0.mk (hbox); clear HB; have HB := n0_; have BK258 := n1_; clear n0_ n1_; clear hb hbox hg) | ((with_reducible refine gate_dst (N := 5) rfl ?_); refine box_event ?hg (N := 5) ?hd (cs := #[.int .i64 a1_0, .int .i64 a1_1, .int .i64 a1_2, .bool a1_3]) (t := 37) ?hr ?_; (case hd => rfl); (case hg => rfl); (case hr => first | (go_simp; done) | (go_simp; rfl)); intro gb259 hg w6 hbox hb; have n0_ := Aside0.mk (blk_below (by exact BK258.out) hb); have n1_ := Aside0.mk (below_step (by repeat first | exact HB.out | apply pw_below_drewN) hb); have n2_ := Aside0.mk (hbox); clear BK258; clear HB; have BK258 := n0_; have HB := n1_; have BK259 := n2_; clear n0_ n1_ n2_; clear hb hbox hg) | ((with_reducible refine gate_dst (N := 11) rfl ?_); refine Kd.R_lit (Kd.int .i64) _ 2 ?hg (N := 11) ?hd (xs := ([] : List Int)) (inner := []) (ok := fun _ => True) (okp := fun _ => True) ?hr ?hp (fun _ hk => hk) trivial (Below.refl _ _) (Nat.le_refl _) (by simp) ?_; (case hd => rfl); (case hg => rfl); (case hr => first | (go_simp; done) | (go_simp; rfl)); (case hp => exact (Reps.none _ _)); intro v261 w7 ho8 hb hg_ hnew_; clear hg_ hnew_; (first | rw [← Ny260.out] at ho8 | (simp only [Int.reduceToNat] at ho8; rw [← Ny260.out] at ho8)); have n0_ := Aside0.mk (Kd.R_lower ho8 (below_size (by repeat first | exact HB.out | apply pw_below_drewN))); have n1_ := Aside0.mk (blk_below (by exact BK258.out) hb); have n2_ := Aside0.mk (blk_below (by exact BK259.out) hb); have n3_ := Aside0.mk (below_step (by repeat first | exact HB.out | apply pw_below_drewN) hb); clear BK258; clear BK259; clear HB; have HO262 := n0_; have BK258 := n1_; have BK259 := n2_; have HB := n3_; clear n0_ n1_ n2_ n3_; clear hb ho8))
 go_loopg [9, 10] k (fun kq v9 v10 w' => ∃ (x9_1 : List Int) (x10_1 : Int), v10 = .int .i64 x10_1 ∧ Aside0 (spec_l08Whole.l0 kq a2 a3 x9_1 x10_1 l0_0 l0_1 a1_0 a1_1 a1_2 a1_3 = some r) ∧ Aside0 (kq ≤ k) ∧ Aside0 (Kd.R (Kd.int .i64) 2 w' w.heap.size (fun _ => True) v9 x9_1) ∧ Aside0 (w'.heap[gb258]? = some (.cells #[(.slice A0_0 l0_0.length c0_0), (.slice A0_1 l0_1.length c0_1)] 35 (0, 0))) ∧ Aside0 (w'.heap[gb259]? = some (.cells #[.int .i64 a1_0, .int .i64 a1_1, .int .i64 a1_2, .bool a1_3] 37 (0, 0))) ∧ Aside0 (Below w.heap.size w w'))
 case atStart => exact ⟨(y260), (0), (by first | rfl | (simp; done) | (simp [*]; done)), H', ⟨Nat.le_refl _⟩, ⟨by (with_reducible repeat (first | apply Kd.R_alloc | apply Kd.R_drewN | apply Kd.R_drew)); exact HO262.out⟩, ⟨by exact BK258.out⟩, ⟨by exact BK259.out⟩, ⟨by repeat first | exact HB.out | apply pw_below_drewN⟩⟩
 case round =>
  clear H'
  try clear c2
  try clear p2
  obtain ⟨x9_1, x10_1, rfl, HA, HK1, HO_9, BK258, BK259, HB⟩ := hrel
  cases gk with
  | zero => exact absurd HA.out (by simp [spec_l08Whole.l0])
  | succ k1 =>
   have H := HA.out
   clear HA
   simp only [spec_l08Whole.l0] at H
   by_cases c9 : x10_1 < a3
   ·rw [if_pos c9] at H
    have c9b0 : decide (x10_1 < a3) = true := decide_eq_true c9
    clear c9
    replace H := Option.bind_eq_some_iff.mp H
    obtain ⟨t263, A100, H⟩ := H
    set_option simprocs false in try dsimp only at H
    have A10 := Aside0.mk A100
    clear A100
    by_cases c11 : x9_1.length < 17592186044416
    ·rw [if_pos c11] at H
     have LMc11 := Aside0.mk c11
     clear c11
     obtain ⟨y264, hy264⟩ : ∃ y_ : List Int, y_ = (x9_1 ++ [t263]) := ⟨_, rfl⟩
     replace H : (spec_l08Whole.l0 k1 a2 a3 y264 (wrap64 (x10_1 + 1)) l0_0 l0_1 a1_0 a1_1 a1_2 a1_3) = some r := by first | (rw [hy264]; with_reducible exact H) | (have H2_ := (Option.bind_some _ _).symm.trans H; rw [hy264]; with_reducible exact H2_) | (have H2_ := (Option.bind_some _ _).symm.trans H; with_reducible exact H2_) | with_reducible exact H | (rw [hy264]; exact H) | exact H
     have Ny264 := Aside0.mk hy264
     clear hy264
     have H' := Aside0.mk H
     clear H
     have hcz13_0 := (blk_cell BK258.out 0).trans rfl
     have hcz13_1 := (blk_cell BK258.out 1).trans rfl
     have hcz14_0 := (blk_cell BK259.out 0).trans rfl
     have hcz14_1 := (blk_cell BK259.out 1).trans rfl
     have hcz14_2 := (blk_cell BK259.out 2).trans rfl
     have hcz14_3 := (blk_cell BK259.out 3).trans rfl
     obtain ⟨Ao15, co15, eo15⟩ := Kd.R_slice HO_9.out
     subst eo15
     go_wp2_with (first | ((with_reducible refine gate_callee (f := 43) rfl ?_); refine gl (some 23) Tryz.func43 #[.agg #[.slice A0_0 l0_0.length c0_0, .slice A0_1 l0_1.length c0_1], .agg #[.int .i64 a1_0, .int .i64 a1_1, .int .i64 a1_2, .bool a1_3], .int .i64 a2, .slice Ao15 x9_1.length co15, .int .i64 x10_1, .slice none 0 0] ?_; (refine (spec_l08Find.calls k1 _ _ l0_0 _ _ l0_1 a1_0 a1_1 a1_2 a1_3 a2 _ _ x9_1 x10_1 _ _ ([] : List Int) t263 _ ?side1 ?side2 ?side3 ?side4 ?side5 ?side6 ?side7 ?side8 A10.out).mono ?_); (case side1 => exact (Kd.C_below HR0_0.out HB.out)); (case side2 => exact HC0_0.out); (case side3 => exact (Kd.C_below HR0_1.out HB.out)); (case side4 => exact HC0_1.out); (case side5 => exact (Kd.R_reads' HO_9.out).2.2); (case side6 => exact (Kd.R_reads' HO_9.out).2.1); (case side7 => exact Kd.C_nil _ _); (case side8 => exact Nat.le_refl _); rintro e w16 ⟨rfl, hb⟩; refine ⟨_, rfl, ?_⟩; have n0_ := Aside0.mk (Kd.R_below (by (with_reducible repeat (first | apply Kd.R_alloc | apply Kd.R_drewN | apply Kd.R_drew)); exact HO_9.out) hb); have n1_ := Aside0.mk (blk_below (by exact BK258.out) hb); have n2_ := Aside0.mk (blk_below (by exact BK259.out) hb); have n3_ := Aside0.mk (below_step (by repeat first | exact HB.out | apply pw_below_drewN) hb); clear HO_9; clear BK258; clear BK259; clear HB; have HO_9 := n0_; have BK258 := n1_; have BK259 := n2_; have HB := n3_; clear n0_ n1_ n2_ n3_; (try clear hb); (try clear hb2); (try clear hk); (try clear hi)) | ((with_reducible refine gate_builtin (b := .append) (xs := #[.tmp 17, .tmp 24]) rfl ?_); at_builtin; refine Kd.R_append (Kd.int .i64) (w0 := w) w.heap.size rfl (.tmp 17) (.tmp 24) 29 2 (.int .i64 0) 8 rfl Tryz.underlying29 info2 rfl (by decide) (by omega) (.slice Ao15 x9_1.length co15) x9_1 t263 [.int .i64 t263] (fun _ => True) (fun _ => False) rfl rfl ?aP (fun _ hk => hk.elim) ?aF ?aO ?aB ?aS ?aL ?_; (case aP => exact rfl); (case aB => exact (by repeat first | exact HB.out | apply pw_below_drewN)); (case aF => exact (fun _ _ => trivial)); (case aO => exact (by (with_reducible repeat (first | apply Kd.R_alloc | apply Kd.R_drewN | apply Kd.R_drew)); exact HO_9.out)); (case aS => exact (below_size (by repeat first | exact HB.out | apply pw_below_drewN))); (case aL => have := LMc11.out; omega); intro v265 w17 ho hb hg hat; rw [← Ny264.out] at ho; have n0_ := Aside0.mk (blk_grown (g := gb258) (o := .cells #[.slice A0_0 l0_0.length c0_0, .slice A0_1 l0_1.length c0_1] 35 (0, 0)) (by exact BK258.out) hg (Kd.R_ne HO_9.out BK258.out (by decide))); have n1_ := Aside0.mk (blk_grown (g := gb259) (o := .cells #[.int .i64 a1_0, .int .i64 a1_1, .int .i64 a1_2, .bool a1_3] 37 (0, 0)) (by exact BK259.out) hg (Kd.R_ne HO_9.out BK259.out (by decide))); have n2_ := Aside0.mk (hb); have n3_ := Aside0.mk (ho); clear BK258; clear BK259; clear HB; clear HO_9; have BK258 := n0_; have BK259 := n1_; have HB := n2_; have HO266 := n3_; clear n0_ n1_ n2_ n3_; clear ho hb hg hat))
     go_roundg k1
     case measure => have := HK1.out; omega
     case rel => exact ⟨(y264), (wrap64 (x10_1 + 1)), (by first | rfl | (simp; done) | (simp [*]; done)), H', ⟨by have := HK1.out; omega⟩, ⟨by (with_reducible repeat (first | apply Kd.R_alloc | apply Kd.R_drewN | apply Kd.R_drew)); exact HO266.out⟩, ⟨by exact BK258.out⟩, ⟨by exact BK259.out⟩, ⟨by repeat first | exact HB.out | apply pw_below_drewN⟩⟩
    ·rw [if_neg c11] at H
     exact absurd H (by simp)
   ·rw [if_neg c9] at H
    have c9b0 : decide (x10_1 < a3) = false := decide_eq_false c9
    clear c9
    obtain rfl := Option.some.inj H
    go_wp2
    go_ret
    exact ⟨_, by first | rfl | (simp [*, errW_none, errW_some] <;> rfl), by (with_reducible repeat (first | apply Kd.R_alloc | apply Kd.R_drewN | apply Kd.R_drew)); exact HO_9.out, by repeat first | exact HB.out | apply pw_below_drewN⟩

/-! ### spec_l00Own: function 71 -/
def spec_l00Own.f (l0 : List Int) : Option (List Int) := (some (([] : List Int) : List Int)).bind fun y437 => (if y437.length + l0.length < 17592186044416 then (some (y437 ++ l0)) else (none))
set_option maxHeartbeats 8000000 in
set_option maxRecDepth 100000 in
theorem spec_l00Own.calls (A0 : Option Addr) (c0 : Nat) (l0 : List Int) (r : List Int) (w : World) (hr0 : Kd.C (Kd.int .i64) w A0 l0.length l0) (hc0 : l0.length ≤ c0) (h : spec_l00Own.f l0 = some r) :
  Calls Tryz.prog 71 #[.slice A0 l0.length c0] w fun e w' => ∃ v0_ : Value, e = .returned (v0_) ∧ Kd.R (Kd.int .i64) 2 w' w.heap.size (fun _ => True) v0_ r ∧ Below w.heap.size w w' := by
 have HR0 := Aside0.mk hr0
 have HC0 := Aside0.mk hc0
 clear hr0 hc0
 have HB := Aside0.mk (Below.refl w.heap.size w)
 have H : ((some (([] : List Int) : List Int)).bind fun y437 => (if y437.length + l0.length < 17592186044416 then (some (y437 ++ l0)) else (none))) = some r := h
 clear h
 obtain ⟨y437, hy437⟩ : ∃ y_ : List Int, y_ = (([] : List Int)) := ⟨_, rfl⟩
 replace H : (if y437.length + l0.length < 17592186044416 then (some (y437 ++ l0)) else (none)) = some r := by first | (rw [hy437]; with_reducible exact H) | (have H2_ := (Option.bind_some _ _).symm.trans H; rw [hy437]; with_reducible exact H2_) | (have H2_ := (Option.bind_some _ _).symm.trans H; with_reducible exact H2_) | with_reducible exact H | (rw [hy437]; exact H) | exact H
 have Ny437 := Aside0.mk hy437
 clear hy437
 by_cases c2 : y437.length + l0.length < 17592186044416
 ·rw [if_pos c2] at H
  have LMc2 := Aside0.mk c2
  clear c2
  obtain ⟨y440, hy440⟩ : ∃ y_ : List Int, y_ = (y437 ++ l0) := ⟨_, rfl⟩
  replace H : (some y440) = some r := by first | (rw [hy440]; with_reducible exact H) | (have H2_ := (Option.bind_some _ _).symm.trans H; rw [hy440]; with_reducible exact H2_) | (have H2_ := (Option.bind_some _ _).symm.trans H; with_reducible exact H2_) | with_reducible exact H | (rw [hy440]; exact H) | exact H
  have Ny440 := Aside0.mk hy440
  clear hy440
  obtain rfl := Option.some.inj H
  go_enter Tryz.func71, Tryz.ntmps71
  go_wp2_with (first | ((with_reducible refine gate_dst (N := 3) rfl ?_); refine Kd.R_lit (Kd.int .i64) _ 2 ?hg (N := 3) ?hd (xs := ([] : List Int)) (inner := []) (ok := fun _ => True) (okp := fun _ => True) ?hr ?hp (fun _ hk => hk) trivial (Below.refl _ _) (Nat.le_refl _) (by simp) ?_; (case hd => rfl); (case hg => rfl); (case hr => first | (go_simp; done) | (go_simp; rfl)); (case hp => exact (Reps.none _ _)); intro v438 w3 ho4 hb hg_ hnew_; clear hg_ hnew_; (first | rw [← Ny437.out] at ho4 | (simp only [Int.reduceToNat] at ho4; rw [← Ny437.out] at ho4)); have n0_ := Aside0.mk (Kd.R_lower ho4 (below_size (by repeat first | exact HB.out | apply pw_below_drewN))); have n1_ := Aside0.mk (below_step (by repeat first | exact HB.out | apply pw_below_drewN) hb); clear HB; have HO439 := n0_; have HB := n1_; clear n0_ n1_; clear hb ho4) | ((with_reducible refine gate_builtin (b := .append) (xs := #[.tmp 3, .tmp 4]) rfl ?_); at_builtin; refine Kd.R_append_rows (Kd.int .i64) (w0 := w) w.heap.size rfl (.tmp 3) (.tmp 4) 29 2 (.int .i64 0) 8 rfl Tryz.underlying29 info2 rfl (by decide) (by omega) v438 y437 l0 _ _ _ (fun _ => True) (fun _ => False) rfl rfl ?aO ?aR (fun _ _ h => h) (fun _ h => h.elim) ?aF ?aB ?aS ?aL ?_; (case aR => repeat (first | exact (Kd.C_below HR0.out HB.out) | (with_reducible refine Kd.C_alloc ?_ _) | (with_reducible refine Kd.C_drewN ?_ _) | (with_reducible refine Kd.C_drew ?_))); (case aB => exact (by repeat first | exact HB.out | apply pw_below_drewN)); (case aF => exact (fun _ _ => trivial)); (case aO => exact (by (with_reducible repeat (first | apply Kd.R_alloc | apply Kd.R_drewN | apply Kd.R_drew)); exact HO439.out)); (case aS => exact (below_size (by repeat first | exact HB.out | apply pw_below_drewN))); (case aL => have := LMc2.out; omega); intro v441 w5 ho hb hg hat; rw [← Ny440.out] at ho; have n0_ := Aside0.mk (hb); have n1_ := Aside0.mk (ho); clear HB; clear HO439; have HB := n0_; have HO442 := n1_; clear n0_ n1_; clear ho hb hg hat))
  go_ret
  exact ⟨_, by first | rfl | (simp [*, errW_none, errW_some] <;> rfl), by (with_reducible repeat (first | apply Kd.R_alloc | apply Kd.R_drewN | apply Kd.R_drew)); exact HO442.out, by repeat first | exact HB.out | apply pw_below_drewN⟩
 ·rw [if_neg c2] at H
  exact absurd H (by simp)

/-! ### spec_l08Instead: function 52 -/
def spec_l08Instead.l0 : Nat → Int → List Int → List Int → Int → List (S72) → List (S68) → Int → Int → Int → Bool → Option (List Int)
 | 0, _, _, _, _, _, _, _, _, _, _ => none
 | k + 1, x2, x3, x4, x11, x444000, x444001, x445000, x445001, x445002, x445003 => if x11 < (x3.length : Int) then (if 0 ≤ x11 then (if (rd x3 x11) ≥ 0 then ((spec_l00Has.f k x4 (rd x3 x11)).bind fun t450 => (if t450 = true then ((spec_l08Find.f k x444000 x444001 x445000 x445001 x445002 x445003 x2 x3 x11 x4).bind fun t451 => (spec_l08Instead.l0 k x2 (x3.set (x11 : Int).toNat t451) x4 (wrap64 (x11 + 1)) x444000 x444001 x445000 x445001 x445002 x445003)) else (spec_l08Instead.l0 k x2 x3 x4 (wrap64 (x11 + 1)) x444000 x444001 x445000 x445001 x445002 x445003))) else (spec_l08Instead.l0 k x2 x3 x4 (wrap64 (x11 + 1)) x444000 x444001 x445000 x445001 x445002 x445003)) else (none)) else (some x3)
def spec_l08Instead.f (k : Nat) (l0_0 : List (S72)) (l0_1 : List (S68)) (a1_0 : Int) (a1_1 : Int) (a1_2 : Int) (a1_3 : Bool) (a2 : Int) (l3 : List Int) (l4 : List Int) : Option (List Int) := (spec_l00Own.f l3).bind fun t445 => (spec_l08Instead.l0 k a2 t445 l4 0 l0_0 l0_1 a1_0 a1_1 a1_2 a1_3)
set_option maxHeartbeats 8000000 in
set_option maxRecDepth 100000 in
theorem spec_l08Instead.calls (k : Nat) (A0_0 : Option Addr) (c0_0 : Nat) (l0_0 : List (S72)) (A0_1 : Option Addr) (c0_1 : Nat) (l0_1 : List (S68)) (a1_0 : Int) (a1_1 : Int) (a1_2 : Int) (a1_3 : Bool) (a2 : Int) (A3 : Option Addr) (c3 : Nat) (l3 : List Int) (A4 : Option Addr) (c4 : Nat) (l4 : List Int) (r : List Int) (w : World) (hr0_0 : Kd.C k72 w A0_0 l0_0.length l0_0) (hc0_0 : l0_0.length ≤ c0_0) (hr0_1 : Kd.C k68 w A0_1 l0_1.length l0_1) (hc0_1 : l0_1.length ≤ c0_1) (hr3 : Kd.C (Kd.int .i64) w A3 l3.length l3) (hc3 : l3.length ≤ c3) (hr4 : Kd.C (Kd.int .i64) w A4 l4.length l4) (hc4 : l4.length ≤ c4) (h : spec_l08Instead.f k l0_0 l0_1 a1_0 a1_1 a1_2 a1_3 a2 l3 l4 = some r) :
  Calls Tryz.prog 52 #[.agg #[.slice A0_0 l0_0.length c0_0, .slice A0_1 l0_1.length c0_1], .agg #[.int .i64 a1_0, .int .i64 a1_1, .int .i64 a1_2, .bool a1_3], .int .i64 a2, .slice A3 l3.length c3, .slice A4 l4.length c4] w fun e w' => ∃ v0_ : Value, e = .returned (v0_) ∧ Kd.R (Kd.int .i64) 2 w' w.heap.size (fun _ => True) v0_ r ∧ Below w.heap.size w w' := by
 have hu35 := Tryz.underlying35
 have hu37 := Tryz.underlying37
 have HR0_0 := Aside0.mk hr0_0
 have HC0_0 := Aside0.mk hc0_0
 clear hr0_0 hc0_0
 have HR0_1 := Aside0.mk hr0_1
 have HC0_1 := Aside0.mk hc0_1
 clear hr0_1 hc0_1
 have HR3 := Aside0.mk hr3
 have HC3 := Aside0.mk hc3
 clear hr3 hc3
 have HR4 := Aside0.mk hr4
 have HC4 := Aside0.mk hc4
 clear hr4 hc4
 have HB := Aside0.mk (Below.refl w.heap.size w)
 have H : ((spec_l00Own.f l3).bind fun t445 => (spec_l08Instead.l0 k a2 t445 l4 0 l0_0 l0_1 a1_0 a1_1 a1_2 a1_3)) = some r := h
 clear h
 replace H := Option.bind_eq_some_iff.mp H
 obtain ⟨t445, A60, H⟩ := H
 set_option simprocs false in try dsimp only at H
 have A6 := Aside0.mk A60
 clear A60
 have H' := Aside0.mk H
 clear H
 go_enter Tryz.func52, Tryz.ntmps52
 go_wp2_with (first | ((with_reducible refine gate_dst (N := 5) rfl ?_); refine box_event ?hg (N := 5) ?hd (cs := #[.slice A0_0 l0_0.length c0_0, .slice A0_1 l0_1.length c0_1]) (t := 35) ?hr ?_; (case hd => rfl); (case hg => rfl); (case hr => first | (go_simp; done) | (go_simp; rfl)); intro gb443 hg w7 hbox hb; have n0_ := Aside0.mk (below_step (by repeat first | exact HB.out | apply pw_below_drewN) hb); have n1_ := Aside0.mk (hbox); have n2_ := Aside0.mk ((by rw [hg]; exact (below_size (by repeat first | exact HB.out | apply pw_below_drewN)) : w.heap.size ≤ gb443)); have n3_ := Aside0.mk ((by rw [hg]; exact (below_size (by repeat first | exact HB.out | apply pw_below_drewN)) : w.heap.size ≤ gb443)); clear HB; have HB := n0_; have BK443 := n1_; have GW443 := n2_; have GE443 := n3_; clear n0_ n1_ n2_ n3_; clear hb hbox hg) | ((with_reducible refine gate_dst (N := 6) rfl ?_); refine box_event ?hg (N := 6) ?hd (cs := #[.int .i64 a1_0, .int .i64 a1_1, .int .i64 a1_2, .bool a1_3]) (t := 37) ?hr ?_; (case hd => rfl); (case hg => rfl); (case hr => first | (go_simp; done) | (go_simp; rfl)); intro gb444 hg w8 hbox hb; have n0_ := Aside0.mk (blk_below (by exact BK443.out) hb); have n1_ := Aside0.mk (below_step (by repeat first | exact HB.out | apply pw_below_drewN) hb); have n2_ := Aside0.mk (hbox); have n3_ := Aside0.mk ((by rw [hg]; exact (below_size (by repeat first | exact HB.out | apply pw_below_drewN)) : w.heap.size ≤ gb444)); have n4_ := Aside0.mk ((by rw [hg]; exact (below_size (by repeat first | exact HB.out | apply pw_below_drewN)) : w.heap.size ≤ gb444)); have n5_ := Aside0.mk ((by rw [hg]; exact Nat.ne_of_lt (blk_lt (g := gb443) (o := .cells #[.slice A0_0 l0_0.length c0_0, .slice A0_1 l0_1.length c0_1] 35 (0, 0)) (by exact BK443.out)) : gb443 ≠ gb444)); have n6_ := Aside0.mk ((by rw [hg]; exact Nat.ne_of_gt (blk_lt (g := gb443) (o := .cells #[.slice A0_0 l0_0.length c0_0, .slice A0_1 l0_1.length c0_1] 35 (0, 0)) (by exact BK443.out)) : gb444 ≠ gb443)); clear BK443; clear HB; have BK443 := n0_; have HB := n1_; have BK444 := n2_; have GW444 := n3_; have GE444 := n4_; have NB443_444 := n5_; have NB444_443 := n6_; clear n0_ n1_ n2_ n3_ n4_ n5_ n6_; clear hb hbox hg) | ((with_reducible refine gate_callee (f := 71) rfl ?_); refine gl (some 13) Tryz.func71 #[.slice A3 l3.length c3] ?_; (with_reducible refine (spec_l00Own.calls _ _ l3 t445 _ ?side1 ?side2 A6.out).mono ?_); (case side1 => exact (Kd.C_below HR3.out HB.out)); (case side2 => exact HC3.out); rintro e w9 ⟨v446, rfl, ho0, hb⟩; refine ⟨_, rfl, ?_⟩; have n0_ := Aside0.mk (Kd.R_lower ho0 (below_size (by repeat first | exact HB.out | apply pw_below_drewN))); have n1_ := Aside0.mk (blk_below (by exact BK443.out) hb); have n2_ := Aside0.mk (blk_below (by exact BK444.out) hb); have n3_ := Aside0.mk (below_step (by repeat first | exact HB.out | apply pw_below_drewN) hb); clear BK443; clear BK444; clear HB; have HO447 := n0_; have BK443 := n1_; have BK444 := n2_; have HB := n3_; clear n0_ n1_ n2_ n3_; (try clear hb); (try clear hb2); (try clear hk); (try clear hi); (try clear ho0)))
 go_loopg [11] k (fun kq v11 w' => ∃ (x3_1 : List Int) (x11_1 : Int), v11 = .int .i64 x11_1 ∧ Aside0 (spec_l08Instead.l0 kq a2 x3_1 l4 x11_1 l0_0 l0_1 a1_0 a1_1 a1_2 a1_3 = some r) ∧ Aside0 (kq ≤ k) ∧ Aside0 (Kd.R (Kd.int .i64) 2 w' w.heap.size (fun _ => True) v446 x3_1) ∧ Aside0 (w'.heap[gb443]? = some (.cells #[(.slice A0_0 l0_0.length c0_0), (.slice A0_1 l0_1.length c0_1)] 35 (0, 0))) ∧ Aside0 (w'.heap[gb444]? = some (.cells #[.int .i64 a1_0, .int .i64 a1_1, .int .i64 a1_2, .bool a1_3] 37 (0, 0))) ∧ Aside0 (Below w.heap.size w w'))
 case atStart => exact ⟨(t445), (0), (by first | rfl | (simp; done) | (simp [*]; done)), H', ⟨Nat.le_refl _⟩, ⟨by (with_reducible repeat (first | apply Kd.R_alloc | apply Kd.R_drewN | apply Kd.R_drew)); exact HO447.out⟩, ⟨by exact BK443.out⟩, ⟨by exact BK444.out⟩, ⟨by repeat first | exact HB.out | apply pw_below_drewN⟩⟩
 case round =>
  clear H'
  try clear p2
  try clear c3
  try clear c4
  try clear c5
  try clear c7
  obtain ⟨x3_1, x11_1, rfl, HA, HK1, HO_3, BK443, BK444, HB⟩ := hrel
  cases gk with
  | zero => exact absurd HA.out (by simp [spec_l08Instead.l0])
  | succ k1 =>
   have H := HA.out
   clear HA
   simp only [spec_l08Instead.l0] at H
   by_cases c10 : x11_1 < (x3_1.length : Int)
   ·rw [if_pos c10] at H
    have c10b0 : decide (x11_1 < (x3_1.length : Int)) = true := decide_eq_true c10
    clear c10
    by_cases c11 : 0 ≤ x11_1
    ·rw [if_pos c11] at H
     have c11b0 : decide (0 ≤ x11_1) = true := decide_eq_true c11
     clear c11
     by_cases c12 : (rd x3_1 x11_1) ≥ 0
     ·rw [if_pos c12] at H
      have c12b0 : decide (0 ≤ (rd x3_1 x11_1)) = true := decide_eq_true c12
      clear c12
      replace H := Option.bind_eq_some_iff.mp H
      obtain ⟨t450, A130, H⟩ := H
      set_option simprocs false in try dsimp only at H
      have A13 := Aside0.mk A130
      clear A130
      by_cases c14 : t450 = true
      ·subst c14
       rw [if_pos rfl] at H
       replace H := Option.bind_eq_some_iff.mp H
       obtain ⟨t451, A150, H⟩ := H
       set_option simprocs false in try dsimp only at H
       have A15 := Aside0.mk A150
       clear A150
       obtain ⟨y452, hy452⟩ : ∃ y_ : List Int, y_ = (x3_1.set (x11_1 : Int).toNat t451) := ⟨_, rfl⟩
       replace H : (spec_l08Instead.l0 k1 a2 y452 l4 (wrap64 (x11_1 + 1)) l0_0 l0_1 a1_0 a1_1 a1_2 a1_3) = some r := by first | (rw [hy452]; with_reducible exact H) | (have H2_ := (Option.bind_some _ _).symm.trans H; rw [hy452]; with_reducible exact H2_) | (have H2_ := (Option.bind_some _ _).symm.trans H; with_reducible exact H2_) | with_reducible exact H | (rw [hy452]; exact H) | exact H
       have Ny452 := Aside0.mk hy452
       clear hy452
       have H' := Aside0.mk H
       clear H
       obtain ⟨Ao17, co17, eo17⟩ := Kd.R_slice HO_3.out
       subst eo17
       have p448 : 0 ≤ (x11_1 : Int) := of_decide_eq_true (by assumption)
       have q448 : x11_1 < (x3_1.length : Int) := of_decide_eq_true (by assumption)
       obtain ⟨ad448, e448, hx448_0⟩ := Kd.at_int (Kd.R_reads' HO_3.out).2.2 x11_1 p448 q448
       cases e448
       replace p448 := eq_true p448
       replace q448 := eq_true q448
       have p449 : 0 ≤ (x11_1 : Int) := of_decide_eq_true (by assumption)
       have q449 : x11_1 < (x3_1.length : Int) := of_decide_eq_true (by assumption)
       obtain ⟨ad449, e449, hx449_0⟩ := Kd.at_int (Kd.R_reads' HO_3.out).2.2 x11_1 p449 q449
       obtain rfl : ad448 = ad449 := (by injection e449)
       replace p449 := eq_true p449
       replace q449 := eq_true q449
       go_wp2_with (first | (go_at_call 60; (with_reducible refine (spec_l00Has.calls k1 _ _ l4 (rd x3_1 x11_1) true _ ?side1 ?side2 A13.out).mono ?_); (case side1 => exact (Kd.C_below HR4.out HB.out)); (case side2 => exact HC4.out); rintro e w' ⟨rfl, ⟨nd, rfl⟩⟩; (try (rw [drewN_self wr]; generalize hq_ : World.drewN wr _ = wr; have n0_ : Aside0 (Kd.R (Kd.int .i64) 2 wr w.heap.size (fun _ => True) (.slice (some ad448) x3_1.length co17) x3_1) := ⟨by rw [← hq_]; exact (by (with_reducible repeat (first | apply Kd.R_alloc | apply Kd.R_drewN | apply Kd.R_drew)); exact HO_3.out)⟩; have n1_ : Aside0 (wr.heap[gb443]? = some (.cells #[.slice A0_0 l0_0.length c0_0, .slice A0_1 l0_1.length c0_1] 35 (0, 0))) := ⟨by rw [← hq_]; exact (by exact BK443.out)⟩; have n2_ : Aside0 (wr.heap[gb444]? = some (.cells #[.int .i64 a1_0, .int .i64 a1_1, .int .i64 a1_2, .bool a1_3] 37 (0, 0))) := ⟨by rw [← hq_]; exact (by exact BK444.out)⟩; have n3_ : Aside0 (Below w.heap.size w wr) := ⟨by rw [← hq_]; exact (by repeat first | exact HB.out | apply pw_below_drewN)⟩; clear HO_3 BK443 BK444 HB hq_; have HO_3 := n0_; have BK443 := n1_; have BK444 := n2_; have HB := n3_; clear n0_ n1_ n2_ n3_)); have hnb18 := NB443_444.out; have hnc18 := NB444_443.out; have hcz19_0 := (blk_cell BK443.out 0).trans rfl; have hcz19_1 := (blk_cell BK443.out 1).trans rfl; have hcz20_0 := (blk_cell BK444.out 0).trans rfl; have hcz20_1 := (blk_cell BK444.out 1).trans rfl; have hcz20_2 := (blk_cell BK444.out 2).trans rfl; have hcz20_3 := (blk_cell BK444.out 3).trans rfl) | ((with_reducible refine gate_callee (f := 43) rfl ?_); refine gl (some 41) Tryz.func43 #[.agg #[.slice A0_0 l0_0.length c0_0, .slice A0_1 l0_1.length c0_1], .agg #[.int .i64 a1_0, .int .i64 a1_1, .int .i64 a1_2, .bool a1_3], .int .i64 a2, .slice (some ad448) x3_1.length co17, .int .i64 x11_1, .slice A4 l4.length c4] ?_; (with_reducible refine (spec_l08Find.calls k1 _ _ l0_0 _ _ l0_1 a1_0 a1_1 a1_2 a1_3 a2 _ _ x3_1 x11_1 _ _ l4 t451 _ ?side1 ?side2 ?side3 ?side4 ?side5 ?side6 ?side7 ?side8 A15.out).mono ?_); (case side1 => exact (Kd.C_below HR0_0.out HB.out)); (case side2 => exact HC0_0.out); (case side3 => exact (Kd.C_below HR0_1.out HB.out)); (case side4 => exact HC0_1.out); (case side5 => exact (Kd.R_reads' HO_3.out).2.2); (case side6 => exact (Kd.R_reads' HO_3.out).2.1); (case side7 => exact (Kd.C_below HR4.out HB.out)); (case side8 => exact HC4.out); rintro e w21 ⟨rfl, hb⟩; refine ⟨_, rfl, ?_⟩; have n0_ := Aside0.mk (Kd.R_below (by (with_reducible repeat (first | apply Kd.R_alloc | apply Kd.R_drewN | apply Kd.R_drew)); exact HO_3.out) hb); have n1_ := Aside0.mk (blk_below (by exact BK443.out) hb); have n2_ := Aside0.mk (blk_below (by exact BK444.out) hb); have n3_ := Aside0.mk (below_step (by repeat first | exact HB.out | apply pw_below_drewN) hb); clear HO_3; clear BK443; clear BK444; clear HB; have HO_3 := n0_; have BK443 := n1_; have BK444 := n2_; have HB := n3_; clear n0_ n1_ n2_ n3_; (try clear hb); (try clear hb2); (try clear hk); (try clear hi); have p16 : 0 ≤ (x11_1 : Int) := of_decide_eq_true (by assumption); have q16 : (x11_1 : Int) < ((x3_1.length : Int) : Int) := of_decide_eq_true (by assumption); obtain ⟨go16, co16, eo16, gb16, gl16, cl16, HG16⟩ := Kd.R_form HO_3.out (by omega); (first | cases eo16 | (injection eo16 with ea_ en_ ec_; (first | subst ea_ | (injection ea_ with ea_; subst ea_)); subst ec_; clear en_)); have GB16 := Aside0.mk gb16; have GG16 := Aside0.mk HG16; clear gb16 gl16 HG16; (first | simp only [add_plain] at hx448_0 | skip); (first | simp only [add_plain] at hx449_0 | skip); obtain ⟨hx16_0, hf16_0⟩ := Kd.R_celln 0 HO_3.out (x11_1 : Int) p16 q16; replace p16 := eq_true p16; replace q16 := eq_true q16; obtain ⟨hy22_, hz22_⟩ := Kd.R_celln 0 HO_3.out (x11_1 : Int) (of_decide_eq_true (by assumption)) (of_decide_eq_true (by assumption)); have HP22 := Kd.R_putg HO_3.out (x11_1 : Int) t451) | ((with_reducible refine gate_store (t := 2) (p := 42) rfl ?_); refine store_event (t := 2) (p := 42) (v := ?vo_w23) (w1 := (w21.setCell ⟨go16, (x11_1 : Int).toNat, none⟩ (.int .i64 t451))) ?hg ?ho ?hn ?hr ?_; (case ho => rfl); (case hg => rfl); (case hn => rfl); (case hr => first | (go_simp; done) | (go_simp; rfl)); intro w23 hw; have hg : w21.grownBy w23 (some go16) := (by rw [hw]; exact HP22.2); have hp_ : Kd.R (Kd.int .i64) 2 w23 w.heap.size (fun _ => True) (.slice (some ⟨go16, 0, none⟩) x3_1.length co17) y452 := (by rw [hw, Ny452.out]; exact HP22.1); clear HP22; have n0_ := Aside0.mk (hp_); have n1_ := Aside0.mk (blk_grown (g := gb443) (o := .cells #[.slice A0_0 l0_0.length c0_0, .slice A0_1 l0_1.length c0_1] 35 (0, 0)) (by exact BK443.out) hg (Kd.R_ne HO_3.out BK443.out (by decide))); have n2_ := Aside0.mk (blk_grown (g := gb444) (o := .cells #[.int .i64 a1_0, .int .i64 a1_1, .int .i64 a1_2, .bool a1_3] 37 (0, 0)) (by exact BK444.out) hg (Kd.R_ne HO_3.out BK444.out (by decide))); have n3_ := Aside0.mk ((by rw [hw]; exact below_set (HB.out) GB16.out : Below w.heap.size w w23)); clear HO_3; clear BK443; clear BK444; clear HB; have HO_3 := n0_; have BK443 := n1_; have BK444 := n2_; have HB := n3_; clear n0_ n1_ n2_ n3_; clear hg hw hp_))
       go_roundg k1
       case measure => have := HK1.out; omega
       case rel => exact ⟨(y452), (wrap64 (x11_1 + 1)), (by first | rfl | (simp; done) | (simp [*]; done)), H', ⟨by have := HK1.out; omega⟩, ⟨by (with_reducible repeat (first | apply Kd.R_alloc | apply Kd.R_drewN | apply Kd.R_drew)); exact HO_3.out⟩, ⟨by exact BK443.out⟩, ⟨by exact BK444.out⟩, ⟨by repeat first | exact HB.out | apply pw_below_drewN⟩⟩
      ·replace c14 := Bool.eq_false_iff.mpr c14
       subst c14
       rw [if_neg (show ¬ (false = true) by decide)] at H
       have H' := Aside0.mk H
       clear H
       obtain ⟨Ao24, co24, eo24⟩ := Kd.R_slice HO_3.out
       subst eo24
       have p448 : 0 ≤ (x11_1 : Int) := of_decide_eq_true (by assumption)
       have q448 : x11_1 < (x3_1.length : Int) := of_decide_eq_true (by assumption)
       obtain ⟨ad448, e448, hx448_0⟩ := Kd.at_int (Kd.R_reads' HO_3.out).2.2 x11_1 p448 q448
       cases e448
       replace p448 := eq_true p448
       replace q448 := eq_true q448
       have p449 : 0 ≤ (x11_1 : Int) := of_decide_eq_true (by assumption)
       have q449 : x11_1 < (x3_1.length : Int) := of_decide_eq_true (by assumption)
       obtain ⟨ad449, e449, hx449_0⟩ := Kd.at_int (Kd.R_reads' HO_3.out).2.2 x11_1 p449 q449
       obtain rfl : ad448 = ad449 := (by injection e449)
       replace p449 := eq_true p449
       replace q449 := eq_true q449
       go_wp2_with (first | (go_at_call 60; (with_reducible refine (spec_l00Has.calls k1 _ _ l4 (rd x3_1 x11_1) false _ ?side1 ?side2 A13.out).mono ?_); (case side1 => exact (Kd.C_below HR4.out HB.out)); (case side2 => exact HC4.out); rintro e w' ⟨rfl, ⟨nd, rfl⟩⟩))
       go_roundg k1
       case measure => have := HK1.out; omega
       case rel => exact ⟨(x3_1), (wrap64 (x11_1 + 1)), (by first | rfl | (simp; done) | (simp [*]; done)), H', ⟨by have := HK1.out; omega⟩, ⟨by (with_reducible repeat (first | apply Kd.R_alloc | apply Kd.R_drewN | apply Kd.R_drew)); exact HO_3.out⟩, ⟨by exact BK443.out⟩, ⟨by exact BK444.out⟩, ⟨by repeat first | exact HB.out | apply pw_below_drewN⟩⟩
     ·rw [if_neg c12] at H
      have c12b0 : decide (0 ≤ (rd x3_1 x11_1)) = false := decide_eq_false c12
      clear c12
      have H' := Aside0.mk H
      clear H
      obtain ⟨Ao25, co25, eo25⟩ := Kd.R_slice HO_3.out
      subst eo25
      have p448 : 0 ≤ (x11_1 : Int) := of_decide_eq_true (by assumption)
      have q448 : x11_1 < (x3_1.length : Int) := of_decide_eq_true (by assumption)
      obtain ⟨ad448, e448, hx448_0⟩ := Kd.at_int (Kd.R_reads' HO_3.out).2.2 x11_1 p448 q448
      cases e448
      replace p448 := eq_true p448
      replace q448 := eq_true q448
      go_wp2
      go_roundg k1
      case measure => have := HK1.out; omega
      case rel => exact ⟨(x3_1), (wrap64 (x11_1 + 1)), (by first | rfl | (simp; done) | (simp [*]; done)), H', ⟨by have := HK1.out; omega⟩, ⟨by (with_reducible repeat (first | apply Kd.R_alloc | apply Kd.R_drewN | apply Kd.R_drew)); exact HO_3.out⟩, ⟨by exact BK443.out⟩, ⟨by exact BK444.out⟩, ⟨by repeat first | exact HB.out | apply pw_below_drewN⟩⟩
    ·rw [if_neg c11] at H
     exact absurd H (by simp)
   ·rw [if_neg c10] at H
    have c10b0 : decide (x11_1 < (x3_1.length : Int)) = false := decide_eq_false c10
    clear c10
    obtain rfl := Option.some.inj H
    obtain ⟨Ao26, co26, eo26⟩ := Kd.R_slice HO_3.out
    subst eo26
    go_wp2
    go_ret
    exact ⟨_, by first | rfl | (simp [*, errW_none, errW_some] <;> rfl), by (with_reducible repeat (first | apply Kd.R_alloc | apply Kd.R_drewN | apply Kd.R_drew)); exact HO_3.out, by repeat first | exact HB.out | apply pw_below_drewN⟩

/-! ### spec_l08Front: function 53 -/
mutual
def spec_l08Front.l0 : Nat → List Int → List Int → Int → Option (List Int)
 | 0, _, _, _ => none
 | k + 1, x0, x3, x4 => if x4 < (x0.length : Int) then (if 0 ≤ x4 then (if (rd x0 x4) ≥ 0 then (if x3.length < 17592186044416 then (spec_l08Front.l0 k x0 (x3 ++ [rd x0 x4]) (wrap64 (x4 + 1))) else (none)) else (spec_l08Front.l0 k x0 x3 (wrap64 (x4 + 1)))) else (none)) else (spec_l08Front.l1 k x0 x3)
def spec_l08Front.l1 : Nat → List Int → List Int → Option (List Int)
 | 0, _, _ => none
 | k + 1, x0, x3 => if (x3.length : Int) < (x0.length : Int) then (if x3.length < 17592186044416 then (spec_l08Front.l1 k x0 (x3 ++ [(-1)])) else (none)) else (some x3)
end
def spec_l08Front.f (k : Nat) (l0 : List Int) : Option (List Int) := spec_l08Front.l0 k l0 (([] : List Int)) 0
set_option maxHeartbeats 8000000 in
set_option maxRecDepth 100000 in
theorem spec_l08Front.calls (k : Nat) (A0 : Option Addr) (c0 : Nat) (l0 : List Int) (r : List Int) (w : World) (hr0 : Kd.C (Kd.int .i64) w A0 l0.length l0) (hc0 : l0.length ≤ c0) (h : spec_l08Front.f k l0 = some r) :
  Calls Tryz.prog 53 #[.slice A0 l0.length c0] w fun e w' => ∃ v0_ : Value, e = .returned (v0_) ∧ Kd.R (Kd.int .i64) 2 w' w.heap.size (fun _ => True) v0_ r ∧ Below w.heap.size w w' := by
 have HR0 := Aside0.mk hr0
 have HC0 := Aside0.mk hc0
 clear hr0 hc0
 have HB := Aside0.mk (Below.refl w.heap.size w)
 have H : (spec_l08Front.l0 k l0 (([] : List Int)) 0) = some r := h
 clear h
 obtain ⟨y453, hy453⟩ : ∃ y_ : List Int, y_ = (([] : List Int)) := ⟨_, rfl⟩
 replace H : (spec_l08Front.l0 k l0 y453 0) = some r := by first | (rw [hy453]; with_reducible exact H) | (have H2_ := (Option.bind_some _ _).symm.trans H; rw [hy453]; with_reducible exact H2_) | (have H2_ := (Option.bind_some _ _).symm.trans H; with_reducible exact H2_) | with_reducible exact H | (rw [hy453]; exact H) | exact H
 have Ny453 := Aside0.mk hy453
 clear hy453
 have H' := Aside0.mk H
 clear H
 go_enter Tryz.func53, Tryz.ntmps53
 go_wp2_with (first | ((with_reducible refine gate_dst (N := 5) rfl ?_); refine Kd.R_lit (Kd.int .i64) _ 2 ?hg (N := 5) ?hd (xs := ([] : List Int)) (inner := []) (ok := fun _ => True) (okp := fun _ => True) ?hr ?hp (fun _ hk => hk) trivial (Below.refl _ _) (Nat.le_refl _) (by simp) ?_; (case hd => rfl); (case hg => rfl); (case hr => first | (go_simp; done) | (go_simp; rfl)); (case hp => exact (Reps.none _ _)); intro v454 w2 ho3 hb hg_ hnew_; clear hg_ hnew_; (first | rw [← Ny453.out] at ho3 | (simp only [Int.reduceToNat] at ho3; rw [← Ny453.out] at ho3)); have n0_ := Aside0.mk (Kd.R_lower ho3 (below_size (by repeat first | exact HB.out | apply pw_below_drewN))); have n1_ := Aside0.mk (below_step (by repeat first | exact HB.out | apply pw_below_drewN) hb); clear HB; have HO455 := n0_; have HB := n1_; clear n0_ n1_; clear hb ho3))
 go_loopg [3, 4] k (fun kq v3 v4 w' => ∃ (x3_1 : List Int) (x4_1 : Int), v4 = .int .i64 x4_1 ∧ Aside0 (spec_l08Front.l0 kq l0 x3_1 x4_1 = some r) ∧ Aside0 (kq ≤ k) ∧ Aside0 (Kd.R (Kd.int .i64) 2 w' w.heap.size (fun _ => True) v3 x3_1) ∧ Aside0 (Below w.heap.size w w'))
 case atStart => exact ⟨(y453), (0), (by first | rfl | (simp; done) | (simp [*]; done)), H', ⟨Nat.le_refl _⟩, ⟨by (with_reducible repeat (first | apply Kd.R_alloc | apply Kd.R_drewN | apply Kd.R_drew)); exact HO455.out⟩, ⟨by repeat first | exact HB.out | apply pw_below_drewN⟩⟩
 case round =>
  clear H'
  try clear p2
  obtain ⟨x3_1, x4_1, rfl, HA, HK1, HO_3, HB⟩ := hrel
  cases gk with
  | zero => exact absurd HA.out (by simp [spec_l08Front.l0])
  | succ k1 =>
   have H := HA.out
   clear HA
   simp only [spec_l08Front.l0] at H
   by_cases c4 : x4_1 < (l0.length : Int)
   ·rw [if_pos c4] at H
    have c4b0 : decide (x4_1 < (l0.length : Int)) = true := decide_eq_true c4
    clear c4
    by_cases c5 : 0 ≤ x4_1
    ·rw [if_pos c5] at H
     have c5b0 : decide (0 ≤ x4_1) = true := decide_eq_true c5
     clear c5
     by_cases c6 : (rd l0 x4_1) ≥ 0
     ·rw [if_pos c6] at H
      have c6b0 : decide (0 ≤ (rd l0 x4_1)) = true := decide_eq_true c6
      clear c6
      by_cases c7 : x3_1.length < 17592186044416
      ·rw [if_pos c7] at H
       have LMc7 := Aside0.mk c7
       clear c7
       obtain ⟨y458, hy458⟩ : ∃ y_ : List Int, y_ = (x3_1 ++ [rd l0 x4_1]) := ⟨_, rfl⟩
       replace H : (spec_l08Front.l0 k1 l0 y458 (wrap64 (x4_1 + 1))) = some r := by first | (rw [hy458]; with_reducible exact H) | (have H2_ := (Option.bind_some _ _).symm.trans H; rw [hy458]; with_reducible exact H2_) | (have H2_ := (Option.bind_some _ _).symm.trans H; with_reducible exact H2_) | with_reducible exact H | (rw [hy458]; exact H) | exact H
       have Ny458 := Aside0.mk hy458
       clear hy458
       have H' := Aside0.mk H
       clear H
       have p456 : 0 ≤ (x4_1 : Int) := of_decide_eq_true (by assumption)
       have q456 : x4_1 < (l0.length : Int) := of_decide_eq_true (by assumption)
       obtain ⟨ad456, e456, hx456_0⟩ := Kd.at_int HR0.out x4_1 p456 q456
       cases e456
       replace hx456_0 := (HB.out.cell (World.block_lt_of_cell? w _ hx456_0)).trans hx456_0
       replace p456 := eq_true p456
       replace q456 := eq_true q456
       have p457 : 0 ≤ (x4_1 : Int) := of_decide_eq_true (by assumption)
       have q457 : x4_1 < (l0.length : Int) := of_decide_eq_true (by assumption)
       obtain ⟨ad457, e457, hx457_0⟩ := Kd.at_int HR0.out x4_1 p457 q457
       obtain rfl : ad456 = ad457 := (by injection e457)
       replace hx457_0 := (HB.out.cell (World.block_lt_of_cell? w _ hx457_0)).trans hx457_0
       replace p457 := eq_true p457
       replace q457 := eq_true q457
       go_wp2_with (first | ((with_reducible refine gate_builtin (b := .append) (xs := #[.tmp 17, .tmp 22]) rfl ?_); at_builtin; refine Kd.R_append (Kd.int .i64) (w0 := w) w.heap.size rfl (.tmp 17) (.tmp 22) 29 2 (.int .i64 0) 8 rfl Tryz.underlying29 info2 rfl (by decide) (by omega) u3 x3_1 (rd l0 x4_1) [.int .i64 (rd l0 x4_1)] (fun _ => True) (fun _ => False) rfl rfl ?aP (fun _ hk => hk.elim) ?aF ?aO ?aB ?aS ?aL ?_; (case aP => exact rfl); (case aB => exact (by repeat first | exact HB.out | apply pw_below_drewN)); (case aF => exact (fun _ _ => trivial)); (case aO => exact (by (with_reducible repeat (first | apply Kd.R_alloc | apply Kd.R_drewN | apply Kd.R_drew)); exact HO_3.out)); (case aS => exact (below_size (by repeat first | exact HB.out | apply pw_below_drewN))); (case aL => have := LMc7.out; omega); intro v459 w8 ho hb hg hat; rw [← Ny458.out] at ho; have n0_ := Aside0.mk (hb); have n1_ := Aside0.mk (ho); clear HB; clear HO_3; have HB := n0_; have HO460 := n1_; clear n0_ n1_; clear ho hb hg hat))
       go_roundg k1
       case measure => have := HK1.out; omega
       case rel => exact ⟨(y458), (wrap64 (x4_1 + 1)), (by first | rfl | (simp; done) | (simp [*]; done)), H', ⟨by have := HK1.out; omega⟩, ⟨by (with_reducible repeat (first | apply Kd.R_alloc | apply Kd.R_drewN | apply Kd.R_drew)); exact HO460.out⟩, ⟨by repeat first | exact HB.out | apply pw_below_drewN⟩⟩
      ·rw [if_neg c7] at H
       exact absurd H (by simp)
     ·rw [if_neg c6] at H
      have c6b0 : decide (0 ≤ (rd l0 x4_1)) = false := decide_eq_false c6
      clear c6
      have H' := Aside0.mk H
      clear H
      have p456 : 0 ≤ (x4_1 : Int) := of_decide_eq_true (by assumption)
      have q456 : x4_1 < (l0.length : Int) := of_decide_eq_true (by assumption)
      obtain ⟨ad456, e456, hx456_0⟩ := Kd.at_int HR0.out x4_1 p456 q456
      cases e456
      replace hx456_0 := (HB.out.cell (World.block_lt_of_cell? w _ hx456_0)).trans hx456_0
      replace p456 := eq_true p456
      replace q456 := eq_true q456
      go_wp2
      go_roundg k1
      case measure => have := HK1.out; omega
      case rel => exact ⟨(x3_1), (wrap64 (x4_1 + 1)), (by first | rfl | (simp; done) | (simp [*]; done)), H', ⟨by have := HK1.out; omega⟩, ⟨by (with_reducible repeat (first | apply Kd.R_alloc | apply Kd.R_drewN | apply Kd.R_drew)); exact HO_3.out⟩, ⟨by repeat first | exact HB.out | apply pw_below_drewN⟩⟩
    ·rw [if_neg c5] at H
     exact absurd H (by simp)
   ·rw [if_neg c4] at H
    have c4b0 : decide (x4_1 < (l0.length : Int)) = false := decide_eq_false c4
    clear c4
    have H' := Aside0.mk H
    clear H
    go_wp2
    go_loopg [3] k1 (fun kq v3 w' => ∃ (x3_2 : List Int), Aside0 (spec_l08Front.l1 kq l0 x3_2 = some r) ∧ Aside0 (kq ≤ k1) ∧ Aside0 (Kd.R (Kd.int .i64) 2 w' w.heap.size (fun _ => True) v3 x3_2) ∧ Aside0 (Below w.heap.size w w'))
    case atStart => exact ⟨(x3_1), H', ⟨Nat.le_refl _⟩, ⟨by (with_reducible repeat (first | apply Kd.R_alloc | apply Kd.R_drewN | apply Kd.R_drew)); exact HO_3.out⟩, ⟨by repeat first | exact HB.out | apply pw_below_drewN⟩⟩
    case round =>
     clear H'
     try clear p2
     try clear c4
     try clear c4b0
     try clear p4
     try clear q4
     try clear hx4
     try clear c5
     try clear c5b0
     try clear c6
     try clear c6b0
     try clear p6
     try clear c7
     try clear hx456_0
     try clear hx457_0
     try clear p2
     try clear p456
     try clear p457
     try clear q456
     try clear q457
     obtain ⟨x3_2, HA, HK2, HO_3, HB⟩ := hrel
     cases gk with
     | zero => exact absurd HA.out (by simp [spec_l08Front.l1])
     | succ k2 =>
      have H := HA.out
      clear HA
      simp only [spec_l08Front.l1] at H
      by_cases c9 : (x3_2.length : Int) < (l0.length : Int)
      ·rw [if_pos c9] at H
       have c9b0 : decide ((x3_2.length : Int) < (l0.length : Int)) = true := decide_eq_true c9
       have c9b1 : decide (x3_2.length < l0.length) = true := decide_eq_true (Int.ofNat_lt.mp c9)
       clear c9
       by_cases c10 : x3_2.length < 17592186044416
       ·rw [if_pos c10] at H
        have LMc10 := Aside0.mk c10
        clear c10
        obtain ⟨y461, hy461⟩ : ∃ y_ : List Int, y_ = (x3_2 ++ [(-1)]) := ⟨_, rfl⟩
        replace H : (spec_l08Front.l1 k2 l0 y461) = some r := by first | (rw [hy461]; with_reducible exact H) | (have H2_ := (Option.bind_some _ _).symm.trans H; rw [hy461]; with_reducible exact H2_) | (have H2_ := (Option.bind_some _ _).symm.trans H; with_reducible exact H2_) | with_reducible exact H | (rw [hy461]; exact H) | exact H
        have Ny461 := Aside0.mk hy461
        clear hy461
        have H' := Aside0.mk H
        clear H
        obtain ⟨Ao11, co11, eo11⟩ := Kd.R_slice HO_3.out
        subst eo11
        go_wp2_with (first | ((with_reducible refine gate_builtin (b := .append) (xs := #[.tmp 29, .tmp 30]) rfl ?_); at_builtin; refine Kd.R_append (Kd.int .i64) (w0 := w) w.heap.size rfl (.tmp 29) (.tmp 30) 29 2 (.int .i64 0) 8 rfl Tryz.underlying29 info2 rfl (by decide) (by omega) (.slice Ao11 x3_2.length co11) x3_2 (-1) [.int .i64 (-1)] (fun _ => True) (fun _ => False) rfl rfl ?aP (fun _ hk => hk.elim) ?aF ?aO ?aB ?aS ?aL ?_; (case aP => exact rfl); (case aB => exact (by repeat first | exact HB.out | apply pw_below_drewN)); (case aF => exact (fun _ _ => trivial)); (case aO => exact (by (with_reducible repeat (first | apply Kd.R_alloc | apply Kd.R_drewN | apply Kd.R_drew)); exact HO_3.out)); (case aS => exact (below_size (by repeat first | exact HB.out | apply pw_below_drewN))); (case aL => have := LMc10.out; omega); intro v462 w12 ho hb hg hat; rw [← Ny461.out] at ho; have n0_ := Aside0.mk (hb); have n1_ := Aside0.mk (ho); clear HB; clear HO_3; have HB := n0_; have HO463 := n1_; clear n0_ n1_; clear ho hb hg hat))
        go_roundg k2
        case measure => have := HK1.out; have := HK2.out; omega
        case rel => exact ⟨(y461), H', ⟨by have := HK1.out; have := HK2.out; omega⟩, ⟨by (with_reducible repeat (first | apply Kd.R_alloc | apply Kd.R_drewN | apply Kd.R_drew)); exact HO463.out⟩, ⟨by repeat first | exact HB.out | apply pw_below_drewN⟩⟩
       ·rw [if_neg c10] at H
        exact absurd H (by simp)
      ·rw [if_neg c9] at H
       have c9b0 : decide ((x3_2.length : Int) < (l0.length : Int)) = false := decide_eq_false c9
       have c9b1 : decide (x3_2.length < l0.length) = false := decide_eq_false (fun h => c9 (Int.ofNat_lt.mpr h))
       clear c9
       obtain rfl := Option.some.inj H
       obtain ⟨Ao13, co13, eo13⟩ := Kd.R_slice HO_3.out
       subst eo13
       go_wp2
       go_ret
       exact ⟨_, by first | rfl | (simp [*, errW_none, errW_some] <;> rfl), by (with_reducible repeat (first | apply Kd.R_alloc | apply Kd.R_drewN | apply Kd.R_drew)); exact HO_3.out, by repeat first | exact HB.out | apply pw_below_drewN⟩

/-! ### spec_l08Place: function 34 -/
def spec_l08Place.f (k : Nat) (l0_0 : List (S72)) (l0_1 : List (S68)) (a1_0 : Int) (a1_1 : Int) (a1_2 : Int) (a1_3 : Bool) (a2 : Int) (a3 : Int) (l4 : List Int) : Option (List Int) := (spec_l08Whole.f k l0_0 l0_1 a1_0 a1_1 a1_2 a1_3 a2 a3).bind fun t466 => ((spec_l08Instead.f k l0_0 l0_1 a1_0 a1_1 a1_2 a1_3 a2 t466 l4).bind fun t469 => (if a1_3 = true then (some t469) else ((spec_l08Front.f k t469).bind fun t472 => (some t472))))
def spec_l08Place.T1 : Bool × List (List Nat × List Nat) := (true, [([], []), ([], []), ([], []), ([], []), ([], []), ([], []), ([], []), ([3, 4, 5, 6], [3, 4, 5, 6]), ([], []), ([0, 1, 2, 7, 8, 7], [0, 1, 2, 7, 8]), ([9, 9, 0, 1, 2, 3, 4, 5, 6, 7, 8, 9], [9])])
def spec_l08Place.B1 : List Nat := [0, 0, 0, 0, 0, 0, 0, 120, 0, 511, 1023]
theorem spec_l08Place.tab1 : rtab .any (opsOf Tryz.f34 1) = spec_l08Place.T1 := by kernel_rfl
theorem spec_l08Place.bits1 : waitsOk spec_l08Place.T1.2 spec_l08Place.B1 = true := by kernel_rfl
def az_z34 (n m : Nat) : Array Bool := (List.replicate n true ++ List.replicate m false).toArray
def mz34_0 : Array Bool := az_z34 0 11
def mz34_1 : Array Bool := #[false, false, true, false, false, false, false, false, false, false, false]
def mz34_2 : Array Bool := #[false, false, true, false, false, true, false, false, false, false, false]
def mz34_3 : Array Bool := #[false, false, true, false, false, true, true, false, false, false, false]
def mz34_4 : Array Bool := #[false, false, true, false, false, true, true, false, true, false, false]
def mz34_5 : Array Bool := #[true, false, true, false, false, true, true, false, true, false, false]
def mz34_6 : Array Bool := #[true, true, true, false, false, true, true, false, true, false, false]
def mz34_7 : Array Bool := #[true, true, true, true, false, true, true, false, true, false, false]
def mz34_8 : Array Bool := #[true, true, true, true, true, true, true, false, true, false, false]
def mz34_9 : Array Bool := az_z34 9 2
def mz34_10 : Array Bool := az_z34 10 1
def mz34_11 : Array Bool := az_z34 11 0
theorem pu_z34 {P : Program} {ops : Array Oper} {Q : Exit → Act → World → Prop} {md : Region.Mode} {S : World → Prop} {ds : List Nat} {oi : Oper} {fuel : Nat} {l : Array Bool} {a : Act} {w : World} (i : Nat) (N : Option Tmp) (v : Value) (l' : Array Bool) (hi : ops[i]? = some oi) (hN : oi.dst = N) (hc : anyB md ops l l' i = true)
    (hQ : ∀ c a w, Q (.panic c) (a.put oi.dst v) w → Q (.panic c) a w) (hy : Yields P ops oi v a) (a' : Act) (ha : a.put N v = a')
    (h : wpAnyLast P md ops Q S ds fuel l' a' w) : wpAnyLast P md ops Q S ds (fuel + 1) l a w := pure_ l' hi hN hc hQ hy ha h
theorem pq_z34 : (∀ (l : List Value) (i : Nat) (v : Value), l.toArray.setIfInBounds i v = (l.set i v).toArray) ∧ (∀ (x v : Value) (xs : List Value), (x :: xs).set 0 v = v :: xs) ∧ (∀ (x v : Value) (xs : List Value) (n : Nat), (x :: xs).set (n + 1) v = x :: xs.set n v) ∧ (∀ n : Int, IntKind.i64.wrap n = Go.RowKit.wrap64 n) ∧ (∀ n : Int, IntKind.i32.wrap n = Go.RowKit.wrap32 n) :=
  ⟨fun l i v => List.setIfInBounds_toArray l i v, fun _ _ _ => rfl, fun _ _ _ _ => rfl, i64_w, i32_w⟩
set_option maxHeartbeats 8000000 in
set_option maxRecDepth 100000 in
theorem spec_l08Place.calls (k : Nat) (A0_0 : Option Addr) (c0_0 : Nat) (l0_0 : List (S72)) (A0_1 : Option Addr) (c0_1 : Nat) (l0_1 : List (S68)) (a1_0 : Int) (a1_1 : Int) (a1_2 : Int) (a1_3 : Bool) (a2 : Int) (a3 : Int) (A4 : Option Addr) (c4 : Nat) (l4 : List Int) (r : List Int) (w : World) (hr0_0 : Kd.C k72 w A0_0 l0_0.length l0_0) (hc0_0 : l0_0.length ≤ c0_0) (hr0_1 : Kd.C k68 w A0_1 l0_1.length l0_1) (hc0_1 : l0_1.length ≤ c0_1) (hr4 : Kd.C (Kd.int .i64) w A4 l4.length l4) (hc4 : l4.length ≤ c4) (h : spec_l08Place.f k l0_0 l0_1 a1_0 a1_1 a1_2 a1_3 a2 a3 l4 = some r) :
  Calls Tryz.prog 34 #[.agg #[.slice A0_0 l0_0.length c0_0, .slice A0_1 l0_1.length c0_1], .agg #[.int .i64 a1_0, .int .i64 a1_1, .int .i64 a1_2, .bool a1_3], .int .i64 a2, .int .i64 a3, .slice A4 l4.length c4] w fun e w' => ∃ v0_ : Value, e = .returned (v0_) ∧ Kd.R (Kd.int .i64) 2 w' w.heap.size (fun _ => True) v0_ r ∧ Below w.heap.size w w' := by
 have hu35 := Tryz.underlying35
 have hu37 := Tryz.underlying37
 have HR0_0 := Aside0.mk hr0_0
 have HC0_0 := Aside0.mk hc0_0
 clear hr0_0 hc0_0
 have HR0_1 := Aside0.mk hr0_1
 have HC0_1 := Aside0.mk hc0_1
 clear hr0_1 hc0_1
 have HR4 := Aside0.mk hr4
 have HC4 := Aside0.mk hc4
 clear hr4 hc4
 have HB := Aside0.mk (Below.refl w.heap.size w)
 have H : ((spec_l08Whole.f k l0_0 l0_1 a1_0 a1_1 a1_2 a1_3 a2 a3).bind fun t466 => ((spec_l08Instead.f k l0_0 l0_1 a1_0 a1_1 a1_2 a1_3 a2 t466 l4).bind fun t469 => (if a1_3 = true then (some t469) else ((spec_l08Front.f k t469).bind fun t472 => (some t472))))) = some r := h
 clear h
 replace H := Option.bind_eq_some_iff.mp H
 obtain ⟨t466, A60, H⟩ := H
 set_option simprocs false in try dsimp only at H
 have A6 := Aside0.mk A60
 clear A60
 replace H := Option.bind_eq_some_iff.mp H
 obtain ⟨t469, A70, H⟩ := H
 set_option simprocs false in try dsimp only at H
 have A7 := Aside0.mk A70
 clear A70
 by_cases c8 : a1_3 = true
 ·subst c8
  rw [if_pos rfl] at H
  obtain rfl := Option.some.inj H
  go_enter Tryz.func34, Tryz.ntmps34
  try go_wp2_with (first | ((with_reducible refine gate_dst (N := 5) rfl ?_); refine box_event ?hg (N := 5) ?hd (cs := #[.slice A0_0 l0_0.length c0_0, .slice A0_1 l0_1.length c0_1]) (t := 35) ?hr ?_; (case hd => rfl); (case hg => rfl); (case hr => first | (go_simp; done) | (go_simp; rfl)); intro gb464 hg w9 hbox hb; have n0_ := Aside0.mk (below_step (by repeat first | exact HB.out | apply pw_below_drewN) hb); have n1_ := Aside0.mk (hbox); clear HB; have HB := n0_; have BK464 := n1_; clear n0_ n1_; clear hb hbox hg) | ((with_reducible refine gate_dst (N := 6) rfl ?_); refine box_event ?hg (N := 6) ?hd (cs := #[.int .i64 a1_0, .int .i64 a1_1, .int .i64 a1_2, .bool true]) (t := 37) ?hr ?_; (case hd => rfl); (case hg => rfl); (case hr => first | (go_simp; done) | (go_simp; rfl)); intro gb465 hg w10 hbox hb; have n0_ := Aside0.mk (blk_below (by exact BK464.out) hb); have n1_ := Aside0.mk (below_step (by repeat first | exact HB.out | apply pw_below_drewN) hb); have n2_ := Aside0.mk (hbox); clear BK464; clear HB; have BK464 := n0_; have HB := n1_; have BK465 := n2_; clear n0_ n1_ n2_; clear hb hbox hg))
  have n0_ := Aside0.mk (blk_drew BK464.out)
  have n1_ := Aside0.mk (blk_drew BK465.out)
  have n2_ := Aside0.mk (below_drew1 HB.out)
  clear BK464
  clear BK465
  clear HB
  have BK464 := n0_
  have BK465 := n1_
  have HB := n2_
  clear n0_ n1_ n2_
  refine start_ (n := 11) (S := fun w' => w'.cell? ⟨gb464, 0, none⟩ = some (.slice A0_0 l0_0.length c0_0) ∧ w'.cell? ⟨gb464, 1, none⟩ = some (.slice A0_1 l0_1.length c0_1) ∧ w'.cell? ⟨gb465, 0, none⟩ = some (.int .i64 a1_0) ∧ w'.cell? ⟨gb465, 1, none⟩ = some (.int .i64 a1_1) ∧ w'.cell? ⟨gb465, 2, none⟩ = some (.int .i64 a1_2) ∧ w'.cell? ⟨gb465, 3, none⟩ = some (.bool true)) (ds := []) mz34_0 (by kernel_rfl) rfl rfl ⟨(blk_cell BK464.out 0).trans rfl, (blk_cell BK464.out 1).trans rfl, (blk_cell BK465.out 0).trans rfl, (blk_cell BK465.out 1).trans rfl, (blk_cell BK465.out 2).trans rfl, (blk_cell BK465.out 3).trans rfl⟩ (fun hHeld => ?_); refine with_tabW spec_l08Place.tab1 spec_l08Place.bits1 (fun HT_ HW_ => ?_)
  generalize w10.drew = w11 at BK464 BK465 HB hHeld ⊢
  refine pu 2 (some 14) mz34_1 (any_of HT_.out (by kernel_rfl)) ?_
  refine pu 5 (some 17) mz34_2 (any_of HT_.out (by kernel_rfl)) ?_
  refine pu 6 (some 18) mz34_3 (any_of HT_.out (by kernel_rfl)) ?_
  refine pu 8 (some 20) mz34_4 (any_of HT_.out (by kernel_rfl)) ?_
  refine tk 0 (some 12) mz34_5 hHeld (take_ofW HT_.out HW_.out (by kernel_rfl)) ?_
  refine tk 1 (some 13) mz34_6 hHeld (take_ofW HT_.out HW_.out (by kernel_rfl)) ?_
  refine tk 3 (some 15) mz34_7 hHeld (take_ofW HT_.out HW_.out (by kernel_rfl)) ?_
  refine tk 4 (some 16) mz34_8 hHeld (take_ofW HT_.out HW_.out (by kernel_rfl)) ?_
  refine one_ (i := 7) (N := some 19) mz34_9 rfl rfl (one_of HT_.out (by kernel_rfl)) (by decide) (fun K hK => ?_)
  refine goes_ Tryz.func23 (by kernel_rfl) rfl #[.agg #[.slice A0_0 l0_0.length c0_0, .slice A0_1 l0_1.length c0_1], .agg #[.int .i64 a1_0, .int .i64 a1_1, .int .i64 a1_2, .bool true], .int .i64 a2, .int .i64 a3] (by rfl) rfl rfl (by (try simp only [List.map_toArray, List.map_cons, List.map_nil]); first | done | rfl) ?_
  with_reducible refine (spec_l08Whole.calls k _ _ l0_0 _ _ l0_1 a1_0 a1_1 a1_2 true a2 a3 t466 _ ?side1 ?side2 ?side3 ?side4 A6.out).mono ?_
  (case side1 => exact (Kd.C_below HR0_0.out HB.out))
  (case side2 => exact HC0_0.out)
  (case side3 => exact (Kd.C_below HR0_1.out HB.out))
  (case side4 => exact HC0_1.out)
  rintro e w12 ⟨v467, rfl, ho0, hb⟩
  refine ⟨_, rfl, ?_⟩
  have n0_ := Aside0.mk (Kd.R_lower ho0 (below_size (by repeat first | exact HB.out | apply pw_below_drewN)))
  have n1_ := Aside0.mk (blk_below (by exact BK464.out) hb)
  have n2_ := Aside0.mk (blk_below (by exact BK465.out) hb)
  have n3_ := Aside0.mk (below_step (by repeat first | exact HB.out | apply pw_below_drewN) hb)
  clear BK464
  clear BK465
  clear HB
  have HO468 := n0_
  have BK464 := n1_
  have BK465 := n2_
  have HB := n3_
  clear n0_ n1_ n2_ n3_
  (try clear hb)
  (try clear hb2)
  (try clear hk)
  (try clear hi)
  (try clear ho0)
  obtain ⟨Ao13, co13, eo13⟩ := Kd.R_slice HO468.out
  (first | subst eo13 | (injection eo13 with f1_ f2_ f3_; have f4_ := f1_.symm; have f5_ := f3_.symm; clear f1_ f2_ f3_; subst f4_; subst f5_))
  refine hK.out _ _ ⟨(blk_cell BK464.out 0).trans rfl, (blk_cell BK464.out 1).trans rfl, (blk_cell BK465.out 0).trans rfl, (blk_cell BK465.out 1).trans rfl, (blk_cell BK465.out 2).trans rfl, (blk_cell BK465.out 3).trans rfl⟩ (fun hHeld => ?_)
  clear hK K
  refine norm_ (a' := ?_) ?_ ?_
  (rotate_left; ·(show Act.put _ (some 19) _ = _; simp only [Act.put, pq_z34]; rfl))
  refine one_ (i := 9) (N := some 21) mz34_10 rfl rfl (one_of HT_.out (by kernel_rfl)) (by decide) (fun K hK => ?_)
  refine goes_ Tryz.func52 (by kernel_rfl) rfl #[.agg #[.slice A0_0 l0_0.length c0_0, .slice A0_1 l0_1.length c0_1], .agg #[.int .i64 a1_0, .int .i64 a1_1, .int .i64 a1_2, .bool true], .int .i64 a2, .slice Ao13 t466.length co13, .slice A4 l4.length c4] (by rfl) rfl rfl (by (try simp only [List.map_toArray, List.map_cons, List.map_nil]); first | done | rfl) ?_
  with_reducible refine (spec_l08Instead.calls k _ _ l0_0 _ _ l0_1 a1_0 a1_1 a1_2 true a2 _ _ t466 _ _ l4 t469 _ ?side1 ?side2 ?side3 ?side4 ?side5 ?side6 ?side7 ?side8 A7.out).mono ?_
  (case side1 => exact (Kd.C_below HR0_0.out HB.out))
  (case side2 => exact HC0_0.out)
  (case side3 => exact (Kd.C_below HR0_1.out HB.out))
  (case side4 => exact HC0_1.out)
  (case side5 => exact (Kd.R_reads' HO468.out).2.2)
  (case side6 => exact (Kd.R_reads' HO468.out).2.1)
  (case side7 => exact (Kd.C_below HR4.out HB.out))
  (case side8 => exact HC4.out)
  rintro e w14 ⟨v470, rfl, ho0, hb⟩
  refine ⟨_, rfl, ?_⟩
  have n0_ := Aside0.mk (Kd.R_elder' (by (with_reducible repeat (first | apply Kd.R_alloc | apply Kd.R_drewN | apply Kd.R_drew)); exact HO468.out) (Kd.R_base ho0) hb)
  have n1_ := Aside0.mk (Kd.R_lower (Kd.R_new' ho0 (Kd.R_lt (by (with_reducible repeat (first | apply Kd.R_alloc | apply Kd.R_drewN | apply Kd.R_drew)); exact HO468.out))) (below_size (by repeat first | exact HB.out | apply pw_below_drewN)))
  have n2_ := Aside0.mk (blk_below (by exact BK464.out) hb)
  have n3_ := Aside0.mk (blk_below (by exact BK465.out) hb)
  have n4_ := Aside0.mk (below_step (by repeat first | exact HB.out | apply pw_below_drewN) hb)
  clear HO468
  clear BK464
  clear BK465
  clear HB
  have HO468 := n0_
  have HO471 := n1_
  have BK464 := n2_
  have BK465 := n3_
  have HB := n4_
  clear n0_ n1_ n2_ n3_ n4_
  (try clear hb)
  (try clear hb2)
  (try clear hk)
  (try clear hi)
  (try clear ho0)
  refine hK.out _ _ ⟨(blk_cell BK464.out 0).trans rfl, (blk_cell BK464.out 1).trans rfl, (blk_cell BK465.out 0).trans rfl, (blk_cell BK465.out 1).trans rfl, (blk_cell BK465.out 2).trans rfl, (blk_cell BK465.out 3).trans rfl⟩ (fun hHeld => ?_)
  clear hK K
  refine norm_ (a' := ?_) ?_ ?_
  (rotate_left; ·(show Act.put _ (some 21) _ = _; simp only [Act.put, pq_z34]; rfl))
  refine pu 10 (some 11) mz34_11 (any_of HT_.out (by kernel_rfl)) ?_
  refine done_ (done_of HT_.out (by kernel_rfl)) ?_
  have hcz16_0 := (blk_cell BK465.out 0).trans rfl
  have hcz16_1 := (blk_cell BK465.out 1).trans rfl
  have hcz16_2 := (blk_cell BK465.out 2).trans rfl
  have hcz16_3 := (blk_cell BK465.out 3).trans rfl
  try go_wp2
  go_ret
  exact ⟨_, by first | rfl | (simp [*, errW_none, errW_some] <;> rfl), by (with_reducible repeat (first | apply Kd.R_alloc | apply Kd.R_drewN | apply Kd.R_drew)); exact Kd.R_mono HO471.out (fun _ hk => trivial), by repeat first | exact HB.out | apply pw_below_drewN⟩
 ·replace c8 := Bool.eq_false_iff.mpr c8
  subst c8
  rw [if_neg (show ¬ (false = true) by decide)] at H
  replace H := Option.bind_eq_some_iff.mp H
  obtain ⟨t472, A170, H⟩ := H
  set_option simprocs false in try dsimp only at H
  have A17 := Aside0.mk A170
  clear A170
  obtain rfl := Option.some.inj H
  go_enter Tryz.func34, Tryz.ntmps34
  try go_wp2_with (first | ((with_reducible refine gate_dst (N := 5) rfl ?_); refine box_event ?hg (N := 5) ?hd (cs := #[.slice A0_0 l0_0.length c0_0, .slice A0_1 l0_1.length c0_1]) (t := 35) ?hr ?_; (case hd => rfl); (case hg => rfl); (case hr => first | (go_simp; done) | (go_simp; rfl)); intro gb464 hg w18 hbox hb; have n0_ := Aside0.mk (below_step (by repeat first | exact HB.out | apply pw_below_drewN) hb); have n1_ := Aside0.mk (hbox); clear HB; have HB := n0_; have BK464 := n1_; clear n0_ n1_; clear hb hbox hg) | ((with_reducible refine gate_dst (N := 6) rfl ?_); refine box_event ?hg (N := 6) ?hd (cs := #[.int .i64 a1_0, .int .i64 a1_1, .int .i64 a1_2, .bool false]) (t := 37) ?hr ?_; (case hd => rfl); (case hg => rfl); (case hr => first | (go_simp; done) | (go_simp; rfl)); intro gb465 hg w19 hbox hb; have n0_ := Aside0.mk (blk_below (by exact BK464.out) hb); have n1_ := Aside0.mk (below_step (by repeat first | exact HB.out | apply pw_below_drewN) hb); have n2_ := Aside0.mk (hbox); clear BK464; clear HB; have BK464 := n0_; have HB := n1_; have BK465 := n2_; clear n0_ n1_ n2_; clear hb hbox hg))
  have n0_ := Aside0.mk (blk_drew BK464.out)
  have n1_ := Aside0.mk (blk_drew BK465.out)
  have n2_ := Aside0.mk (below_drew1 HB.out)
  clear BK464
  clear BK465
  clear HB
  have BK464 := n0_
  have BK465 := n1_
  have HB := n2_
  clear n0_ n1_ n2_
  refine start_ (n := 11) (S := fun w' => w'.cell? ⟨gb464, 0, none⟩ = some (.slice A0_0 l0_0.length c0_0) ∧ w'.cell? ⟨gb464, 1, none⟩ = some (.slice A0_1 l0_1.length c0_1) ∧ w'.cell? ⟨gb465, 0, none⟩ = some (.int .i64 a1_0) ∧ w'.cell? ⟨gb465, 1, none⟩ = some (.int .i64 a1_1) ∧ w'.cell? ⟨gb465, 2, none⟩ = some (.int .i64 a1_2) ∧ w'.cell? ⟨gb465, 3, none⟩ = some (.bool false)) (ds := []) mz34_0 (by kernel_rfl) rfl rfl ⟨(blk_cell BK464.out 0).trans rfl, (blk_cell BK464.out 1).trans rfl, (blk_cell BK465.out 0).trans rfl, (blk_cell BK465.out 1).trans rfl, (blk_cell BK465.out 2).trans rfl, (blk_cell BK465.out 3).trans rfl⟩ (fun hHeld => ?_); refine with_tabW spec_l08Place.tab1 spec_l08Place.bits1 (fun HT_ HW_ => ?_)
  generalize w19.drew = w20 at BK464 BK465 HB hHeld ⊢
  refine pu 2 (some 14) mz34_1 (any_of HT_.out (by kernel_rfl)) ?_
  refine pu 5 (some 17) mz34_2 (any_of HT_.out (by kernel_rfl)) ?_
  refine pu 6 (some 18) mz34_3 (any_of HT_.out (by kernel_rfl)) ?_
  refine pu 8 (some 20) mz34_4 (any_of HT_.out (by kernel_rfl)) ?_
  refine tk 0 (some 12) mz34_5 hHeld (take_ofW HT_.out HW_.out (by kernel_rfl)) ?_
  refine tk 1 (some 13) mz34_6 hHeld (take_ofW HT_.out HW_.out (by kernel_rfl)) ?_
  refine tk 3 (some 15) mz34_7 hHeld (take_ofW HT_.out HW_.out (by kernel_rfl)) ?_
  refine tk 4 (some 16) mz34_8 hHeld (take_ofW HT_.out HW_.out (by kernel_rfl)) ?_
  refine one_ (i := 7) (N := some 19) mz34_9 rfl rfl (one_of HT_.out (by kernel_rfl)) (by decide) (fun K hK => ?_)
  refine goes_ Tryz.func23 (by kernel_rfl) rfl #[.agg #[.slice A0_0 l0_0.length c0_0, .slice A0_1 l0_1.length c0_1], .agg #[.int .i64 a1_0, .int .i64 a1_1, .int .i64 a1_2, .bool false], .int .i64 a2, .int .i64 a3] (by rfl) rfl rfl (by (try simp only [List.map_toArray, List.map_cons, List.map_nil]); first | done | rfl) ?_
  with_reducible refine (spec_l08Whole.calls k _ _ l0_0 _ _ l0_1 a1_0 a1_1 a1_2 false a2 a3 t466 _ ?side1 ?side2 ?side3 ?side4 A6.out).mono ?_
  (case side1 => exact (Kd.C_below HR0_0.out HB.out))
  (case side2 => exact HC0_0.out)
  (case side3 => exact (Kd.C_below HR0_1.out HB.out))
  (case side4 => exact HC0_1.out)
  rintro e w21 ⟨v467, rfl, ho0, hb⟩
  refine ⟨_, rfl, ?_⟩
  have n0_ := Aside0.mk (Kd.R_lower ho0 (below_size (by repeat first | exact HB.out | apply pw_below_drewN)))
  have n1_ := Aside0.mk (blk_below (by exact BK464.out) hb)
  have n2_ := Aside0.mk (blk_below (by exact BK465.out) hb)
  have n3_ := Aside0.mk (below_step (by repeat first | exact HB.out | apply pw_below_drewN) hb)
  clear BK464
  clear BK465
  clear HB
  have HO468 := n0_
  have BK464 := n1_
  have BK465 := n2_
  have HB := n3_
  clear n0_ n1_ n2_ n3_
  (try clear hb)
  (try clear hb2)
  (try clear hk)
  (try clear hi)
  (try clear ho0)
  obtain ⟨Ao22, co22, eo22⟩ := Kd.R_slice HO468.out
  (first | subst eo22 | (injection eo22 with f1_ f2_ f3_; have f4_ := f1_.symm; have f5_ := f3_.symm; clear f1_ f2_ f3_; subst f4_; subst f5_))
  refine hK.out _ _ ⟨(blk_cell BK464.out 0).trans rfl, (blk_cell BK464.out 1).trans rfl, (blk_cell BK465.out 0).trans rfl, (blk_cell BK465.out 1).trans rfl, (blk_cell BK465.out 2).trans rfl, (blk_cell BK465.out 3).trans rfl⟩ (fun hHeld => ?_)
  clear hK K
  refine norm_ (a' := ?_) ?_ ?_
  (rotate_left; ·(show Act.put _ (some 19) _ = _; simp only [Act.put, pq_z34]; rfl))
  refine one_ (i := 9) (N := some 21) mz34_10 rfl rfl (one_of HT_.out (by kernel_rfl)) (by decide) (fun K hK => ?_)
  refine goes_ Tryz.func52 (by kernel_rfl) rfl #[.agg #[.slice A0_0 l0_0.length c0_0, .slice A0_1 l0_1.length c0_1], .agg #[.int .i64 a1_0, .int .i64 a1_1, .int .i64 a1_2, .bool false], .int .i64 a2, .slice Ao22 t466.length co22, .slice A4 l4.length c4] (by rfl) rfl rfl (by (try simp only [List.map_toArray, List.map_cons, List.map_nil]); first | done | rfl) ?_
  with_reducible refine (spec_l08Instead.calls k _ _ l0_0 _ _ l0_1 a1_0 a1_1 a1_2 false a2 _ _ t466 _ _ l4 t469 _ ?side1 ?side2 ?side3 ?side4 ?side5 ?side6 ?side7 ?side8 A7.out).mono ?_
  (case side1 => exact (Kd.C_below HR0_0.out HB.out))
  (case side2 => exact HC0_0.out)
  (case side3 => exact (Kd.C_below HR0_1.out HB.out))
  (case side4 => exact HC0_1.out)
  (case side5 => exact (Kd.R_reads' HO468.out).2.2)
  (case side6 => exact (Kd.R_reads' HO468.out).2.1)
  (case side7 => exact (Kd.C_below HR4.out HB.out))
  (case side8 => exact HC4.out)
  rintro e w23 ⟨v470, rfl, ho0, hb⟩
  refine ⟨_, rfl, ?_⟩
  have n0_ := Aside0.mk (Kd.R_elder' (by (with_reducible repeat (first | apply Kd.R_alloc | apply Kd.R_drewN | apply Kd.R_drew)); exact HO468.out) (Kd.R_base ho0) hb)
  have n1_ := Aside0.mk (Kd.R_lower (Kd.R_new' ho0 (Kd.R_lt (by (with_reducible repeat (first | apply Kd.R_alloc | apply Kd.R_drewN | apply Kd.R_drew)); exact HO468.out))) (below_size (by repeat first | exact HB.out | apply pw_below_drewN)))
  have n2_ := Aside0.mk (blk_below (by exact BK464.out) hb)
  have n3_ := Aside0.mk (blk_below (by exact BK465.out) hb)
  have n4_ := Aside0.mk (below_step (by repeat first | exact HB.out | apply pw_below_drewN) hb)
  clear HO468
  clear BK464
  clear BK465
  clear HB
  have HO468 := n0_
  have HO471 := n1_
  have BK464 := n2_
  have BK465 := n3_
  have HB := n4_
  clear n0_ n1_ n2_ n3_ n4_
  (try clear hb)
  (try clear hb2)
  (try clear hk)
  (try clear hi)
  (try clear ho0)
  refine hK.out _ _ ⟨(blk_cell BK464.out 0).trans rfl, (blk_cell BK464.out 1).trans rfl, (blk_cell BK465.out 0).trans rfl, (blk_cell BK465.out 1).trans rfl, (blk_cell BK465.out 2).trans rfl, (blk_cell BK465.out 3).trans rfl⟩ (fun hHeld => ?_)
  clear hK K
  refine norm_ (a' := ?_) ?_ ?_
  (rotate_left; ·(show Act.put _ (some 21) _ = _; simp only [Act.put, pq_z34]; rfl))
  refine pu 10 (some 11) mz34_11 (any_of HT_.out (by kernel_rfl)) ?_
  refine done_ (done_of HT_.out (by kernel_rfl)) ?_
  have hcz25_0 := (blk_cell BK465.out 0).trans rfl
  have hcz25_1 := (blk_cell BK465.out 1).trans rfl
  have hcz25_2 := (blk_cell BK465.out 2).trans rfl
  have hcz25_3 := (blk_cell BK465.out 3).trans rfl
  obtain ⟨Ao26, co26, eo26⟩ := Kd.R_slice HO471.out
  subst eo26
  try go_wp2_with (first | ((with_reducible refine gate_callee (f := 53) rfl ?_); refine gl (some 26) Tryz.func53 #[.slice Ao26 t469.length co26] ?_; (with_reducible refine (spec_l08Front.calls k _ _ t469 t472 _ ?side1 ?side2 A17.out).mono ?_); (case side1 => exact (Kd.R_reads' HO471.out).2.2); (case side2 => exact (Kd.R_reads' HO471.out).2.1); rintro e w27 ⟨v473, rfl, ho0, hb⟩; refine ⟨_, rfl, ?_⟩; have n0_ := Aside0.mk (Kd.R_elder' (by (with_reducible repeat (first | apply Kd.R_alloc | apply Kd.R_drewN | apply Kd.R_drew)); exact HO468.out) (Kd.R_base ho0) hb); have n1_ := Aside0.mk (Kd.R_elder' (by (with_reducible repeat (first | apply Kd.R_alloc | apply Kd.R_drewN | apply Kd.R_drew)); exact HO471.out) (Kd.R_base ho0) hb); have n2_ := Aside0.mk (Kd.R_lower (Kd.R_new' (Kd.R_new' ho0 (Kd.R_lt (by (with_reducible repeat (first | apply Kd.R_alloc | apply Kd.R_drewN | apply Kd.R_drew)); exact HO468.out))) (Kd.R_lt (by (with_reducible repeat (first | apply Kd.R_alloc | apply Kd.R_drewN | apply Kd.R_drew)); exact HO471.out))) (below_size (by repeat first | exact HB.out | apply pw_below_drewN))); have n3_ := Aside0.mk (blk_below (by exact BK464.out) hb); have n4_ := Aside0.mk (blk_below (by exact BK465.out) hb); have n5_ := Aside0.mk (below_step (by repeat first | exact HB.out | apply pw_below_drewN) hb); clear HO468; clear HO471; clear BK464; clear BK465; clear HB; have HO468 := n0_; have HO471 := n1_; have HO474 := n2_; have BK464 := n3_; have BK465 := n4_; have HB := n5_; clear n0_ n1_ n2_ n3_ n4_ n5_; (try clear hb); (try clear hb2); (try clear hk); (try clear hi); (try clear ho0)))
  go_ret
  exact ⟨_, by first | rfl | (simp [*, errW_none, errW_some] <;> rfl), by (with_reducible repeat (first | apply Kd.R_alloc | apply Kd.R_drewN | apply Kd.R_drew)); exact Kd.R_mono HO474.out (fun _ hk => trivial), by repeat first | exact HB.out | apply pw_below_drewN⟩

/-! ### spec_Place: function 15 -/
def spec_Place.f (k : Nat) (l0_0 : List (S72)) (l0_1 : List (S68)) (a1_0 : Int) (a1_1 : Int) (a1_2 : Int) (a1_3 : Bool) (a2 : Int) (a3 : Int) (l4 : List Int) : Option (List Int × Bool) := (spec_l06OK.f k l0_0 l0_1).bind fun t477 => (if t477 = true then ((spec_l08OK.f k l0_0 l0_1 a1_0 a1_1 a1_2 a1_3).bind fun t478 => (if t478 = true then ((spec_l00In.f a3 0 7).bind fun t479 => (if t479 = true then ((spec_l00Rises.f k l4 0 15).bind fun t480 => (if t480 = true then ((spec_l08Place.f k l0_0 l0_1 a1_0 a1_1 a1_2 a1_3 a2 a3 l4).bind fun t481 => (some (t481, true))) else (some ((([] : List Int)), false)))) else (some ((([] : List Int)), false)))) else (some ((([] : List Int)), false)))) else (some ((([] : List Int)), false)))
set_option maxHeartbeats 8000000 in
set_option maxRecDepth 100000 in
theorem spec_Place.calls (k : Nat) (A0_0 : Option Addr) (c0_0 : Nat) (l0_0 : List (S72)) (A0_1 : Option Addr) (c0_1 : Nat) (l0_1 : List (S68)) (a1_0 : Int) (a1_1 : Int) (a1_2 : Int) (a1_3 : Bool) (a2 : Int) (a3 : Int) (A4 : Option Addr) (c4 : Nat) (l4 : List Int) (r1 : List Int) (r2 : Bool) (w : World) (hr0_0 : Kd.C k72 w A0_0 l0_0.length l0_0) (hc0_0 : l0_0.length ≤ c0_0) (hr0_1 : Kd.C k68 w A0_1 l0_1.length l0_1) (hc0_1 : l0_1.length ≤ c0_1) (hr4 : Kd.C (Kd.int .i64) w A4 l4.length l4) (hc4 : l4.length ≤ c4) (h : spec_Place.f k l0_0 l0_1 a1_0 a1_1 a1_2 a1_3 a2 a3 l4 = some (r1, r2)) :
  Calls Tryz.prog 15 #[.agg #[.slice A0_0 l0_0.length c0_0, .slice A0_1 l0_1.length c0_1], .agg #[.int .i64 a1_0, .int .i64 a1_1, .int .i64 a1_2, .bool a1_3], .int .i64 a2, .int .i64 a3, .slice A4 l4.length c4] w fun e w' => ∃ v0_ : Value, e = .returned (.tuple #[v0_, .bool r2]) ∧ Kd.R (Kd.int .i64) 2 w' w.heap.size (fun _ => True) v0_ r1 ∧ Below w.heap.size w w' := by
 have hu35 := Tryz.underlying35
 have hu37 := Tryz.underlying37
 have HR0_0 := Aside0.mk hr0_0
 have HC0_0 := Aside0.mk hc0_0
 clear hr0_0 hc0_0
 have HR0_1 := Aside0.mk hr0_1
 have HC0_1 := Aside0.mk hc0_1
 clear hr0_1 hc0_1
 have HR4 := Aside0.mk hr4
 have HC4 := Aside0.mk hc4
 clear hr4 hc4
 have HB := Aside0.mk (Below.refl w.heap.size w)
 have H : ((spec_l06OK.f k l0_0 l0_1).bind fun t477 => (if t477 = true then ((spec_l08OK.f k l0_0 l0_1 a1_0 a1_1 a1_2 a1_3).bind fun t478 => (if t478 = true then ((spec_l00In.f a3 0 7).bind fun t479 => (if t479 = true then ((spec_l00Rises.f k l4 0 15).bind fun t480 => (if t480 = true then ((spec_l08Place.f k l0_0 l0_1 a1_0 a1_1 a1_2 a1_3 a2 a3 l4).bind fun t481 => (some (t481, true))) else (some ((([] : List Int)), false)))) else (some ((([] : List Int)), false)))) else (some ((([] : List Int)), false)))) else (some ((([] : List Int)), false)))) = some (r1, r2) := h
 clear h
 replace H := Option.bind_eq_some_iff.mp H
 obtain ⟨t477, A60, H⟩ := H
 set_option simprocs false in try dsimp only at H
 have A6 := Aside0.mk A60
 clear A60
 by_cases c7 : t477 = true
 ·subst c7
  rw [if_pos rfl] at H
  replace H := Option.bind_eq_some_iff.mp H
  obtain ⟨t478, A80, H⟩ := H
  set_option simprocs false in try dsimp only at H
  have A8 := Aside0.mk A80
  clear A80
  by_cases c9 : t478 = true
  ·subst c9
   rw [if_pos rfl] at H
   replace H := Option.bind_eq_some_iff.mp H
   obtain ⟨t479, A100, H⟩ := H
   set_option simprocs false in try dsimp only at H
   have A10 := Aside0.mk A100
   clear A100
   by_cases c11 : t479 = true
   ·subst c11
    rw [if_pos rfl] at H
    replace H := Option.bind_eq_some_iff.mp H
    obtain ⟨t480, A120, H⟩ := H
    set_option simprocs false in try dsimp only at H
    have A12 := Aside0.mk A120
    clear A120
    by_cases c13 : t480 = true
    ·subst c13
     rw [if_pos rfl] at H
     replace H := Option.bind_eq_some_iff.mp H
     obtain ⟨t481, A140, H⟩ := H
     set_option simprocs false in try dsimp only at H
     have A14 := Aside0.mk A140
     clear A140
     simp only [Option.some.injEq, Prod.mk.injEq] at H
     obtain ⟨rfl, rfl⟩ := H
     go_enter Tryz.func15, Tryz.ntmps15
     go_wp2_with (first | ((with_reducible refine gate_dst (N := 5) rfl ?_); refine box_event ?hg (N := 5) ?hd (cs := #[.slice A0_0 l0_0.length c0_0, .slice A0_1 l0_1.length c0_1]) (t := 35) ?hr ?_; (case hd => rfl); (case hg => rfl); (case hr => first | (go_simp; done) | (go_simp; rfl)); intro gb475 hg w15 hbox hb; have n0_ := Aside0.mk (below_step (by repeat first | exact HB.out | apply pw_below_drewN) hb); have n1_ := Aside0.mk (hbox); clear HB; have HB := n0_; have BK475 := n1_; clear n0_ n1_; clear hb hbox hg) | ((with_reducible refine gate_dst (N := 6) rfl ?_); refine box_event ?hg (N := 6) ?hd (cs := #[.int .i64 a1_0, .int .i64 a1_1, .int .i64 a1_2, .bool a1_3]) (t := 37) ?hr ?_; (case hd => rfl); (case hg => rfl); (case hr => first | (go_simp; done) | (go_simp; rfl)); intro gb476 hg w16 hbox hb; have n0_ := Aside0.mk (blk_below (by exact BK475.out) hb); have n1_ := Aside0.mk (below_step (by repeat first | exact HB.out | apply pw_below_drewN) hb); have n2_ := Aside0.mk (hbox); clear BK475; clear HB; have BK475 := n0_; have HB := n1_; have BK476 := n2_; clear n0_ n1_ n2_; clear hb hbox hg; have hcz18_0 := (blk_cell BK475.out 0).trans rfl; have hcz18_1 := (blk_cell BK475.out 1).trans rfl) | ((with_reducible refine gate_callee (f := 20) rfl ?_); refine gl (some 13) Tryz.func20 #[.agg #[.slice A0_0 l0_0.length c0_0, .slice A0_1 l0_1.length c0_1]] ?_; (with_reducible refine (spec_l06OK.calls k _ _ l0_0 _ _ l0_1 true _ ?side1 ?side2 ?side3 ?side4 A6.out).mono ?_); (case side1 => exact (Kd.C_below HR0_0.out HB.out)); (case side2 => exact HC0_0.out); (case side3 => exact (Kd.C_below HR0_1.out HB.out)); (case side4 => exact HC0_1.out); rintro e w19 ⟨rfl, hb⟩; refine ⟨_, rfl, ?_⟩; have n0_ := Aside0.mk (blk_below (by exact BK475.out) hb); have n1_ := Aside0.mk (blk_below (by exact BK476.out) hb); have n2_ := Aside0.mk (below_step (by repeat first | exact HB.out | apply pw_below_drewN) hb); clear BK475; clear BK476; clear HB; have BK475 := n0_; have BK476 := n1_; have HB := n2_; clear n0_ n1_ n2_; (try clear hb); (try clear hb2); (try clear hk); (try clear hi); have hcz20_0 := (blk_cell BK475.out 0).trans rfl; have hcz20_1 := (blk_cell BK475.out 1).trans rfl; have hcz21_0 := (blk_cell BK476.out 0).trans rfl; have hcz21_1 := (blk_cell BK476.out 1).trans rfl; have hcz21_2 := (blk_cell BK476.out 2).trans rfl; have hcz21_3 := (blk_cell BK476.out 3).trans rfl) | (go_at_call 21; (with_reducible refine (spec_l08OK.calls k _ _ l0_0 _ _ l0_1 a1_0 a1_1 a1_2 a1_3 true _ ?side1 ?side2 ?side3 ?side4 A8.out).mono ?_); (case side1 => exact (Kd.C_below HR0_0.out HB.out)); (case side2 => exact HC0_0.out); (case side3 => exact (Kd.C_below HR0_1.out HB.out)); (case side4 => exact HC0_1.out); rintro e w22 ⟨rfl, hb⟩; have n0_ := Aside0.mk (blk_below (by exact BK475.out) hb); have n1_ := Aside0.mk (blk_below (by exact BK476.out) hb); have n2_ := Aside0.mk (below_step (by repeat first | exact HB.out | apply pw_below_drewN) hb); clear BK475; clear BK476; clear HB; have BK475 := n0_; have BK476 := n1_; have HB := n2_; clear n0_ n1_ n2_; (try clear hb); (try clear hb2); (try clear hk); (try clear hi)) | (go_at_call 22; (with_reducible refine (spec_l00In.calls a3 0 7 true _ A10.out).mono ?_); rintro e w' ⟨rfl, ⟨nd, rfl⟩⟩) | (go_at_call 33; (with_reducible refine (spec_l00Rises.calls k _ _ l4 0 15 true _ ?side1 ?side2 A12.out).mono ?_); (case side1 => exact (Kd.C_below HR4.out (by repeat first | exact HB.out | apply pw_below_drewN))); (case side2 => exact HC4.out); rintro e w' ⟨rfl, ⟨nd, rfl⟩⟩; have hcz23_0 := (blk_cell BK475.out 0).trans rfl; have hcz23_1 := (blk_cell BK475.out 1).trans rfl; have hcz24_0 := (blk_cell BK476.out 0).trans rfl; have hcz24_1 := (blk_cell BK476.out 1).trans rfl; have hcz24_2 := (blk_cell BK476.out 2).trans rfl; have hcz24_3 := (blk_cell BK476.out 3).trans rfl) | ((with_reducible refine gate_callee (f := 34) rfl ?_); refine gl (some 37) Tryz.func34 #[.agg #[.slice A0_0 l0_0.length c0_0, .slice A0_1 l0_1.length c0_1], .agg #[.int .i64 a1_0, .int .i64 a1_1, .int .i64 a1_2, .bool a1_3], .int .i64 a2, .int .i64 a3, .slice A4 l4.length c4] ?_; (with_reducible refine (spec_l08Place.calls k _ _ l0_0 _ _ l0_1 a1_0 a1_1 a1_2 a1_3 a2 a3 _ _ l4 t481 _ ?side1 ?side2 ?side3 ?side4 ?side5 ?side6 A14.out).mono ?_); (case side1 => exact (Kd.C_below HR0_0.out (by repeat first | exact HB.out | apply pw_below_drewN))); (case side2 => exact HC0_0.out); (case side3 => exact (Kd.C_below HR0_1.out (by repeat first | exact HB.out | apply pw_below_drewN))); (case side4 => exact HC0_1.out); (case side5 => exact (Kd.C_below HR4.out (by repeat first | exact HB.out | apply pw_below_drewN))); (case side6 => exact HC4.out); rintro e w25 ⟨v482, rfl, ho0, hb⟩; refine ⟨_, rfl, ?_⟩; have n0_ := Aside0.mk (Kd.R_lower ho0 (below_size (by repeat first | exact HB.out | apply pw_below_drewN))); have n1_ := Aside0.mk (blk_below (by exact BK475.out) hb); have n2_ := Aside0.mk (blk_below (by exact BK476.out) hb); have n3_ := Aside0.mk (below_step (by repeat first | exact HB.out | apply pw_below_drewN) hb); clear BK475; clear BK476; clear HB; have HO483 := n0_; have BK475 := n1_; have BK476 := n2_; have HB := n3_; clear n0_ n1_ n2_ n3_; (try clear hb); (try clear hb2); (try clear hk); (try clear hi); (try clear ho0)))
     go_ret2
     exact ⟨_, by first | rfl | (simp [*, errW_none, errW_some] <;> rfl), by (with_reducible repeat (first | apply Kd.R_alloc | apply Kd.R_drewN | apply Kd.R_drew)); exact HO483.out, by repeat first | exact HB.out | apply pw_below_drewN⟩
    ·replace c13 := Bool.eq_false_iff.mpr c13
     subst c13
     rw [if_neg (show ¬ (false = true) by decide)] at H
     obtain ⟨y484, hy484⟩ : ∃ y_ : List Int, y_ = (([] : List Int)) := ⟨_, rfl⟩
     replace H : (some (y484, false)) = some (r1, r2) := by first | (rw [hy484]; with_reducible exact H) | (have H2_ := (Option.bind_some _ _).symm.trans H; rw [hy484]; with_reducible exact H2_) | (have H2_ := (Option.bind_some _ _).symm.trans H; with_reducible exact H2_) | with_reducible exact H | (rw [hy484]; exact H) | exact H
     have Ny484 := Aside0.mk hy484
     clear hy484
     simp only [Option.some.injEq, Prod.mk.injEq] at H
     obtain ⟨rfl, rfl⟩ := H
     go_enter Tryz.func15, Tryz.ntmps15
     go_wp2_with (first | ((with_reducible refine gate_dst (N := 5) rfl ?_); refine box_event ?hg (N := 5) ?hd (cs := #[.slice A0_0 l0_0.length c0_0, .slice A0_1 l0_1.length c0_1]) (t := 35) ?hr ?_; (case hd => rfl); (case hg => rfl); (case hr => first | (go_simp; done) | (go_simp; rfl)); intro gb475 hg w26 hbox hb; have n0_ := Aside0.mk (below_step (by repeat first | exact HB.out | apply pw_below_drewN) hb); have n1_ := Aside0.mk (hbox); clear HB; have HB := n0_; have BK475 := n1_; clear n0_ n1_; clear hb hbox hg) | ((with_reducible refine gate_dst (N := 6) rfl ?_); refine box_event ?hg (N := 6) ?hd (cs := #[.int .i64 a1_0, .int .i64 a1_1, .int .i64 a1_2, .bool a1_3]) (t := 37) ?hr ?_; (case hd => rfl); (case hg => rfl); (case hr => first | (go_simp; done) | (go_simp; rfl)); intro gb476 hg w27 hbox hb; have n0_ := Aside0.mk (blk_below (by exact BK475.out) hb); have n1_ := Aside0.mk (below_step (by repeat first | exact HB.out | apply pw_below_drewN) hb); have n2_ := Aside0.mk (hbox); clear BK475; clear HB; have BK475 := n0_; have HB := n1_; have BK476 := n2_; clear n0_ n1_ n2_; clear hb hbox hg; have hcz29_0 := (blk_cell BK475.out 0).trans rfl; have hcz29_1 := (blk_cell BK475.out 1).trans rfl) | ((with_reducible refine gate_callee (f := 20) rfl ?_); refine gl (some 13) Tryz.func20 #[.agg #[.slice A0_0 l0_0.length c0_0, .slice A0_1 l0_1.length c0_1]] ?_; (with_reducible refine (spec_l06OK.calls k _ _ l0_0 _ _ l0_1 true _ ?side1 ?side2 ?side3 ?side4 A6.out).mono ?_); (case side1 => exact (Kd.C_below HR0_0.out HB.out)); (case side2 => exact HC0_0.out); (case side3 => exact (Kd.C_below HR0_1.out HB.out)); (case side4 => exact HC0_1.out); rintro e w30 ⟨rfl, hb⟩; refine ⟨_, rfl, ?_⟩; have n0_ := Aside0.mk (blk_below (by exact BK475.out) hb); have n1_ := Aside0.mk (blk_below (by exact BK476.out) hb); have n2_ := Aside0.mk (below_step (by repeat first | exact HB.out | apply pw_below_drewN) hb); clear BK475; clear BK476; clear HB; have BK475 := n0_; have BK476 := n1_; have HB := n2_; clear n0_ n1_ n2_; (try clear hb); (try clear hb2); (try clear hk); (try clear hi); have hcz31_0 := (blk_cell BK475.out 0).trans rfl; have hcz31_1 := (blk_cell BK475.out 1).trans rfl; have hcz32_0 := (blk_cell BK476.out 0).trans rfl; have hcz32_1 := (blk_cell BK476.out 1).trans rfl; have hcz32_2 := (blk_cell BK476.out 2).trans rfl; have hcz32_3 := (blk_cell BK476.out 3).trans rfl) | (go_at_call 21; (with_reducible refine (spec_l08OK.calls k _ _ l0_0 _ _ l0_1 a1_0 a1_1 a1_2 a1_3 true _ ?side1 ?side2 ?side3 ?side4 A8.out).mono ?_); (case side1 => exact (Kd.C_below HR0_0.out HB.out)); (case side2 => exact HC0_0.out); (case side3 => exact (Kd.C_below HR0_1.out HB.out)); (case side4 => exact HC0_1.out); rintro e w33 ⟨rfl, hb⟩; have n0_ := Aside0.mk (blk_below (by exact BK475.out) hb); have n1_ := Aside0.mk (blk_below (by exact BK476.out) hb); have n2_ := Aside0.mk (below_step (by repeat first | exact HB.out | apply pw_below_drewN) hb); clear BK475; clear BK476; clear HB; have BK475 := n0_; have BK476 := n1_; have HB := n2_; clear n0_ n1_ n2_; (try clear hb); (try clear hb2); (try clear hk); (try clear hi)) | (go_at_call 22; (with_reducible refine (spec_l00In.calls a3 0 7 true _ A10.out).mono ?_); rintro e w' ⟨rfl, ⟨nd, rfl⟩⟩) | (go_at_call 33; (with_reducible refine (spec_l00Rises.calls k _ _ l4 0 15 false _ ?side1 ?side2 A12.out).mono ?_); (case side1 => exact (Kd.C_below HR4.out (by repeat first | exact HB.out | apply pw_below_drewN))); (case side2 => exact HC4.out); rintro e w' ⟨rfl, ⟨nd, rfl⟩⟩) | ((with_reducible refine gate_dst (N := 31) rfl ?_); refine Kd.R_lit (Kd.int .i64) _ 2 ?hg (N := 31) ?hd (xs := ([] : List Int)) (inner := []) (ok := fun _ => True) (okp := fun _ => True) ?hr ?hp (fun _ hk => hk) trivial (Below.refl _ _) (Nat.le_refl _) (by simp) ?_; (case hd => rfl); (case hg => rfl); (case hr => first | (go_simp; done) | (go_simp; rfl)); (case hp => exact (Reps.none _ _)); intro v485 w34 ho35 hb hg_ hnew_; clear hg_ hnew_; (first | rw [← Ny484.out] at ho35 | (simp only [Int.reduceToNat] at ho35; rw [← Ny484.out] at ho35)); have n0_ := Aside0.mk (Kd.R_lower ho35 (below_size (by repeat first | exact HB.out | apply pw_below_drewN))); have n1_ := Aside0.mk (blk_below (by exact BK475.out) hb); have n2_ := Aside0.mk (blk_below (by exact BK476.out) hb); have n3_ := Aside0.mk (below_step (by repeat first | exact HB.out | apply pw_below_drewN) hb); clear BK475; clear BK476; clear HB; have HO486 := n0_; have BK475 := n1_; have BK476 := n2_; have HB := n3_; clear n0_ n1_ n2_ n3_; clear hb ho35))
     go_ret2
     exact ⟨_, by first | rfl | (simp [*, errW_none, errW_some] <;> rfl), by (with_reducible repeat (first | apply Kd.R_alloc | apply Kd.R_drewN | apply Kd.R_drew)); exact HO486.out, by repeat first | exact HB.out | apply pw_below_drewN⟩
   ·replace c11 := Bool.eq_false_iff.mpr c11
    subst c11
    rw [if_neg (show ¬ (false = true) by decide)] at H
    obtain ⟨y487, hy487⟩ : ∃ y_ : List Int, y_ = (([] : List Int)) := ⟨_, rfl⟩
    replace H : (some (y487, false)) = some (r1, r2) := by first | (rw [hy487]; with_reducible exact H) | (have H2_ := (Option.bind_some _ _).symm.trans H; rw [hy487]; with_reducible exact H2_) | (have H2_ := (Option.bind_some _ _).symm.trans H; with_reducible exact H2_) | with_reducible exact H | (rw [hy487]; exact H) | exact H
    have Ny487 := Aside0.mk hy487
    clear hy487
    simp only [Option.some.injEq, Prod.mk.injEq] at H
    obtain ⟨rfl, rfl⟩ := H
    go_enter Tryz.func15, Tryz.ntmps15
    go_wp2_with (first | ((with_reducible refine gate_dst (N := 5) rfl ?_); refine box_event ?hg (N := 5) ?hd (cs := #[.slice A0_0 l0_0.length c0_0, .slice A0_1 l0_1.length c0_1]) (t := 35) ?hr ?_; (case hd => rfl); (case hg => rfl); (case hr => first | (go_simp; done) | (go_simp; rfl)); intro gb475 hg w36 hbox hb; have n0_ := Aside0.mk (below_step (by repeat first | exact HB.out | apply pw_below_drewN) hb); have n1_ := Aside0.mk (hbox); clear HB; have HB := n0_; have BK475 := n1_; clear n0_ n1_; clear hb hbox hg) | ((with_reducible refine gate_dst (N := 6) rfl ?_); refine box_event ?hg (N := 6) ?hd (cs := #[.int .i64 a1_0, .int .i64 a1_1, .int .i64 a1_2, .bool a1_3]) (t := 37) ?hr ?_; (case hd => rfl); (case hg => rfl); (case hr => first | (go_simp; done) | (go_simp; rfl)); intro gb476 hg w37 hbox hb; have n0_ := Aside0.mk (blk_below (by exact BK475.out) hb); have n1_ := Aside0.mk (below_step (by repeat first | exact HB.out | apply pw_below_drewN) hb); have n2_ := Aside0.mk (hbox); clear BK475; clear HB; have BK475 := n0_; have HB := n1_; have BK476 := n2_; clear n0_ n1_ n2_; clear hb hbox hg; have hcz39_0 := (blk_cell BK475.out 0).trans rfl; have hcz39_1 := (blk_cell BK475.out 1).trans rfl) | ((with_reducible refine gate_callee (f := 20) rfl ?_); refine gl (some 13) Tryz.func20 #[.agg #[.slice A0_0 l0_0.length c0_0, .slice A0_1 l0_1.length c0_1]] ?_; (with_reducible refine (spec_l06OK.calls k _ _ l0_0 _ _ l0_1 true _ ?side1 ?side2 ?side3 ?side4 A6.out).mono ?_); (case side1 => exact (Kd.C_below HR0_0.out HB.out)); (case side2 => exact HC0_0.out); (case side3 => exact (Kd.C_below HR0_1.out HB.out)); (case side4 => exact HC0_1.out); rintro e w40 ⟨rfl, hb⟩; refine ⟨_, rfl, ?_⟩; have n0_ := Aside0.mk (blk_below (by exact BK475.out) hb); have n1_ := Aside0.mk (blk_below (by exact BK476.out) hb); have n2_ := Aside0.mk (below_step (by repeat first | exact HB.out | apply pw_below_drewN) hb); clear BK475; clear BK476; clear HB; have BK475 := n0_; have BK476 := n1_; have HB := n2_; clear n0_ n1_ n2_; (try clear hb); (try clear hb2); (try clear hk); (try clear hi); have hcz41_0 := (blk_cell BK475.out 0).trans rfl; have hcz41_1 := (blk_cell BK475.out 1).trans rfl; have hcz42_0 := (blk_cell BK476.out 0).trans rfl; have hcz42_1 := (blk_cell BK476.out 1).trans rfl; have hcz42_2 := (blk_cell BK476.out 2).trans rfl; have hcz42_3 := (blk_cell BK476.out 3).trans rfl) | (go_at_call 21; (with_reducible refine (spec_l08OK.calls k _ _ l0_0 _ _ l0_1 a1_0 a1_1 a1_2 a1_3 true _ ?side1 ?side2 ?side3 ?side4 A8.out).mono ?_); (case side1 => exact (Kd.C_below HR0_0.out HB.out)); (case side2 => exact HC0_0.out); (case side3 => exact (Kd.C_below HR0_1.out HB.out)); (case side4 => exact HC0_1.out); rintro e w43 ⟨rfl, hb⟩; have n0_ := Aside0.mk (blk_below (by exact BK475.out) hb); have n1_ := Aside0.mk (blk_below (by exact BK476.out) hb); have n2_ := Aside0.mk (below_step (by repeat first | exact HB.out | apply pw_below_drewN) hb); clear BK475; clear BK476; clear HB; have BK475 := n0_; have BK476 := n1_; have HB := n2_; clear n0_ n1_ n2_; (try clear hb); (try clear hb2); (try clear hk); (try clear hi)) | (go_at_call 22; (with_reducible refine (spec_l00In.calls a3 0 7 false _ A10.out).mono ?_); rintro e w' ⟨rfl, ⟨nd, rfl⟩⟩) | ((with_reducible refine gate_dst (N := 31) rfl ?_); refine Kd.R_lit (Kd.int .i64) _ 2 ?hg (N := 31) ?hd (xs := ([] : List Int)) (inner := []) (ok := fun _ => True) (okp := fun _ => True) ?hr ?hp (fun _ hk => hk) trivial (Below.refl _ _) (Nat.le_refl _) (by simp) ?_; (case hd => rfl); (case hg => rfl); (case hr => first | (go_simp; done) | (go_simp; rfl)); (case hp => exact (Reps.none _ _)); intro v488 w44 ho45 hb hg_ hnew_; clear hg_ hnew_; (first | rw [← Ny487.out] at ho45 | (simp only [Int.reduceToNat] at ho45; rw [← Ny487.out] at ho45)); have n0_ := Aside0.mk (Kd.R_lower ho45 (below_size (by repeat first | exact HB.out | apply pw_below_drewN))); have n1_ := Aside0.mk (blk_below (by exact BK475.out) hb); have n2_ := Aside0.mk (blk_below (by exact BK476.out) hb); have n3_ := Aside0.mk (below_step (by repeat first | exact HB.out | apply pw_below_drewN) hb); clear BK475; clear BK476; clear HB; have HO489 := n0_; have BK475 := n1_; have BK476 := n2_; have HB := n3_; clear n0_ n1_ n2_ n3_; clear hb ho45))
    go_ret2
    exact ⟨_, by first | rfl | (simp [*, errW_none, errW_some] <;> rfl), by (with_reducible repeat (first | apply Kd.R_alloc | apply Kd.R_drewN | apply Kd.R_drew)); exact HO489.out, by repeat first | exact HB.out | apply pw_below_drewN⟩
  ·replace c9 := Bool.eq_false_iff.mpr c9
   subst c9
   rw [if_neg (show ¬ (false = true) by decide)] at H
   obtain ⟨y490, hy490⟩ : ∃ y_ : List Int, y_ = (([] : List Int)) := ⟨_, rfl⟩
   replace H : (some (y490, false)) = some (r1, r2) := by first | (rw [hy490]; with_reducible exact H) | (have H2_ := (Option.bind_some _ _).symm.trans H; rw [hy490]; with_reducible exact H2_) | (have H2_ := (Option.bind_some _ _).symm.trans H; with_reducible exact H2_) | with_reducible exact H | (rw [hy490]; exact H) | exact H
   have Ny490 := Aside0.mk hy490
   clear hy490
   simp only [Option.some.injEq, Prod.mk.injEq] at H
   obtain ⟨rfl, rfl⟩ := H
   go_enter Tryz.func15, Tryz.ntmps15
   go_wp2_with (first | ((with_reducible refine gate_dst (N := 5) rfl ?_); refine box_event ?hg (N := 5) ?hd (cs := #[.slice A0_0 l0_0.length c0_0, .slice A0_1 l0_1.length c0_1]) (t := 35) ?hr ?_; (case hd => rfl); (case hg => rfl); (case hr => first | (go_simp; done) | (go_simp; rfl)); intro gb475 hg w46 hbox hb; have n0_ := Aside0.mk (below_step (by repeat first | exact HB.out | apply pw_below_drewN) hb); have n1_ := Aside0.mk (hbox); clear HB; have HB := n0_; have BK475 := n1_; clear n0_ n1_; clear hb hbox hg) | ((with_reducible refine gate_dst (N := 6) rfl ?_); refine box_event ?hg (N := 6) ?hd (cs := #[.int .i64 a1_0, .int .i64 a1_1, .int .i64 a1_2, .bool a1_3]) (t := 37) ?hr ?_; (case hd => rfl); (case hg => rfl); (case hr => first | (go_simp; done) | (go_simp; rfl)); intro gb476 hg w47 hbox hb; have n0_ := Aside0.mk (blk_below (by exact BK475.out) hb); have n1_ := Aside0.mk (below_step (by repeat first | exact HB.out | apply pw_below_drewN) hb); have n2_ := Aside0.mk (hbox); clear BK475; clear HB; have BK475 := n0_; have HB := n1_; have BK476 := n2_; clear n0_ n1_ n2_; clear hb hbox hg; have hcz49_0 := (blk_cell BK475.out 0).trans rfl; have hcz49_1 := (blk_cell BK475.out 1).trans rfl) | ((with_reducible refine gate_callee (f := 20) rfl ?_); refine gl (some 13) Tryz.func20 #[.agg #[.slice A0_0 l0_0.length c0_0, .slice A0_1 l0_1.length c0_1]] ?_; (with_reducible refine (spec_l06OK.calls k _ _ l0_0 _ _ l0_1 true _ ?side1 ?side2 ?side3 ?side4 A6.out).mono ?_); (case side1 => exact (Kd.C_below HR0_0.out HB.out)); (case side2 => exact HC0_0.out); (case side3 => exact (Kd.C_below HR0_1.out HB.out)); (case side4 => exact HC0_1.out); rintro e w50 ⟨rfl, hb⟩; refine ⟨_, rfl, ?_⟩; have n0_ := Aside0.mk (blk_below (by exact BK475.out) hb); have n1_ := Aside0.mk (blk_below (by exact BK476.out) hb); have n2_ := Aside0.mk (below_step (by repeat first | exact HB.out | apply pw_below_drewN) hb); clear BK475; clear BK476; clear HB; have BK475 := n0_; have BK476 := n1_; have HB := n2_; clear n0_ n1_ n2_; (try clear hb); (try clear hb2); (try clear hk); (try clear hi); have hcz51_0 := (blk_cell BK475.out 0).trans rfl; have hcz51_1 := (blk_cell BK475.out 1).trans rfl; have hcz52_0 := (blk_cell BK476.out 0).trans rfl; have hcz52_1 := (blk_cell BK476.out 1).trans rfl; have hcz52_2 := (blk_cell BK476.out 2).trans rfl; have hcz52_3 := (blk_cell BK476.out 3).trans rfl) | (go_at_call 21; (with_reducible refine (spec_l08OK.calls k _ _ l0_0 _ _ l0_1 a1_0 a1_1 a1_2 a1_3 false _ ?side1 ?side2 ?side3 ?side4 A8.out).mono ?_); (case side1 => exact (Kd.C_below HR0_0.out HB.out)); (case side2 => exact HC0_0.out); (case side3 => exact (Kd.C_below HR0_1.out HB.out)); (case side4 => exact HC0_1.out); rintro e w53 ⟨rfl, hb⟩; have n0_ := Aside0.mk (blk_below (by exact BK475.out) hb); have n1_ := Aside0.mk (blk_below (by exact BK476.out) hb); have n2_ := Aside0.mk (below_step (by repeat first | exact HB.out | apply pw_below_drewN) hb); clear BK475; clear BK476; clear HB; have BK475 := n0_; have BK476 := n1_; have HB := n2_; clear n0_ n1_ n2_; (try clear hb); (try clear hb2); (try clear hk); (try clear hi)) | ((with_reducible refine gate_dst (N := 31) rfl ?_); refine Kd.R_lit (Kd.int .i64) _ 2 ?hg (N := 31) ?hd (xs := ([] : List Int)) (inner := []) (ok := fun _ => True) (okp := fun _ => True) ?hr ?hp (fun _ hk => hk) trivial (Below.refl _ _) (Nat.le_refl _) (by simp) ?_; (case hd => rfl); (case hg => rfl); (case hr => first | (go_simp; done) | (go_simp; rfl)); (case hp => exact (Reps.none _ _)); intro v491 w54 ho55 hb hg_ hnew_; clear hg_ hnew_; (first | rw [← Ny490.out] at ho55 | (simp only [Int.reduceToNat] at ho55; rw [← Ny490.out] at ho55)); have n0_ := Aside0.mk (Kd.R_lower ho55 (below_size (by repeat first | exact HB.out | apply pw_below_drewN))); have n1_ := Aside0.mk (blk_below (by exact BK475.out) hb); have n2_ := Aside0.mk (blk_below (by exact BK476.out) hb); have n3_ := Aside0.mk (below_step (by repeat first | exact HB.out | apply pw_below_drewN) hb); clear BK475; clear BK476; clear HB; have HO492 := n0_; have BK475 := n1_; have BK476 := n2_; have HB := n3_; clear n0_ n1_ n2_ n3_; clear hb ho55))
   go_ret2
   exact ⟨_, by first | rfl | (simp [*, errW_none, errW_some] <;> rfl), by (with_reducible repeat (first | apply Kd.R_alloc | apply Kd.R_drewN | apply Kd.R_drew)); exact HO492.out, by repeat first | exact HB.out | apply pw_below_drewN⟩
 ·replace c7 := Bool.eq_false_iff.mpr c7
  subst c7
  rw [if_neg (show ¬ (false = true) by decide)] at H
  obtain ⟨y493, hy493⟩ : ∃ y_ : List Int, y_ = (([] : List Int)) := ⟨_, rfl⟩
  replace H : (some (y493, false)) = some (r1, r2) := by first | (rw [hy493]; with_reducible exact H) | (have H2_ := (Option.bind_some _ _).symm.trans H; rw [hy493]; with_reducible exact H2_) | (have H2_ := (Option.bind_some _ _).symm.trans H; with_reducible exact H2_) | with_reducible exact H | (rw [hy493]; exact H) | exact H
  have Ny493 := Aside0.mk hy493
  clear hy493
  simp only [Option.some.injEq, Prod.mk.injEq] at H
  obtain ⟨rfl, rfl⟩ := H
  go_enter Tryz.func15, Tryz.ntmps15
  go_wp2_with (first | ((with_reducible refine gate_dst (N := 5) rfl ?_); refine box_event ?hg (N := 5) ?hd (cs := #[.slice A0_0 l0_0.length c0_0, .slice A0_1 l0_1.length c0_1]) (t := 35) ?hr ?_; (case hd => rfl); (case hg => rfl); (case hr => first | (go_simp; done) | (go_simp; rfl)); intro gb475 hg w56 hbox hb; have n0_ := Aside0.mk (below_step (by repeat first | exact HB.out | apply pw_below_drewN) hb); have n1_ := Aside0.mk (hbox); clear HB; have HB := n0_; have BK475 := n1_; clear n0_ n1_; clear hb hbox hg) | ((with_reducible refine gate_dst (N := 6) rfl ?_); refine box_event ?hg (N := 6) ?hd (cs := #[.int .i64 a1_0, .int .i64 a1_1, .int .i64 a1_2, .bool a1_3]) (t := 37) ?hr ?_; (case hd => rfl); (case hg => rfl); (case hr => first | (go_simp; done) | (go_simp; rfl)); intro gb476 hg w57 hbox hb; have n0_ := Aside0.mk (blk_below (by exact BK475.out) hb); have n1_ := Aside0.mk (below_step (by repeat first | exact HB.out | apply pw_below_drewN) hb); have n2_ := Aside0.mk (hbox); clear BK475; clear HB; have BK475 := n0_; have HB := n1_; have BK476 := n2_; clear n0_ n1_ n2_; clear hb hbox hg; have hcz59_0 := (blk_cell BK475.out 0).trans rfl; have hcz59_1 := (blk_cell BK475.out 1).trans rfl) | ((with_reducible refine gate_callee (f := 20) rfl ?_); refine gl (some 13) Tryz.func20 #[.agg #[.slice A0_0 l0_0.length c0_0, .slice A0_1 l0_1.length c0_1]] ?_; (with_reducible refine (spec_l06OK.calls k _ _ l0_0 _ _ l0_1 false _ ?side1 ?side2 ?side3 ?side4 A6.out).mono ?_); (case side1 => exact (Kd.C_below HR0_0.out HB.out)); (case side2 => exact HC0_0.out); (case side3 => exact (Kd.C_below HR0_1.out HB.out)); (case side4 => exact HC0_1.out); rintro e w60 ⟨rfl, hb⟩; refine ⟨_, rfl, ?_⟩; have n0_ := Aside0.mk (blk_below (by exact BK475.out) hb); have n1_ := Aside0.mk (blk_below (by exact BK476.out) hb); have n2_ := Aside0.mk (below_step (by repeat first | exact HB.out | apply pw_below_drewN) hb); clear BK475; clear BK476; clear HB; have BK475 := n0_; have BK476 := n1_; have HB := n2_; clear n0_ n1_ n2_; (try clear hb); (try clear hb2); (try clear hk); (try clear hi)) | ((with_reducible refine gate_dst (N := 31) rfl ?_); refine Kd.R_lit (Kd.int .i64) _ 2 ?hg (N := 31) ?hd (xs := ([] : List Int)) (inner := []) (ok := fun _ => True) (okp := fun _ => True) ?hr ?hp (fun _ hk => hk) trivial (Below.refl _ _) (Nat.le_refl _) (by simp) ?_; (case hd => rfl); (case hg => rfl); (case hr => first | (go_simp; done) | (go_simp; rfl)); (case hp => exact (Reps.none _ _)); intro v494 w61 ho62 hb hg_ hnew_; clear hg_ hnew_; (first | rw [← Ny493.out] at ho62 | (simp only [Int.reduceToNat] at ho62; rw [← Ny493.out] at ho62)); have n0_ := Aside0.mk (Kd.R_lower ho62 (below_size (by repeat first | exact HB.out | apply pw_below_drewN))); have n1_ := Aside0.mk (blk_below (by exact BK475.out) hb); have n2_ := Aside0.mk (blk_below (by exact BK476.out) hb); have n3_ := Aside0.mk (below_step (by repeat first | exact HB.out | apply pw_below_drewN) hb); clear BK475; clear BK476; clear HB; have HO495 := n0_; have BK475 := n1_; have BK476 := n2_; have HB := n3_; clear n0_ n1_ n2_ n3_; clear hb ho62))
  go_ret2
  exact ⟨_, by first | rfl | (simp [*, errW_none, errW_some] <;> rfl), by (with_reducible repeat (first | apply Kd.R_alloc | apply Kd.R_drewN | apply Kd.R_drew)); exact HO495.out, by repeat first | exact HB.out | apply pw_below_drewN⟩

/-! ### impl_between: function 27 -/
def impl_between.f (a0 : Int) (a1 : Int) (a2 : Int) : Option (Bool) := if a0 ≥ a1 then (some (decide (a0 ≤ a2))) else (some false)
set_option maxHeartbeats 8000000 in
set_option maxRecDepth 100000 in
theorem impl_between.calls (a0 : Int) (a1 : Int) (a2 : Int) (r : Bool) (w : World) (h : impl_between.f a0 a1 a2 = some r) :
  Calls Tryz.prog 27 #[.int .i64 a0, .int .i64 a1, .int .i64 a2] w fun e w' => e = .returned (.bool r) ∧ Drawn0 w w' := by
 have H : (if a0 ≥ a1 then (some (decide (a0 ≤ a2))) else (some false)) = some r := h
 clear h
 by_cases c4 : a0 ≥ a1
 ·rw [if_pos c4] at H
  have c4b0 : decide (a1 ≤ a0) = true := decide_eq_true c4
  clear c4
  obtain rfl := Option.some.inj H
  go_enter Tryz.func27, Tryz.ntmps27
  go_wp2
  go_ret
  exact ⟨by first | rfl | (simp; done) | (simp [*]; done), by repeat (first | exact Drawn0.refl _ | apply Drawn0.step)⟩
 ·rw [if_neg c4] at H
  have c4b0 : decide (a1 ≤ a0) = false := decide_eq_false c4
  clear c4
  obtain rfl := Option.some.inj H
  go_enter Tryz.func27, Tryz.ntmps27
  go_wp2
  go_ret
  exact ⟨by first | rfl | (simp; done) | (simp [*]; done), by repeat (first | exact Drawn0.refl _ | apply Drawn0.step)⟩

/-! ### impl_isNode: function 78 -/
def impl_isNode.f (a0 : Int) : Option (Bool) := (impl_between.f a0 0 15).bind fun t327 => (some t327)
set_option maxHeartbeats 8000000 in
set_option maxRecDepth 100000 in
theorem impl_isNode.calls (a0 : Int) (r : Bool) (w : World) (h : impl_isNode.f a0 = some r) :
  Calls Tryz.prog 78 #[.int .i64 a0] w fun e w' => e = .returned (.bool r) ∧ Drawn0 w w' := by
 have H : ((impl_between.f a0 0 15).bind fun t327 => (some t327)) = some r := h
 clear h
 replace H := Option.bind_eq_some_iff.mp H
 obtain ⟨t327, A20, H⟩ := H
 set_option simprocs false in try dsimp only at H
 have A2 := Aside0.mk A20
 clear A20
 obtain rfl := Option.some.inj H
 go_enter Tryz.func78, Tryz.ntmps78
 go_wp2_with (first | ((with_reducible refine gate_callee (f := 27) rfl ?_); refine gl (some 4) Tryz.func27 #[.int .i64 a0, .int .i64 0, .int .i64 15] ?_; (with_reducible refine (impl_between.calls a0 0 15 t327 _ A2.out).mono ?_); rintro e w' ⟨rfl, ⟨nd, rfl⟩⟩; refine ⟨_, rfl, ?_⟩))
 go_ret
 exact ⟨by first | rfl | (simp; done) | (simp [*]; done), by repeat (first | exact Drawn0.refl _ | apply Drawn0.step)⟩

/-! ### impl_Tree_devicesOk: function 65 -/
def impl_Tree_devicesOk.l0 : Nat → List (S72) → Int → Int → List (S72) → List (S68) → Option (Bool)
 | 0, _, _, _, _, _ => none
 | k + 1, x6, x7, x8, x329000, x329001 => if x8 < x7 then (if 0 ≤ x8 then (if x8 < (x6.length : Int) then ((impl_isNode.f ((rd_T72 x6 x8).f0)).bind fun t331 => (if t331 = true then (if x8 > 0 then (if 0 ≤ (wrap64 (x8 - 1)) then (if (wrap64 (x8 - 1)) < (x329000.length : Int) then (if ((rd_T72 x6 x8).f0) ≤ ((rd_T72 x329000 (wrap64 (x8 - 1))).f0) then (some false) else ((impl_between.f ((rd_T72 x6 x8).f1) 0 8).bind fun t333 => (if t333 = true then (impl_Tree_devicesOk.l0 k x6 x7 (wrap64 (x8 + 1)) x329000 x329001) else (some false)))) else (none)) else (none)) else ((impl_between.f ((rd_T72 x6 x8).f1) 0 8).bind fun t334 => (if t334 = true then (impl_Tree_devicesOk.l0 k x6 x7 (wrap64 (x8 + 1)) x329000 x329001) else (some false)))) else (some false))) else (none)) else (none)) else (some (decide ((x329000.length : Int) ≤ 16)))
def impl_Tree_devicesOk.f (k : Nat) (l0_0 : List (S72)) (l0_1 : List (S68)) : Option (Bool) := impl_Tree_devicesOk.l0 k l0_0 (l0_0.length : Int) 0 l0_0 l0_1
set_option maxHeartbeats 8000000 in
set_option maxRecDepth 100000 in
theorem impl_Tree_devicesOk.calls (k : Nat) (A0_0 : Option Addr) (c0_0 : Nat) (l0_0 : List (S72)) (A0_1 : Option Addr) (c0_1 : Nat) (l0_1 : List (S68)) (r : Bool) (w : World) (hr0_0 : Kd.C k72 w A0_0 l0_0.length l0_0) (hc0_0 : l0_0.length ≤ c0_0) (hr0_1 : Kd.C k68 w A0_1 l0_1.length l0_1) (hc0_1 : l0_1.length ≤ c0_1) (h : impl_Tree_devicesOk.f k l0_0 l0_1 = some r) :
  Calls Tryz.prog 65 #[.agg #[.slice A0_0 l0_0.length c0_0, .slice A0_1 l0_1.length c0_1]] w fun e w' => e = .returned (.bool r) ∧ Below w.heap.size w w' := by
 have hm := Kd.C_max hr0_0
 have HR := Aside0.mk hr0_0
 clear hr0_0 hc0_0 hr0_1 hc0_1
 unfold impl_Tree_devicesOk.f at h
 have H0 := Aside0.mk h
 clear h
 go_enter Tryz.func65, Tryz.ntmps65
 go_wp2_with fail
 have BK := Aside0.mk (blk_new w (.cells #[.slice A0_0 l0_0.length c0_0, .slice A0_1 l0_1.length c0_1] 35))
 have HB := Aside0.mk (below_alloc (Below.refl w.heap.size w) (.cells #[.slice A0_0 l0_0.length c0_0, .slice A0_1 l0_1.length c0_1] 35))
 generalize (w.alloc (.cells #[.slice A0_0 l0_0.length c0_0, .slice A0_1 l0_1.length c0_1] 35)) = w1 at BK HB ⊢
 obtain ⟨gt, hgt⟩ : ∃ g, g = w.heap.size := ⟨_, rfl⟩
 rw [← hgt] at BK ⊢
 clear hgt
 go_loopg [8] k (fun gg s8 wr => ∃ x : Int, s8 = .int .i64 x ∧ Aside0 (impl_Tree_devicesOk.l0 gg l0_0 (l0_0.length : Int) x l0_0 l0_1 = some r) ∧ Aside0 (wr.heap[gt]? = some (.cells #[.slice A0_0 l0_0.length c0_0, .slice A0_1 l0_1.length c0_1] 35 (0, 0))) ∧ Aside0 (Below w.heap.size w wr))
 case atStart => exact ⟨0, rfl, H0, BK, HB⟩
 case round =>
  clear H0 BK HB
  obtain ⟨x, rfl, HA, BK, HB⟩ := hrel
  have ht0 := (blk_cell BK.out 0).trans rfl
  cases gk with
  | zero => exact absurd HA.out (by simp [impl_Tree_devicesOk.l0])
  | succ k1 =>
  have H := HA.out
  clear HA
  simp only [impl_Tree_devicesOk.l0] at H
  by_cases c : x < (l0_0.length : Int)
  case neg =>
   rw [if_neg c] at H
   have HF := Aside0.mk (Option.some.inj H)
   have cb := decide_eq_false c
   clear H c
   go_wp2_with fail
   go_ret
   exact ⟨by rw [← HF.out]; simp, HB.out⟩
  rw [if_pos c] at H
  by_cases c0 : 0 ≤ x
  case neg => rw [if_neg c0] at H; cases H
  rw [if_pos c0, if_pos c] at H
  obtain ⟨t1, A1, H⟩ := Option.bind_eq_some_iff.1 H
  have A1 := Aside0.mk A1
  obtain ⟨ad, rfl, hx0, hx1⟩ := at_T72 HR.out x c0 c
  replace hx0 := (HB.out.cell (World.block_lt_of_cell? w _ hx0)).trans hx0
  replace hx1 := (HB.out.cell (World.block_lt_of_cell? w _ hx1)).trans hx1
  have HPV : Aside0 (∀ y, y = wrap64 (x - 1) → 0 ≤ y → y < (l0_0.length : Int) → w.cell? (ad.add (y.toNat * 2)) = some (.int .i64 (rd_T72 l0_0 y).f0)) := ⟨fun y _ h0 h1 => by
   obtain ⟨ad', e, hy, _⟩ := at_T72 HR.out y h0 h1
   cases e
   exact hy⟩
  have HH := Aside0.mk H
  have q0 := eq_true c0
  have q1 := eq_true c
  have hgl := blk_lt BK.out
  clear H
  generalize rd_T72 l0_0 x = b at A1 HH hx0 hx1
  go_wp2_with fail
  have HG := Aside0.mk (blk_new wr (.cells #[.int .i64 b.f0, .int .i64 b.f1] 72))
  have BK2 := Aside0.mk (blk_alloc BK.out (.cells #[.int .i64 b.f0, .int .i64 b.f1] 72))
  have HB2 := Aside0.mk (below_alloc HB.out (.cells #[.int .i64 b.f0, .int .i64 b.f1] 72))
  generalize (wr.alloc (.cells #[.int .i64 b.f0, .int .i64 b.f1] 72)) = W at HG BK2 HB2 ⊢
  generalize wr.heap.size = gb at HG ⊢
  clear BK HB hx0 hx1 ht0 hgl
  have hb0 := (blk_cell HG.out 0).trans rfl
  have hb1 := (blk_cell HG.out 1).trans rfl
  have ht0 := (blk_cell BK2.out 0).trans rfl
  cases t1 with
  | false =>
   have HF := Aside0.mk (Option.some.inj HH.out)
   clear HH
   go_quiet ((go_at_call 78; exact quietD (impl_isNode.calls _ _ _ A1.out)))
   go_wp2_with fail
   go_ret
   exact ⟨by rw [← HF.out]; rfl, pw_below_drewN HB2.out _⟩
  | true =>
  have H := HH.out
  clear HH
  rw [if_pos rfl] at H
  have hwx : wrap64 (x - 1) = x - 1 := by unfold wrap64; omega
  have hww : IntKind.i64.wrap (x - 1) = x - 1 := (i64_w _).trans hwx
  rw [show wrap64 (x + 1) = x + 1 from by unfold wrap64; omega] at H
  by_cases c5 : x > 0
  ·rw [if_pos c5, hwx] at H
   have c5b := decide_eq_true (show 0 < x by omega)
   by_cases c6 : 0 ≤ x - 1
   case neg => omega
   by_cases c7 : x - 1 < (l0_0.length : Int)
   case neg => omega
   rw [if_pos c6, if_pos c7] at H
   have hp := HPV.out (x - 1) hwx.symm c6 c7
   replace hp := (HB2.out.cell (World.block_lt_of_cell? w _ hp)).trans hp
   have p6 := eq_true c6
   have p7 := eq_true c7
   clear hwx
   generalize rd_T72 l0_0 (x - 1) = pv at H hp
   have hpn := hp
   rw [show (x - 1).toNat = x.toNat - 1 from by omega] at hpn
   have p6n := eq_true (show 1 ≤ x by omega)
   have p7n := eq_true (show x ≤ (l0_0.length : Int) by omega)
   clear c5 c6 c7 HPV
   by_cases c9 : b.f0 ≤ pv.f0
   ·rw [if_pos c9] at H
    have HF := Aside0.mk (Option.some.inj H)
    have c9b := decide_eq_true (show b.f0 ≤ pv.f0 from c9)
    clear H c9
    go_quiet ((go_at_call 78; exact quietD (impl_isNode.calls _ _ _ A1.out)))
    go_wp2_with fail
    go_ret
    exact ⟨by rw [← HF.out]; rfl, pw_below_drewN HB2.out _⟩
   rw [if_neg c9] at H
   have c9b := decide_eq_false (show ¬ b.f0 ≤ pv.f0 from c9)
   obtain ⟨t2, A2, H⟩ := Option.bind_eq_some_iff.1 H
   have A2 := Aside0.mk A2
   have HH := Aside0.mk H
   clear H c9
   cases t2 with
   | false =>
    have HF := Aside0.mk (Option.some.inj HH.out)
    clear HH
    go_quiet (first | (go_at_call 78; exact quietD (impl_isNode.calls _ _ _ A1.out)) | (go_at_call 27; exact quietD (impl_between.calls _ _ _ _ _ A2.out)))
    go_wp2_with fail
    go_ret
    exact ⟨by rw [← HF.out]; rfl, pw_below_drewN HB2.out _⟩
   | true =>
    have HN := Aside0.mk (show impl_Tree_devicesOk.l0 k1 l0_0 (l0_0.length : Int) (x + 1) l0_0 l0_1 = some r from by have := HH.out; rwa [if_pos rfl] at this)
    clear HH
    go_quiet (first | (go_at_call 78; exact quietD (impl_isNode.calls _ _ _ A1.out)) | (go_at_call 27; exact quietD (impl_between.calls _ _ _ _ _ A2.out)))
    clear hp hpn hww
    go_wp2_with fail
    go_roundg k1
    case measure => omega
    case rel => exact ⟨x + 1, rfl, HN, ⟨blk_drewN BK2.out _⟩, ⟨pw_below_drewN HB2.out _⟩⟩
  ·rw [if_neg c5] at H
   have c5b := decide_eq_false (show ¬ 0 < x by omega)
   obtain ⟨t2, A2, H⟩ := Option.bind_eq_some_iff.1 H
   have A2 := Aside0.mk A2
   have HH := Aside0.mk H
   clear H c5 hwx hww HPV
   cases t2 with
   | false =>
    have HF := Aside0.mk (Option.some.inj HH.out)
    clear HH
    go_quiet (first | (go_at_call 78; exact quietD (impl_isNode.calls _ _ _ A1.out)) | (go_at_call 27; exact quietD (impl_between.calls _ _ _ _ _ A2.out)))
    go_wp2_with fail
    go_ret
    exact ⟨by rw [← HF.out]; rfl, pw_below_drewN HB2.out _⟩
   | true =>
    have HN := Aside0.mk (show impl_Tree_devicesOk.l0 k1 l0_0 (l0_0.length : Int) (x + 1) l0_0 l0_1 = some r from by have := HH.out; rwa [if_pos rfl] at this)
    clear HH
    go_quiet (first | (go_at_call 78; exact quietD (impl_isNode.calls _ _ _ A1.out)) | (go_at_call 27; exact quietD (impl_between.calls _ _ _ _ _ A2.out)))
    go_wp2_with fail
    go_roundg k1
    case measure => omega
    case rel => exact ⟨x + 1, rfl, HN, ⟨blk_drewN BK2.out _⟩, ⟨pw_below_drewN HB2.out _⟩⟩

/-! ### impl_Tree_device: function 79 -/
set_option maxHeartbeats 2000000 in
set_option maxRecDepth 100000 in
theorem indexDevice.calls (A : Option Addr) (c : Nat) (l : List (S72)) (g : Nat) (lb : Array Value) (p : S72 → Bool) (w : World) (eg : ∀ args w, (callFunc g args).run Tryz.prog w = .ok (.enter g args) w)
  (hr : Kd.C k72 w A l.length l) (hp : PredK k72 g lb p w) :
  Calls Tryz.prog 87 #[.slice A l.length c, .func (.func g) #[] lb] w fun e w' => e = .returned (.int .i64 (idxFrom p l 0)) ∧ Below w.heap.size w w' := by
 have hm := Kd.C_max hr
 go_enter Tryz.func87, Tryz.ntmps87
 go_wp2
 go_loopg [5, 8] l.length (fun gg _ s8 wr => ∃ kk : Int, 0 ≤ kk ∧ kk ≤ l.length ∧ (l.length : Int) - kk ≤ gg ∧ s8 = .int .i64 kk ∧ Aside0 (Below w.heap.size w wr) ∧ Aside0 (idxFrom p l 0 = idxFrom p (l.drop kk.toNat) kk))
 case atStart => exact ⟨0, by omega, by omega, by omega, rfl, ⟨Below.refl _ w⟩, ⟨by simp⟩⟩
 case round =>
  obtain ⟨kk, h0, hkk, hg, rfl, BW, HA⟩ := hrel
  by_cases hlt : kk < (l.length : Int)
  ·obtain ⟨ad, rfl, hx0, hx1⟩ := at_T72 hr kk h0 hlt
   have hcall := hp wr (rd_T72 l kk) [.int .i64 (rd_T72 l kk).f0, .int .i64 (rd_T72 l kk).f1] BW.out (k72_mk wr _)
   have hH := idx_here p l kk h0 hlt z72
   replace hx0 := (BW.out.cell (World.block_lt_of_cell? w _ hx0)).trans hx0
   replace hx1 := (BW.out.cell (World.block_lt_of_cell? w _ hx1)).trans hx1
   clear hr hp
   have HH := Aside0.mk hH
   clear hH
   have q0 := eq_true h0
   have q1 := eq_true hlt
   cases hq : p (rd_T72 l kk) with
   | true =>
    rw [hq] at hcall
    have HQ := Aside0.mk hq
    clear hq
    go_wp2_with fail
    (with_reducible refine hcall.mono ?_)
    clear hcall
    rintro e w' ⟨rfl, hb'⟩
    have HB' := Aside0.mk hb'
    clear hb'
    go_wp2_with fail
    go_ret
    refine ⟨?_, HB'.out⟩
    rw [HA.out, HH.out.1 HQ.out]
    rfl
   | false =>
    rw [hq] at hcall
    have HQ := Aside0.mk hq
    clear hq
    go_wp2_with fail
    (with_reducible refine hcall.mono ?_)
    clear hcall
    rintro e w' ⟨rfl, hb'⟩
    have HB' := Aside0.mk hb'
    clear hb'
    go_wp2_with fail
    go_roundg (gk - 1)
    case measure => omega
    case rel => exact ⟨kk + 1, by omega, by omega, by omega, by go_num, HB', ⟨by rw [HA.out, HH.out.2 HQ.out]⟩⟩
  ·have : kk = l.length := by omega
   subst this
   go_wp2
   go_ret
   exact ⟨by rw [HA.out, idx_end p l _ rfl]; rfl, BW.out⟩

/-- the closure of device: the Id is that in the captured block -/
theorem deviceClosure.calls (b : Nat) (id : Int) (x : S72) (W : World) (hb : W.heap[b]? = some (.cells #[.int .i64 id] 2 (0, 0))) :
  Calls Tryz.prog 88 #[.agg #[.int .i64 x.f0, .int .i64 x.f1], .pointer (some ⟨b, 0, none⟩)] W fun e w' => e = .returned (.bool (x.f0 == id)) ∧ Below W.heap.size W w' := by
 have hc := blk_cell hb 0
 have hl := blk_lt hb
 clear hb
 go_enter Tryz.func88, Tryz.ntmps88
 go_wp2_with fail
 go_ret
 exact ⟨rfl, below_alloc (Below.refl _ _) _⟩

def impl_Tree_device.f (l0_0 : List (S72)) (l0_1 : List (S68)) (a1 : Int) : Option Int := some (idxFrom (fun x : S72 => x.f0 == a1) l0_0 0)
set_option maxHeartbeats 2000000 in
set_option maxRecDepth 100000 in
theorem impl_Tree_device.calls (A0_0 : Option Addr) (c0_0 : Nat) (l0_0 : List (S72)) (A0_1 : Option Addr) (c0_1 : Nat) (l0_1 : List (S68)) (a1 : Int) (r : Int) (w : World) (hr0_0 : Kd.C k72 w A0_0 l0_0.length l0_0) (hc0_0 : l0_0.length ≤ c0_0) (hr0_1 : Kd.C k68 w A0_1 l0_1.length l0_1) (hc0_1 : l0_1.length ≤ c0_1) (h : impl_Tree_device.f l0_0 l0_1 a1 = some r) :
  Calls Tryz.prog 79 #[.agg #[.slice A0_0 l0_0.length c0_0, .slice A0_1 l0_1.length c0_1], .int .i64 a1] w fun e w' => e = .returned (.int .i64 r) ∧ Below w.heap.size w w' := by
 have HR := Aside0.mk hr0_0
 clear hr0_0 hr0_1
 obtain rfl := Option.some.inj h
 clear h
 go_enter Tryz.func79, Tryz.ntmps79
 go_wp2_with fail
 have HB0 := below_alloc (below_alloc (Below.refl w.heap.size w) (.cells #[.slice A0_0 l0_0.length c0_0, .slice A0_1 l0_1.length c0_1] 35)) (.cells #[.int .i64 a1] 2)
 have HK : ((w.alloc (.cells #[.slice A0_0 l0_0.length c0_0, .slice A0_1 l0_1.length c0_1] 35)).alloc (.cells #[.int .i64 a1] 2)).heap[w.heap.size + 1]? = some (.cells #[.int .i64 a1] 2 (0, 0)) := by
  exact alloc_new _ _ _ (by simp)
 refine (indexDevice.calls A0_0 c0_0 l0_0 88 _ (fun x => x.f0 == a1) _ @Tryz.call88 (Kd.C_below HR.out HB0) ?_).mono ?_
 ·intro W x cs hB hK
  obtain rfl := k72_open hK
  exact (deviceClosure.calls _ a1 x W ((hB.block _ (by simp)).trans HK)).mono fun e w' ⟨he, hb⟩ => ⟨he, (hB.trans (hb.mono hB.size))⟩
 ·rintro e w' ⟨rfl, hb'⟩
  go_wp2_with fail
  go_ret
  exact ⟨rfl, HB0.trans (hb'.mono HB0.size)⟩

/-! ### impl_Tree_bucket: function 80 -/
set_option maxHeartbeats 2000000 in
set_option maxRecDepth 100000 in
theorem indexBucket.calls (A : Option Addr) (c : Nat) (l : List (S68)) (g : Nat) (lb : Array Value) (p : S68 → Bool) (w : World) (eg : ∀ args w, (callFunc g args).run Tryz.prog w = .ok (.enter g args) w)
  (hr : Kd.C k68 w A l.length l) (hp : PredK k68 g lb p w) :
  Calls Tryz.prog 89 #[.slice A l.length c, .func (.func g) #[] lb] w fun e w' => e = .returned (.int .i64 (idxFrom p l 0)) ∧ Below w.heap.size w w' := by
 have hm := Kd.C_max hr
 go_enter Tryz.func89, Tryz.ntmps89
 go_wp2
 go_loopg [5, 8] l.length (fun gg _ s8 wr => ∃ kk : Int, 0 ≤ kk ∧ kk ≤ l.length ∧ (l.length : Int) - kk ≤ gg ∧ s8 = .int .i64 kk ∧ Aside0 (Below w.heap.size w wr) ∧ Aside0 (idxFrom p l 0 = idxFrom p (l.drop kk.toNat) kk))
 case atStart => exact ⟨0, by omega, by omega, by omega, rfl, ⟨Below.refl _ w⟩, ⟨by simp⟩⟩
 case round =>
  obtain ⟨kk, h0, hkk, hg, rfl, BW, HA⟩ := hrel
  by_cases hlt : kk < (l.length : Int)
  ·obtain ⟨ad, A2, c2, rfl, hx0, hx1, hx2, hl2, hg2⟩ := at_T68 hr kk h0 hlt
   have hcall := hp wr (rd_T68 l kk) [.int .i64 (rd_T68 l kk).f0, .int .i64 (rd_T68 l kk).f1, .slice A2 (rd_T68 l kk).f2.length c2] BW.out (k68_mk wr _ hl2 (Kd.C_below hg2 BW.out))
   have hH := idx_here p l kk h0 hlt z68
   replace hx0 := (BW.out.cell (World.block_lt_of_cell? w _ hx0)).trans hx0
   replace hx2 := (BW.out.cell (World.block_lt_of_cell? w _ hx2)).trans hx2
   clear hl2 hg2
   replace hx1 := (BW.out.cell (World.block_lt_of_cell? w _ hx1)).trans hx1
   clear hr hp
   have HH := Aside0.mk hH
   clear hH
   have q0 := eq_true h0
   have q1 := eq_true hlt
   cases hq : p (rd_T68 l kk) with
   | true =>
    rw [hq] at hcall
    have HQ := Aside0.mk hq
    clear hq
    go_wp2_with fail
    (with_reducible refine hcall.mono ?_)
    clear hcall
    rintro e w' ⟨rfl, hb'⟩
    have HB' := Aside0.mk hb'
    clear hb'
    go_wp2_with fail
    go_ret
    refine ⟨?_, HB'.out⟩
    rw [HA.out, HH.out.1 HQ.out]
    rfl
   | false =>
    rw [hq] at hcall
    have HQ := Aside0.mk hq
    clear hq
    go_wp2_with fail
    (with_reducible refine hcall.mono ?_)
    clear hcall
    rintro e w' ⟨rfl, hb'⟩
    have HB' := Aside0.mk hb'
    clear hb'
    go_wp2_with fail
    go_roundg (gk - 1)
    case measure => omega
    case rel => exact ⟨kk + 1, by omega, by omega, by omega, by go_num, HB', ⟨by rw [HA.out, HH.out.2 HQ.out]⟩⟩
  ·have : kk = l.length := by omega
   subst this
   go_wp2
   go_ret
   exact ⟨by rw [HA.out, idx_end p l _ rfl]; rfl, BW.out⟩


/-- the closure of bucket: the Id is that in the captured block -/
theorem bucketClosure.calls (b : Nat) (id : Int) (x : S68) (v2 : Value) (h1 : v2.oneCell' = true) (W : World) (hb : W.heap[b]? = some (.cells #[.int .i64 id] 2 (0, 0))) :
  Calls Tryz.prog 90 #[.agg #[.int .i64 x.f0, .int .i64 x.f1, v2], .pointer (some ⟨b, 0, none⟩)] W fun e w' => e = .returned (.bool (x.f0 == id)) ∧ Below W.heap.size W w' := by
 have hc := blk_cell hb 0
 have hl := blk_lt hb
 clear hb
 go_enter Tryz.func90, Tryz.ntmps90
 go_wp2_with fail
 go_ret
 exact ⟨rfl, below_alloc (Below.refl _ _) _⟩

/-- the index of the bucket with an Id; -1 where there is none -/
def bucketAt (l : List (S68)) (id : Int) : Int := idxFrom (fun x : S68 => x.f0 == id) l 0
/-- the pointer that bucket returns -/
def bucketPtr (A : Option Addr) (l : List (S68)) (id : Int) : Value := if bucketAt l id < 0 then .pointer none else .pointer (A.map (fun a => a.add ((bucketAt l id).toNat * 3)))
set_option maxHeartbeats 2000000 in
set_option maxRecDepth 100000 in
theorem bucket_none.calls (A0_0 : Option Addr) (c0_0 : Nat) (l0_0 : List (S72)) (A0_1 : Option Addr) (c0_1 : Nat) (l0_1 : List (S68)) (a1 : Int) (w : World) (hr0_1 : Kd.C k68 w A0_1 l0_1.length l0_1) (h : bucketAt l0_1 a1 < 0) :
  Calls Tryz.prog 80 #[.agg #[.slice A0_0 l0_0.length c0_0, .slice A0_1 l0_1.length c0_1], .int .i64 a1] w fun e w' => e = .returned (.pointer none) ∧ Below w.heap.size w w' := by
 have HR := Aside0.mk hr0_1
 clear hr0_1
 have hneg : decide (bucketAt l0_1 a1 < 0) = true := decide_eq_true h
 clear h
 go_enter Tryz.func80, Tryz.ntmps80
 go_wp2_with fail
 have HB0 := below_alloc (below_alloc (Below.refl w.heap.size w) (.cells #[.slice A0_0 l0_0.length c0_0, .slice A0_1 l0_1.length c0_1] 35)) (.cells #[.int .i64 a1] 2)
 have HK : ((w.alloc (.cells #[.slice A0_0 l0_0.length c0_0, .slice A0_1 l0_1.length c0_1] 35)).alloc (.cells #[.int .i64 a1] 2)).heap[w.heap.size + 1]? = some (.cells #[.int .i64 a1] 2 (0, 0)) := by
  exact alloc_new _ _ _ (by simp)
 refine (indexBucket.calls A0_1 c0_1 l0_1 90 _ (fun x => x.f0 == a1) _ @Tryz.call90 (Kd.C_below HR.out HB0) ?_).mono ?_
 ·intro W x cs hB hK
  obtain ⟨A2, c2, rfl, hl2, hg2⟩ := k68_open hK
  exact (bucketClosure.calls _ a1 x _ rfl W ((hB.block _ (by simp)).trans HK)).mono fun e w' ⟨he, hb⟩ => ⟨he, (hB.trans (hb.mono hB.size))⟩
 ·rintro e w' ⟨rfl, hb'⟩
  have HB := Aside0.mk (HB0.trans (hb'.mono HB0.size))
  clear hb' HK HB0
  change decide (idxFrom (fun x : S68 => x.f0 == a1) l0_1 0 < 0) = true at hneg
  go_wp2_with fail
  go_ret
  exact ⟨rfl, HB.out⟩
set_option maxHeartbeats 2000000 in
set_option maxRecDepth 100000 in
theorem bucket_some.calls (A0_0 : Option Addr) (c0_0 : Nat) (l0_0 : List (S72)) (A0_1 : Option Addr) (c0_1 : Nat) (l0_1 : List (S68)) (a1 : Int) (w : World) (hr0_1 : Kd.C k68 w A0_1 l0_1.length l0_1) (ad : Addr) (hA : A0_1 = some ad) (h : 0 ≤ bucketAt l0_1 a1) :
  Calls Tryz.prog 80 #[.agg #[.slice A0_0 l0_0.length c0_0, .slice A0_1 l0_1.length c0_1], .int .i64 a1] w fun e w' => e = .returned (.pointer (some (ad.add ((bucketAt l0_1 a1).toNat * 3)))) ∧ Below w.heap.size w w' := by
 have HR := Aside0.mk hr0_1
 clear hr0_1
 subst hA
 have hlt : bucketAt l0_1 a1 < l0_1.length := by
  have := idxFrom_range (fun x : S68 => x.f0 == a1) l0_1 0
  unfold bucketAt at h ⊢
  omega
 go_enter Tryz.func80, Tryz.ntmps80
 go_wp2_with fail
 have HB0 := below_alloc (below_alloc (Below.refl w.heap.size w) (.cells #[.slice A0_0 l0_0.length c0_0, .slice (some ad) l0_1.length c0_1] 35)) (.cells #[.int .i64 a1] 2)
 have HK : ((w.alloc (.cells #[.slice A0_0 l0_0.length c0_0, .slice (some ad) l0_1.length c0_1] 35)).alloc (.cells #[.int .i64 a1] 2)).heap[w.heap.size + 1]? = some (.cells #[.int .i64 a1] 2 (0, 0)) := by
  exact alloc_new _ _ _ (by simp)
 refine (indexBucket.calls (some ad) c0_1 l0_1 90 _ (fun x => x.f0 == a1) _ @Tryz.call90 (Kd.C_below HR.out HB0) ?_).mono ?_
 ·intro W x cs hB hK
  obtain ⟨A2, c2, rfl, hl2, hg2⟩ := k68_open hK
  exact (bucketClosure.calls _ a1 x _ rfl W ((hB.block _ (by simp)).trans HK)).mono fun e w' ⟨he, hb⟩ => ⟨he, (hB.trans (hb.mono hB.size))⟩
 ·rintro e w' ⟨rfl, hb'⟩
  have HB := Aside0.mk (HB0.trans (hb'.mono HB0.size))
  have hc1 : w'.cell? ⟨w.heap.size, 1, none⟩ = some (.slice (some ad) l0_1.length c0_1) := by
   have h0 : ((w.alloc (.cells #[.slice A0_0 l0_0.length c0_0, .slice (some ad) l0_1.length c0_1] 35)).alloc (.cells #[.int .i64 a1] 2)).heap[w.heap.size]? = some (.cells #[.slice A0_0 l0_0.length c0_0, .slice (some ad) l0_1.length c0_1] 35 (0, 0)) := blk_alloc (blk_new w _) _
   exact (blk_cell ((hb'.block _ (by simp; omega)).trans h0) 1).trans rfl
  clear hb' HK HB0
  change 0 ≤ idxFrom (fun x : S68 => x.f0 == a1) l0_1 0 at h
  change idxFrom (fun x : S68 => x.f0 == a1) l0_1 0 < l0_1.length at hlt
  have E : Aside0 (bucketAt l0_1 a1 = idxFrom (fun x : S68 => x.f0 == a1) l0_1 0) := ⟨rfl⟩
  generalize idxFrom (fun x : S68 => x.f0 == a1) l0_1 0 = i at h hlt E ⊢
  have hneg : decide (i < 0) = false := decide_eq_false (by omega)
  have h0 := eq_true h
  have h1 := eq_true hlt
  go_wp2_with fail
  go_ret
  exact ⟨by rw [E.out]; rfl, HB.out⟩

/-! ### impl_Tree_kindOf: function 67 -/
/-- the kind of a device is 0; of a bucket its own; of what is not there -1 -/
def kindAt (l0 : List (S72)) (l1 : List (S68)) (id : Int) : Int :=
 if 0 ≤ idxFrom (fun x : S72 => x.f0 == id) l0 0 then 0 else if bucketAt l1 id < 0 then -1 else (rd_T68 l1 (bucketAt l1 id)).f1
def impl_Tree_kindOf.f (l0_0 : List (S72)) (l0_1 : List (S68)) (a1 : Int) : Option Int := some (kindAt l0_0 l0_1 a1)
theorem bucketAt_lt (l1 : List (S68)) (id : Int) (h : 0 ≤ bucketAt l1 id) : bucketAt l1 id < l1.length := by
 have := idxFrom_range (fun x : S68 => x.f0 == id) l1 0
 unfold bucketAt at h ⊢
 omega
set_option maxHeartbeats 2000000 in
set_option maxRecDepth 100000 in
theorem impl_Tree_kindOf.calls (A0_0 : Option Addr) (c0_0 : Nat) (l0_0 : List (S72)) (A0_1 : Option Addr) (c0_1 : Nat) (l0_1 : List (S68)) (a1 : Int) (r : Int) (w : World) (hr0_0 : Kd.C k72 w A0_0 l0_0.length l0_0) (hc0_0 : l0_0.length ≤ c0_0) (hr0_1 : Kd.C k68 w A0_1 l0_1.length l0_1) (hc0_1 : l0_1.length ≤ c0_1) (h : impl_Tree_kindOf.f l0_0 l0_1 a1 = some r) :
  Calls Tryz.prog 67 #[.agg #[.slice A0_0 l0_0.length c0_0, .slice A0_1 l0_1.length c0_1], .int .i64 a1] w fun e w' => e = .returned (.int .i64 r) ∧ Below w.heap.size w w' := by
 have HR0 := Aside0.mk hr0_0
 have HR1 := Aside0.mk hr0_1
 have HC0 := Aside0.mk hc0_0
 have HC1 := Aside0.mk hc0_1
 clear hr0_0 hr0_1 hc0_0 hc0_1
 obtain rfl := Option.some.inj h
 clear h
 go_enter Tryz.func67, Tryz.ntmps67
 go_wp2_with fail
 have HB0 := Aside0.mk (below_alloc (Below.refl w.heap.size w) (.cells #[.slice A0_0 l0_0.length c0_0, .slice A0_1 l0_1.length c0_1] 35))
 have HBX : Aside0 ((w.alloc (.cells #[.slice A0_0 l0_0.length c0_0, .slice A0_1 l0_1.length c0_1] 35)).heap[w.heap.size]? = some (.cells #[.slice A0_0 l0_0.length c0_0, .slice A0_1 l0_1.length c0_1] 35 (0, 0))) := ⟨blk_new w _⟩
 refine (impl_Tree_device.calls A0_0 c0_0 l0_0 A0_1 c0_1 l0_1 a1 _ _ (Kd.C_below HR0.out HB0.out) HC0.out (Kd.C_below HR1.out HB0.out) HC1.out rfl).mono ?_
 rintro e w1 ⟨rfl, hb1⟩
 have HB1 := Aside0.mk (HB0.out.trans (hb1.mono HB0.out.size))
 have HX := (hb1.block _ (by simp)).trans HBX.out
 have hcx0 := (blk_cell HX 0).trans rfl
 have hcx1 := (blk_cell HX 1).trans rfl
 clear hb1 HBX HB0 HX
 have hk : kindAt l0_0 l0_1 a1 = if 0 ≤ idxFrom (fun x : S72 => x.f0 == a1) l0_0 0 then 0 else if bucketAt l0_1 a1 < 0 then -1 else (rd_T68 l0_1 (bucketAt l0_1 a1)).f1 := rfl
 generalize idxFrom (fun x : S72 => x.f0 == a1) l0_0 0 = i at hk ⊢
 by_cases hi : 0 ≤ i
 ·rw [if_pos hi] at hk
  have HK := Aside0.mk hk
  clear hk
  have q := eq_true hi
  go_wp2_with fail
  go_ret
  exact ⟨by rw [HK.out]; rfl, HB1.out⟩
 ·rw [if_neg hi] at hk
  have q := eq_false hi
  by_cases hb : bucketAt l0_1 a1 < 0
  ·rw [if_pos hb] at hk
   have HK := Aside0.mk hk
   clear hk
   go_wp2_with fail
   refine (bucket_none.calls A0_0 c0_0 l0_0 A0_1 c0_1 l0_1 a1 _ (Kd.C_below HR1.out HB1.out) hb).mono ?_
   rintro e w2 ⟨rfl, hb2⟩
   have HB2 := Aside0.mk (HB1.out.trans (hb2.mono HB1.out.size))
   clear hb2 HB1
   go_wp2_with fail
   go_ret
   exact ⟨by rw [HK.out]; rfl, HB2.out⟩
  ·rw [if_neg hb] at hk
   have HK := Aside0.mk hk
   clear hk
   have hb0 : 0 ≤ bucketAt l0_1 a1 := by omega
   have hlt := bucketAt_lt l0_1 a1 hb0
   obtain ⟨ad, A2, c2, rfl, hx0, hx1, hx2, hl2, hg2⟩ := at_T68 HR1.out _ hb0 hlt
   have HX1 := Aside0.mk hx1
   clear hx0 hx1 hx2 hl2 hg2
   go_wp2_with fail
   refine (bucket_some.calls A0_0 c0_0 l0_0 (some ad) c0_1 l0_1 a1 _ (Kd.C_below HR1.out HB1.out) ad rfl hb0).mono ?_
   rintro e w2 ⟨rfl, hb2⟩
   have HB2 := Aside0.mk (HB1.out.trans (hb2.mono HB1.out.size))
   clear hb2 HB1
   have hx1 := (HB2.out.cell (World.block_lt_of_cell? w _ HX1.out)).trans HX1.out
   clear HX1 hb hb0 hlt
   generalize bucketAt l0_1 a1 = j at hx1 HK ⊢
   go_wp2_with fail
   go_ret
   exact ⟨by rw [HK.out]; rfl, HB2.out⟩

/-! ### impl_Tree_itemsOk: function 66 -/
/-- every number of a topology is an int64 -/
def wfTree (l0 : List (S72)) (l1 : List (S68)) : Bool :=
 l0.all (fun d => wfI d.f0 && wfI d.f1) && l1.all (fun b => wfI b.f0 && wfI b.f1 && b.f2.all wfI)
theorem wf_bucket {l0 : List (S72)} {l1 : List (S68)} (h : wfTree l0 l1 = true) (i : Int) (h0 : 0 ≤ i) (h1 : i < l1.length) : wfI (rd_T68 l1 i).f0 = true ∧ wfI (rd_T68 l1 i).f1 = true ∧ (rd_T68 l1 i).f2.all wfI = true := by
 unfold wfTree at h
 rw [Bool.and_eq_true, List.all_eq_true, List.all_eq_true] at h
 have hl : i.toNat < l1.length := by omega
 have hm : rd_T68 l1 i ∈ l1 := by
  unfold rd_T68
  rw [List.getD_eq_getElem?_getD, List.getElem?_eq_getElem hl]
  exact List.getElem_mem hl
 have := h.2 _ hm
 simp only [Bool.and_eq_true] at this
 exact ⟨this.1.1, this.1.2, this.2⟩
theorem wf_kindAt {l0 : List (S72)} {l1 : List (S68)} (h : wfTree l0 l1 = true) (id : Int) : wfI (kindAt l0 l1 id) = true := by
 unfold kindAt
 split
 ·decide
 ·split
  ·decide
  ·rename_i hb
   have h0 : 0 ≤ bucketAt l1 id := by omega
   exact (wf_bucket h _ h0 (bucketAt_lt l1 id h0)).2.1
theorem wf_wrap64 (x : Int) : wfI (wrap64 x) = true := by
 unfold wfI wrap64
 exact decide_eq_true (by omega)
def itemsOkB (l0 : List (S72)) (l1 : List (S68)) (kind : Int) (items : List Int) : Bool :=
 if items.length = 0 then true
 else if 1 < (onceOf (items.map (kindAt l0 l1))).length then false
 else if kind = 3 then (items.map (kindAt l0 l1)).any (fun y => y == 1) || (items.map (kindAt l0 l1)).any (fun y => y == 2)
 else (items.map (kindAt l0 l1)).any (fun y => y == wrap64 (kind - 1))
def impl_Tree_itemsOk.f (l0_0 : List (S72)) (l0_1 : List (S68)) (a1_0 : Int) (a1_1 : Int) (l1_2 : List Int) : Option Bool :=
 if wfTree l0_0 l0_1 = true then some (itemsOkB l0_0 l0_1 a1_1 l1_2) else none
theorem take_map_snoc {α β : Type} (f : α → β) (l : List α) (i : Int) (h0 : 0 ≤ i) (h1 : i < (l.length : Int)) (z : α) : (l.map f).take (i + 1).toNat = (l.map f).take i.toNat ++ [f (l.getD i.toNat z)] := by
 obtain ⟨n, rfl⟩ := Int.eq_ofNat_of_zero_le h0
 have hl : n < l.length := by omega
 have e : ((n : Int) + 1).toNat = n + 1 := by omega
 rw [e, Int.toNat_natCast, List.take_succ_eq_append_getElem (by simpa using hl), List.getElem_map, List.getD_eq_getElem?_getD, List.getElem?_eq_getElem hl]
 rfl
set_option maxHeartbeats 4000000 in
set_option maxRecDepth 100000 in
theorem impl_Tree_itemsOk.calls (A0_0 : Option Addr) (c0_0 : Nat) (l0_0 : List (S72)) (A0_1 : Option Addr) (c0_1 : Nat) (l0_1 : List (S68)) (a1_0 : Int) (a1_1 : Int) (A1_2 : Option Addr) (c1_2 : Nat) (l1_2 : List Int) (r : Bool) (w : World) (hr0_0 : Kd.C k72 w A0_0 l0_0.length l0_0) (hc0_0 : l0_0.length ≤ c0_0) (hr0_1 : Kd.C k68 w A0_1 l0_1.length l0_1) (hc0_1 : l0_1.length ≤ c0_1) (hr1_2 : Kd.C (Kd.int .i64) w A1_2 l1_2.length l1_2) (hc1_2 : l1_2.length ≤ c1_2) (h : impl_Tree_itemsOk.f l0_0 l0_1 a1_0 a1_1 l1_2 = some r) :
  Calls Tryz.prog 66 #[.agg #[.slice A0_0 l0_0.length c0_0, .slice A0_1 l0_1.length c0_1], .agg #[.int .i64 a1_0, .int .i64 a1_1, .slice A1_2 l1_2.length c1_2]] w fun e w' => e = .returned (.bool r) ∧ Below w.heap.size w w' := by
 have hm := Kd.C_max hr1_2
 have HR0 := Aside0.mk hr0_0
 have HR1 := Aside0.mk hr0_1
 have HRI := Aside0.mk hr1_2
 have HC0 := Aside0.mk hc0_0
 have HC1 := Aside0.mk hc0_1
 clear hr0_0 hr0_1 hc0_0 hc0_1 hr1_2
 unfold impl_Tree_itemsOk.f at h
 by_cases hwf : wfTree l0_0 l0_1 = true
 case neg => rw [if_neg hwf] at h; cases h
 rw [if_pos hwf] at h
 obtain rfl := Option.some.inj h
 clear h
 have HW := Aside0.mk hwf
 clear hwf
 have hmm := @run_makeMap Tryz.prog
 go_enter Tryz.func66, Tryz.ntmps66
 go_wp2_with fail
 have HB0 : Aside0 (Below w.heap.size w (((w.alloc (.cells #[.slice A0_0 l0_0.length c0_0, .slice A0_1 l0_1.length c0_1] 35)).alloc (.cells #[.int .i64 a1_0, .int .i64 a1_1, .slice A1_2 l1_2.length c1_2] 68)).alloc (.map #[] 0))) := ⟨below_alloc (below_alloc (below_alloc (Below.refl _ _) _) _) _⟩
 have HS0 : Aside0 (OwnSet (((w.alloc (.cells #[.slice A0_0 l0_0.length c0_0, .slice A0_1 l0_1.length c0_1] 35)).alloc (.cells #[.int .i64 a1_0, .int .i64 a1_1, .slice A1_2 l1_2.length c1_2] 68)).alloc (.map #[] 0)) (w.heap.size + 1 + 1) 0 []) := ⟨by have := OwnSet.made ((w.alloc (.cells #[.slice A0_0 l0_0.length c0_0, .slice A0_1 l0_1.length c0_1] 35)).alloc (.cells #[.int .i64 a1_0, .int .i64 a1_1, .slice A1_2 l1_2.length c1_2] 68)); simpa using this⟩
 have HX0 : Aside0 ((((w.alloc (.cells #[.slice A0_0 l0_0.length c0_0, .slice A0_1 l0_1.length c0_1] 35)).alloc (.cells #[.int .i64 a1_0, .int .i64 a1_1, .slice A1_2 l1_2.length c1_2] 68)).alloc (.map #[] 0)).heap[w.heap.size]? = some (.cells #[.slice A0_0 l0_0.length c0_0, .slice A0_1 l0_1.length c0_1] 35 (0, 0))) := ⟨blk_alloc (blk_alloc (blk_new w _) _) _⟩
 have HY0 : Aside0 ((((w.alloc (.cells #[.slice A0_0 l0_0.length c0_0, .slice A0_1 l0_1.length c0_1] 35)).alloc (.cells #[.int .i64 a1_0, .int .i64 a1_1, .slice A1_2 l1_2.length c1_2] 68)).alloc (.map #[] 0)).heap[w.heap.size + 1]? = some (.cells #[.int .i64 a1_0, .int .i64 a1_1, .slice A1_2 l1_2.length c1_2] 68 (0, 0))) := ⟨blk_alloc (alloc_new _ _ _ (by simp)) _⟩
 go_loopg [7, 12] l1_2.length (fun gg _ s12 wr => ∃ kk : Int, 0 ≤ kk ∧ kk ≤ l1_2.length ∧ (l1_2.length : Int) - kk ≤ gg ∧ s12 = .int .i64 kk ∧ Aside0 (Below w.heap.size w wr) ∧ Aside0 (OwnSet wr (w.heap.size + 1 + 1) kk.toNat ((l1_2.map (kindAt l0_0 l0_1)).take kk.toNat)) ∧ Aside0 (wr.heap[w.heap.size]? = some (.cells #[.slice A0_0 l0_0.length c0_0, .slice A0_1 l0_1.length c0_1] 35 (0, 0))) ∧ Aside0 (wr.heap[w.heap.size + 1]? = some (.cells #[.int .i64 a1_0, .int .i64 a1_1, .slice A1_2 l1_2.length c1_2] 68 (0, 0))))
 case atStart => exact ⟨0, by omega, by omega, by omega, rfl, HB0, HS0, HX0, HY0⟩
 case round =>
  clear HB0 HS0 HX0 HY0
  obtain ⟨kk, h0, hkk, hg, rfl, BW, HS, HX, HY⟩ := hrel
  have hcx0 := (blk_cell HX.out 0).trans rfl
  have hcx1 := (blk_cell HX.out 1).trans rfl
  have hcy0 := (blk_cell HY.out 0).trans rfl
  have hcy1 := (blk_cell HY.out 1).trans rfl
  have hcy2 := (blk_cell HY.out 2).trans rfl
  by_cases hlt : kk < (l1_2.length : Int)
  ·obtain ⟨ad, rfl, hx0⟩ := Kd.at_int HRI.out kk h0 hlt
   replace hx0 := (BW.out.cell (World.block_lt_of_cell? w _ hx0)).trans hx0
   have q0 := eq_true h0
   have q1 := eq_true hlt
   have HM := Aside0.mk (take_map_snoc (kindAt l0_0 l0_1) l1_2 kk h0 hlt 0)
   go_wp2_with fail
   refine (impl_Tree_kindOf.calls A0_0 c0_0 l0_0 A0_1 c0_1 l0_1 _ _ _ (Kd.C_below HR0.out BW.out) HC0.out (Kd.C_below HR1.out BW.out) HC1.out rfl).mono ?_
   rintro e w1 ⟨rfl, hb1⟩
   have HB1 := Aside0.mk (BW.out.trans (hb1.mono BW.out.size))
   have HS1 := Aside0.mk (OwnSet.below HS.out hb1)
   have HX1 := Aside0.mk ((hb1.block _ (blk_lt HX.out)).trans HX.out)
   have HY1 := Aside0.mk ((hb1.block _ (blk_lt HY.out)).trans HY.out)
   clear hb1 BW HS HX HY hcx0 hcx1 hcy0 hcy1 hcy2 hx0
   go_wp2_with (at_mapUpdate; refine OwnSet.put rfl rfl _ _ _ rfl _ _ _ rfl HS1.out (by omega) _ rfl rfl (wf_kindAt HW.out _) ?_; intro w2 hs2 hg2; have HS2 := Aside0.mk hs2; have HG2 := Aside0.mk hg2; clear hs2 hg2)
   have hkn : (kk + 1).toNat = kk.toNat + 1 := by omega
   go_roundg (gk - 1)
   case measure => omega
   case rel =>
    exact ⟨kk + 1, by omega, by omega, by omega, by go_num, ⟨pw_below_grown HB1.out (some (w.heap.size + 1 + 1)) HB1.out.size HG2.out (by intro k hk; cases hk; omega)⟩,
     ⟨by rw [HM.out, hkn]; exact HS2.out⟩,
     ⟨(HG2.out.block _ (blk_lt HX1.out) (by simp; omega)).trans HX1.out⟩, ⟨(HG2.out.block _ (blk_lt HY1.out) (by simp)).trans HY1.out⟩⟩
  ·have : kk = l1_2.length := by omega
   subst this
   have HS' : Aside0 (OwnSet wr (w.heap.size + 1 + 1) l1_2.length (l1_2.map (kindAt l0_0 l0_1))) := ⟨by have := HS.out; rw [List.take_of_length_le (by simp)] at this; simpa using this⟩
   clear HS HR0 HR1 HC0 HC1
   have hd : itemsOkB l0_0 l0_1 a1_1 l1_2 = if l1_2.length = 0 then true
    else if 1 < (onceOf (l1_2.map (kindAt l0_0 l0_1))).length then false
    else if a1_1 = 3 then (l1_2.map (kindAt l0_0 l0_1)).any (fun y => y == 1) || (l1_2.map (kindAt l0_0 l0_1)).any (fun y => y == 2)
    else (l1_2.map (kindAt l0_0 l0_1)).any (fun y => y == wrap64 (a1_1 - 1)) := rfl
   have hlook := fun (x : Int) (hx : wfI x = true) => OwnSet.look (w := wr) (HS'.out) x hx
   have hlen := OwnSet.len HS'.out
   have HL := Aside0.mk hlook
   clear hlook
   have ke := wf_wrap64 (a1_1 - 1)
   generalize l1_2.map (kindAt l0_0 l0_1) = ks at hd HL hlen
   by_cases c1 : l1_2.length = 0
   ·rw [if_pos c1] at hd
    have HD := Aside0.mk hd
    clear hd hlen
    have c1' : ((l1_2.length : Int) == 0) = true := by simp [c1]
    have HC := Aside0.mk c1
    clear c1
    go_wp2_with fail
    go_ret
    exact ⟨by rw [HD.out]; rfl, BW.out⟩
   ·rw [if_neg c1] at hd
    have c1' : ((l1_2.length : Int) == 0) = false := by simp; simpa using c1
    clear c1
    by_cases c2 : 1 < (onceOf ks).length
    ·rw [if_pos c2] at hd
     have HD := Aside0.mk hd
     clear hd
     have c2' : decide (1 < ((onceOf ks).length : Int)) = true := decide_eq_true (by omega)
     clear c2
     go_wp2_with fail
     go_ret
     exact ⟨by rw [HD.out]; rfl, BW.out⟩
    ·rw [if_neg c2] at hd
     have c2' : decide (1 < ((onceOf ks).length : Int)) = false := decide_eq_false (by omega)
     clear c2
     by_cases c3 : a1_1 = 3
     ·rw [if_pos c3] at hd
      have HD := Aside0.mk hd
      clear hd
      have c3' : (a1_1 == 3) = true := by simp [c3]
      clear c3
      have hl1 := HL.out 1 (by decide)
      have hl2 := HL.out 2 (by decide)
      generalize ks.any (fun y => y == 1) = x1 at hl1 HD
      generalize ks.any (fun y => y == 2) = x2 at hl2 HD
      cases x1 with
      | true =>
       go_wp2_with fail
       go_ret
       exact ⟨by rw [HD.out]; rfl, BW.out⟩
      | false =>
       go_wp2_with fail
       go_ret
       exact ⟨by rw [HD.out]; rfl, BW.out⟩
     ·rw [if_neg c3] at hd
      have HD := Aside0.mk hd
      clear hd
      have c3' : (a1_1 == 3) = false := by simp [c3]
      clear c3
      have hl0 := HL.out (wrap64 (a1_1 - 1)) ke
      go_wp2_with fail
      go_ret
      exact ⟨by rw [HD.out]; rfl, BW.out⟩

/-! ### impl_TreeOk: function 46 -/
/-- is a number in a range? -/
def inB (a b c : Int) : Bool := decide (b ≤ a) && decide (a ≤ c)
theorem between_inB (a b c : Int) : impl_between.f a b c = some (inB a b c) := by
  unfold impl_between.f inB
  by_cases h : a ≥ b
  · rw [if_pos h, decide_eq_true h]; simp
  · rw [if_neg h, decide_eq_false h]; simp
/-- is the bucket at a place valid for itself, the one before it known? -/
def bktB (l0 : List (S72)) (l1 : List (S68)) (i : Int) : Bool :=
  inB (rd_T68 l1 i).f0 (-12) (-1) && !(decide (0 < i) && decide ((rd_T68 l1 (i - 1)).f0 ≤ (rd_T68 l1 i).f0)) && inB (rd_T68 l1 i).f1 1 3 && decide ((rd_T68 l1 i).f2.length ≤ 8) && itemsOkB l0 l1 (rd_T68 l1 i).f1 (rd_T68 l1 i).f2
/-- what is used behind some things more; none where one is used twice -/
def useGo : List Int → List Int → Option (List Int)
  | u, [] => some u
  | u, x :: xs => if (u.any fun y => y == x) = true then none else useGo (u ++ [x]) xs
def treeGo (l0 : List (S72)) (l1 : List (S68)) : Nat → Int → List Int → Bool
  | 0, _, _ => true
  | d + 1, i, u => if bktB l0 l1 i = true then (match useGo u (rd_T68 l1 i).f2 with | some u' => treeGo l0 l1 d (i + 1) u' | none => false) else false
def tailB (l0 : List (S72)) (l1 : List (S68)) (d : Nat) (i : Int) (u items : List Int) : Bool := match useGo u items with | some u' => treeGo l0 l1 d (i + 1) u' | none => false
def treeB (l0 : List (S72)) (l1 : List (S68)) : Bool := treeGo l0 l1 l1.length 0 []
theorem tail_hit (l0 : List (S72)) (l1 : List (S68)) (d : Nat) (i : Int) (u items : List Int) (j : Int) (h0 : 0 ≤ j) (h1 : j < items.length) (h : (u.any fun y => y == rd items j) = true) : tailB l0 l1 d i u (items.drop j.toNat) = false := by
  obtain ⟨n, rfl⟩ := Int.eq_ofNat_of_zero_le h0
  have hl : n < items.length := by omega
  have er : rd items (n : Int) = items[n] := by unfold rd; rw [Int.toNat_natCast, List.getD_eq_getElem?_getD, List.getElem?_eq_getElem hl]; rfl
  rw [er] at h
  unfold tailB
  rw [Int.toNat_natCast, List.drop_eq_getElem_cons hl]
  simp only [useGo, h, if_true]
theorem tail_miss (l0 : List (S72)) (l1 : List (S68)) (d : Nat) (i : Int) (u items : List Int) (j : Int) (h0 : 0 ≤ j) (h1 : j < items.length) (h : (u.any fun y => y == rd items j) = false) : tailB l0 l1 d i u (items.drop j.toNat) = tailB l0 l1 d i (u ++ [rd items j]) (items.drop (j + 1).toNat) := by
  obtain ⟨n, rfl⟩ := Int.eq_ofNat_of_zero_le h0
  have hl : n < items.length := by omega
  have er : rd items (n : Int) = items[n] := by unfold rd; rw [Int.toNat_natCast, List.getD_eq_getElem?_getD, List.getElem?_eq_getElem hl]; rfl
  have e : ((n : Int) + 1).toNat = n + 1 := by omega
  rw [er] at h ⊢
  unfold tailB
  rw [Int.toNat_natCast, e, List.drop_eq_getElem_cons hl]
  simp only [useGo, h, Bool.false_eq_true, if_false]
theorem tail_end (l0 : List (S72)) (l1 : List (S68)) (d : Nat) (i : Int) (u items : List Int) : tailB l0 l1 d i u (items.drop items.length) = treeGo l0 l1 d (i + 1) u := by
  unfold tailB
  rw [List.drop_length]
  rfl
def impl_TreeOk.f (k : Nat) (l0_0 : List (S72)) (l0_1 : List (S68)) : Option Bool :=
  if wfTree l0_0 l0_1 = true then (impl_Tree_devicesOk.f k l0_0 l0_1).bind fun d => some (d && decide (l0_1.length ≤ 12) && treeB l0_0 l0_1) else none
theorem wf_items {l0 : List (S72)} {l1 : List (S68)} (h : wfTree l0 l1 = true) (i : Int) (h0 : 0 ≤ i) (h1 : i < l1.length) (j : Int) (g0 : 0 ≤ j) (g1 : j < (rd_T68 l1 i).f2.length) : wfI (rd (rd_T68 l1 i).f2 j) = true := by
  have hw := (wf_bucket h i h0 h1).2.2
  rw [List.all_eq_true] at hw
  refine hw _ ?_
  have hl : j.toNat < (rd_T68 l1 i).f2.length := by omega
  unfold rd
  rw [List.getD_eq_getElem?_getD, List.getElem?_eq_getElem hl]
  exact List.getElem_mem hl
def az_z46 (n m : Nat) : Array Bool := (List.replicate n true ++ List.replicate m false).toArray
def mz46_0 : Array Bool := az_z46 0 38
def mz46_1 : Array Bool := az_z46 1 37
def mz46_2 : Array Bool := az_z46 2 36
def mz46_3 : Array Bool := az_z46 3 35
def mz46_4 : Array Bool := az_z46 4 34
def mz46_5 : Array Bool := az_z46 5 33
def mz46_6 : Array Bool := az_z46 6 32
def mz46_7 : Array Bool := az_z46 7 31
def mz46_8 : Array Bool := az_z46 8 30
def mz46_9 : Array Bool := az_z46 9 29
def mz46_10 : Array Bool := az_z46 10 28
def mz46_11 : Array Bool := az_z46 11 27
def mz46_12 : Array Bool := az_z46 12 26
def mz46_13 : Array Bool := az_z46 13 25
def mz46_14 : Array Bool := az_z46 14 24
def mz46_15 : Array Bool := az_z46 15 23
def mz46_16 : Array Bool := az_z46 16 22
def mz46_17 : Array Bool := az_z46 17 21
def mz46_18 : Array Bool := az_z46 18 20
def mz46_19 : Array Bool := az_z46 19 19
def mz46_20 : Array Bool := az_z46 20 18
def mz46_21 : Array Bool := az_z46 21 17
def mz46_22 : Array Bool := az_z46 22 16
def mz46_23 : Array Bool := az_z46 23 15
def mz46_24 : Array Bool := az_z46 24 14
def mz46_25 : Array Bool := az_z46 25 13
def mz46_26 : Array Bool := az_z46 26 12
def mz46_27 : Array Bool := az_z46 27 11
def mz46_28 : Array Bool := az_z46 28 10
def mz46_29 : Array Bool := az_z46 29 9
def mz46_30 : Array Bool := az_z46 30 8
def mz46_31 : Array Bool := az_z46 31 7
def mz46_32 : Array Bool := az_z46 32 6
def mz46_33 : Array Bool := az_z46 33 5
def mz46_34 : Array Bool := az_z46 34 4
def mz46_35 : Array Bool := az_z46 35 3
def mz46_36 : Array Bool := az_z46 36 2
def mz46_37 : Array Bool := az_z46 37 1
def mz46_38 : Array Bool := az_z46 38 0
theorem pu_z46 {P : Program} {ops : Array Oper} {Q : Exit → Act → World → Prop} {md : Region.Mode} {S : World → Prop} {ds : List Nat} {oi : Oper} {fuel : Nat} {l : Array Bool} {a : Act} {w : World} (i : Nat) (N : Option Tmp) (v : Value) (l' : Array Bool) (hi : ops[i]? = some oi) (hN : oi.dst = N) (hc : anyB md ops l l' i = true)
    (hQ : ∀ c a w, Q (.panic c) (a.put oi.dst v) w → Q (.panic c) a w) (hy : Yields P ops oi v a) (a' : Act) (ha : a.put N v = a')
    (h : wpAnyLast P md ops Q S ds fuel l' a' w) : wpAnyLast P md ops Q S ds (fuel + 1) l a w := pure_ l' hi hN hc hQ hy ha h
theorem pq_z46 : (∀ (l : List Value) (i : Nat) (v : Value), l.toArray.setIfInBounds i v = (l.set i v).toArray) ∧ (∀ (x v : Value) (xs : List Value), (x :: xs).set 0 v = v :: xs) ∧ (∀ (x v : Value) (xs : List Value) (n : Nat), (x :: xs).set (n + 1) v = x :: xs.set n v) ∧ (∀ n : Int, IntKind.i64.wrap n = Go.RowKit.wrap64 n) ∧ (∀ n : Int, IntKind.i32.wrap n = Go.RowKit.wrap32 n) :=
  ⟨fun l i v => List.setIfInBounds_toArray l i v, fun _ _ _ => rfl, fun _ _ _ _ => rfl, i64_w, i32_w⟩
set_option maxHeartbeats 4000000 in
set_option maxRecDepth 100000 in
theorem impl_TreeOk.calls (k : Nat) (A0_0 : Option Addr) (c0_0 : Nat) (l0_0 : List (S72)) (A0_1 : Option Addr) (c0_1 : Nat) (l0_1 : List (S68)) (r : Bool) (w : World) (hr0_0 : Kd.C k72 w A0_0 l0_0.length l0_0) (hc0_0 : l0_0.length ≤ c0_0) (hr0_1 : Kd.C k68 w A0_1 l0_1.length l0_1) (hc0_1 : l0_1.length ≤ c0_1) (h : impl_TreeOk.f k l0_0 l0_1 = some r) :
  Calls Tryz.prog 46 #[.agg #[.slice A0_0 l0_0.length c0_0, .slice A0_1 l0_1.length c0_1]] w fun e w' => e = .returned (.bool r) ∧ Below w.heap.size w w' := by
 have hm := Kd.C_max hr0_1
 have HR0 := Aside0.mk hr0_0
 have HR1 := Aside0.mk hr0_1
 have HC0 := Aside0.mk hc0_0
 have HC1 := Aside0.mk hc0_1
 clear hr0_0 hr0_1 hc0_0 hc0_1
 unfold impl_TreeOk.f at h
 by_cases hwf : wfTree l0_0 l0_1 = true
 case neg => rw [if_neg hwf] at h; cases h
 rw [if_pos hwf] at h
 have HWF := Aside0.mk hwf
 clear hwf
 obtain ⟨dv, hdv, h2⟩ := Option.bind_eq_some_iff.1 h
 have HDV := Aside0.mk hdv
 have HR := Aside0.mk (Option.some.inj h2)
 clear h hdv h2
 have hmm := @run_makeMap Tryz.prog
 go_enter Tryz.func46, Tryz.ntmps46
 go_wp2_with fail
 have HX0 := Aside0.mk (blk_new w (.cells #[.slice A0_0 l0_0.length c0_0, .slice A0_1 l0_1.length c0_1] 35))
 have HB0 := Aside0.mk (below_alloc (Below.refl w.heap.size w) (.cells #[.slice A0_0 l0_0.length c0_0, .slice A0_1 l0_1.length c0_1] 35))
 generalize hgt : w.heap.size = gt at HX0 ⊢
 have HGT := Aside0.mk hgt
 clear hgt
 refine (impl_Tree_devicesOk.calls k A0_0 c0_0 l0_0 A0_1 c0_1 l0_1 dv _ (Kd.C_below HR0.out HB0.out) HC0.out (Kd.C_below HR1.out HB0.out) HC1.out HDV.out).mono ?_
 rintro e w1 ⟨rfl, hb1⟩
 have HX1 := Aside0.mk ((hb1.block _ (blk_lt HX0.out)).trans HX0.out)
 have HB1 := Aside0.mk (below_step HB0.out hb1)
 clear hb1 HB0 HX0 HDV
 have hcx0 := (blk_cell HX1.out 0).trans rfl
 have hcx1 := (blk_cell HX1.out 1).trans rfl
 have hgl1 := blk_lt HX1.out
 cases dv with
 | false =>
  go_wp2_with fail
  go_ret
  exact ⟨by rw [← HR.out]; rfl, HB1.out⟩
 | true =>
  by_cases c1 : l0_1.length ≤ 12
  case neg =>
   have c1b : decide (12 < (l0_1.length : Int)) = true := decide_eq_true (by omega)
   have c1n : decide (12 < l0_1.length) = true := decide_eq_true (by omega)
   have HF := Aside0.mk (show r = false from by rw [← HR.out, decide_eq_false c1]; rfl)
   clear c1
   go_wp2_with fail
   go_ret
   exact ⟨by rw [HF.out]; rfl, HB1.out⟩
  have c1b : decide (12 < (l0_1.length : Int)) = false := decide_eq_false (by omega)
  have c1n : decide (12 < l0_1.length) = false := decide_eq_false (by omega)
  have HRT := Aside0.mk (show r = treeGo l0_0 l0_1 (l0_1.length - (0 : Int).toNat) 0 [] from by rw [← HR.out, decide_eq_true c1]; rfl)
  clear HR
  go_wp2_with fail
  have HS0 := Aside0.mk (OwnSet.made w1)
  have HMB := Aside0.mk (show w.heap.size ≤ w1.heap.size from HB1.out.size)
  have HNE := Aside0.mk (show ¬ gt = w1.heap.size from by have := blk_lt HX1.out; omega)
  have HX2 := Aside0.mk (blk_alloc HX1.out (.map #[] 0))
  have HB2 := Aside0.mk (below_alloc HB1.out (.map #[] 0))
  generalize (w1.alloc (.map #[] 0)) = w2 at HS0 HX2 HB2 ⊢
  generalize w1.heap.size = mb at HS0 HMB HNE ⊢
  clear HX1 HB1
  go_loopg [21] l0_1.length (fun gg s21 wr => ∃ (kk : Int) (S : List Int), 0 ≤ kk ∧ kk ≤ l0_1.length ∧ (l0_1.length : Int) - kk ≤ gg ∧ s21 = .int .i64 kk ∧ (S.length : Int) ≤ 8 * kk ∧ Aside0 (Below w.heap.size w wr) ∧ Aside0 (OwnSet wr mb S.length S) ∧ Aside0 (wr.heap[gt]? = some (.cells #[.slice A0_0 l0_0.length c0_0, .slice A0_1 l0_1.length c0_1] 35 (0, 0))) ∧ Aside0 (r = treeGo l0_0 l0_1 (l0_1.length - kk.toNat) kk S))
  case atStart => exact ⟨0, [], by omega, by omega, by omega, rfl, by simp, HB2, HS0, HX2, HRT⟩
  case round =>
   clear HB2 HS0 HX2 HRT hcx0 hcx1 hgl1
   obtain ⟨kk, S, h0, hkk, hg, rfl, hS, BW, HS, HX, HT⟩ := hrel
   obtain ⟨gko, hgko⟩ : ∃ g, g = gk := ⟨_, rfl⟩
   rw [← hgko] at hg
   have HGK := Aside0.mk hgko
   clear hgko
   by_cases hlt : kk < (l0_1.length : Int)
   case neg =>
    obtain rfl : kk = l0_1.length := by omega
    have HF := Aside0.mk (show r = true from by rw [HT.out, show l0_1.length - ((l0_1.length : Int)).toNat = 0 from by omega]; rfl)
    clear HT
    go_wp2_with fail
    go_ret
    exact ⟨by rw [HF.out]; rfl, BW.out⟩
   have hdd : l0_1.length - kk.toNat = (l0_1.length - (kk + 1).toNat) + 1 := by omega
   have HT1 := Aside0.mk (show r = if bktB l0_0 l0_1 kk = true then tailB l0_0 l0_1 (l0_1.length - (kk + 1).toNat) kk S (rd_T68 l0_1 kk).f2 else false from by rw [HT.out, hdd]; rfl)
   clear HT hdd
   obtain ⟨ad, A2, c2, hA, hx0, hx1, hx2, hl2, hg2⟩ := at_T68 HR1.out kk h0 hlt
   have hprev : 0 < kk → w.cell? (ad.add ((kk - 1).toNat * 3)) = some (.int .i64 (rd_T68 l0_1 (kk - 1)).f0) := fun hp => by
    obtain ⟨ad', A2', c2', hA', hx0', _⟩ := at_T68 HR1.out (kk - 1) (by omega) (by omega)
    have : ad = ad' := Option.some.inj (hA.symm.trans hA')
    rw [this]; exact hx0'
   have HPV := Aside0.mk hprev
   clear hprev
   subst hA
   have HRI := Aside0.mk hg2
   have HWI := Aside0.mk (fun j g0 g1 => wf_items HWF.out kk h0 hlt j g0 g1)
   have HBK := Aside0.mk (show bktB l0_0 l0_1 kk = (inB (rd_T68 l0_1 kk).f0 (-12) (-1) && !(decide (0 < kk) && decide ((rd_T68 l0_1 (kk - 1)).f0 ≤ (rd_T68 l0_1 kk).f0)) && inB (rd_T68 l0_1 kk).f1 1 3 && decide ((rd_T68 l0_1 kk).f2.length ≤ 8) && itemsOkB l0_0 l0_1 (rd_T68 l0_1 kk).f1 (rd_T68 l0_1 kk).f2) from rfl)
   have hm2 := Kd.C_max hg2
   clear hg2
   replace hx0 := (BW.out.cell (World.block_lt_of_cell? w _ hx0)).trans hx0
   replace hx1 := (BW.out.cell (World.block_lt_of_cell? w _ hx1)).trans hx1
   replace hx2 := (BW.out.cell (World.block_lt_of_cell? w _ hx2)).trans hx2
   generalize rd_T68 l0_1 kk = b at hx0 hx1 hx2 hl2 HRI HWI HBK HT1 hm2
   generalize (rd_T68 l0_1 (kk - 1)).f0 = pv at HPV HBK
   have q0 := eq_true h0
   have q1 := eq_true hlt
   have hcx1 := (blk_cell HX.out 1).trans rfl
   have hgl := blk_lt HX.out
   go_wp2_with fail
   have HG := Aside0.mk (blk_new wr (.cells #[.int .i64 b.f0, .int .i64 b.f1, .slice A2 b.f2.length c2] 68))
   have HX3 := Aside0.mk (blk_alloc HX.out (.cells #[.int .i64 b.f0, .int .i64 b.f1, .slice A2 b.f2.length c2] 68))
   have HB3 := Aside0.mk (below_alloc BW.out (.cells #[.int .i64 b.f0, .int .i64 b.f1, .slice A2 b.f2.length c2] 68))
   have HS3 := Aside0.mk (OwnSet.below HS.out (below_alloc (Below.refl wr.heap.size wr) (.cells #[.int .i64 b.f0, .int .i64 b.f1, .slice A2 b.f2.length c2] 68)))
   generalize (wr.alloc (.cells #[.int .i64 b.f0, .int .i64 b.f1, .slice A2 b.f2.length c2] 68)) = W at HG HX3 HB3 HS3 ⊢
   generalize wr.heap.size = gb at HG ⊢
   clear BW HS HX hx0 hx1 hx2 hcx1 hgl
   have hb0 := (blk_cell HG.out 0).trans rfl
   have hb1 := (blk_cell HG.out 1).trans rfl
   have hb2 := (blk_cell HG.out 2).trans rfl
   have ht0 := (blk_cell HX3.out 0).trans rfl
   have ht1 := (blk_cell HX3.out 1).trans rfl
   by_cases e1 : inB b.f0 (-12) (-1) = true
   case neg =>
    have g1 := Aside0.mk (show impl_between.f b.f0 (-12) (-1) = some false from by rw [between_inB]; simpa using e1)
    have HF := Aside0.mk (show r = false from by rw [HT1.out, HBK.out]; simp [e1])
    clear e1
    go_quiet ((go_at_call 27; first | exact quietD (impl_between.calls _ _ _ _ _ g1.out) | exact quietD (impl_between.calls _ _ _ _ _ g2.out)))
    have HBF := Aside0.mk (fun n => pw_below_drewN HB3.out n)
    go_wp2_with fail
    go_ret
    exact ⟨by rw [HF.out]; rfl, HBF.out _⟩
   have g1 := Aside0.mk (show impl_between.f b.f0 (-12) (-1) = some true from by rw [between_inB, e1])
   by_cases e0 : 0 < kk
   case pos =>
    obtain ⟨ki, hki⟩ : ∃ ki : Int, kk - 1 = ki := ⟨_, rfl⟩
    have hpv0 := HPV.out e0
    rw [hki] at hpv0
    have hpv := (HB3.out.cell (World.block_lt_of_cell? w _ hpv0)).trans hpv0
    have hw1 : IntKind.i64.wrap (kk - 1) = ki := (i64_w _).trans (by unfold wrap64; omega)
    have hw2 : wrap64 (kk - 1) = ki := by unfold wrap64; omega
    have i0 := eq_true (show 0 ≤ ki by omega)
    have i1 := eq_true (show ki < (l0_1.length : Int) by omega)
    clear hki hpv0
    have e0b : decide (0 < kk) = true := decide_eq_true e0
    by_cases e2 : pv ≤ b.f0
    case pos =>
     have e2b : decide (pv ≤ b.f0) = true := decide_eq_true e2
     have HF := Aside0.mk (show r = false from by rw [HT1.out, HBK.out]; simp [e0, e2])
     clear e1 e2 e0
     go_quiet ((go_at_call 27; first | exact quietD (impl_between.calls _ _ _ _ _ g1.out) | exact quietD (impl_between.calls _ _ _ _ _ g2.out)))
     have HBF := Aside0.mk (fun n => pw_below_drewN HB3.out n)
     go_wp2_with fail
     go_ret
     exact ⟨by rw [HF.out]; rfl, HBF.out _⟩
    have e2b : decide (pv ≤ b.f0) = false := decide_eq_false e2
    by_cases e3 : inB b.f1 1 3 = true
    case neg =>
     have g2 := Aside0.mk (show impl_between.f b.f1 1 3 = some false from by rw [between_inB]; simpa using e3)
     have HF := Aside0.mk (show r = false from by rw [HT1.out, HBK.out]; simp [e3])
     clear e1 e3 e2 e0
     go_quiet ((go_at_call 27; first | exact quietD (impl_between.calls _ _ _ _ _ g1.out) | exact quietD (impl_between.calls _ _ _ _ _ g2.out)))
     have HBF := Aside0.mk (fun n => pw_below_drewN HB3.out n)
     go_wp2_with fail
     go_ret
     exact ⟨by rw [HF.out]; rfl, HBF.out _⟩
    have g2 := Aside0.mk (show impl_between.f b.f1 1 3 = some true from by rw [between_inB, e3])
    by_cases e4 : b.f2.length ≤ 8
    case neg =>
     have e4b : decide (8 < (b.f2.length : Int)) = true := decide_eq_true (by omega)
     have e4n : decide (8 < b.f2.length) = true := decide_eq_true (by omega)
     have HF := Aside0.mk (show r = false from by rw [HT1.out, HBK.out]; simp [e4])
     clear e1 e3 e4 e2 e0
     go_quiet ((go_at_call 27; first | exact quietD (impl_between.calls _ _ _ _ _ g1.out) | exact quietD (impl_between.calls _ _ _ _ _ g2.out)))
     have HBF := Aside0.mk (fun n => pw_below_drewN HB3.out n)
     go_wp2_with fail
     go_ret
     exact ⟨by rw [HF.out]; rfl, HBF.out _⟩
    have e4b : decide (8 < (b.f2.length : Int)) = false := decide_eq_false (by omega)
    have e4n : decide (8 < b.f2.length) = false := decide_eq_false (by omega)
    by_cases e5 : itemsOkB l0_0 l0_1 b.f1 b.f2 = true
    case neg =>
     have g3 := Aside0.mk (show impl_Tree_itemsOk.f l0_0 l0_1 b.f0 b.f1 b.f2 = some false from by unfold impl_Tree_itemsOk.f; rw [if_pos HWF.out]; simpa using e5)
     have HF := Aside0.mk (show r = false from by rw [HT1.out, HBK.out]; simp [e5])
     clear e1 e3 e4 e5 e2 e0
     have HK := Aside0.mk (show ∀ w', Below W.heap.size W w' → (fun w' => w'.cell? ⟨gb, 0, none⟩ = some (.int .i64 b.f0) ∧ w'.cell? ⟨gb, 1, none⟩ = some (.int .i64 b.f1) ∧ w'.cell? ⟨gb, 2, none⟩ = some (.slice A2 b.f2.length c2) ∧ w'.cell? ⟨gt, 0, none⟩ = some (.slice A0_0 l0_0.length c0_0) ∧ w'.cell? ⟨gt, 1, none⟩ = some (.slice (some ad) l0_1.length c0_1) ∧ w'.cell? (ad.add (ki.toNat * 3)) = some (.int .i64 pv) ∧ Below W.heap.size W w') w' from fun w' h => ⟨(h.cell (blk_lt HG.out)).trans hb0, (h.cell (blk_lt HG.out)).trans hb1, (h.cell (blk_lt HG.out)).trans hb2, (h.cell (blk_lt HX3.out)).trans ht0, (h.cell (blk_lt HX3.out)).trans ht1, (h.cell (World.block_lt_of_cell? W _ hpv)).trans hpv, h⟩)
     have HIT := Aside0.mk (fun w' (hb : Below W.heap.size W w') => impl_Tree_itemsOk.calls A0_0 c0_0 l0_0 (some ad) c0_1 l0_1 b.f0 b.f1 A2 c2 b.f2 false w' (Kd.C_below HR0.out (below_step HB3.out hb)) HC0.out (Kd.C_below HR1.out (below_step HB3.out hb)) HC1.out (Kd.C_below HRI.out (below_step HB3.out hb)) hl2 g3.out)
     go_region_held3 (fun w' => w'.cell? ⟨gb, 0, none⟩ = some (.int .i64 b.f0) ∧ w'.cell? ⟨gb, 1, none⟩ = some (.int .i64 b.f1) ∧ w'.cell? ⟨gb, 2, none⟩ = some (.slice A2 b.f2.length c2) ∧ w'.cell? ⟨gt, 0, none⟩ = some (.slice A0_0 l0_0.length c0_0) ∧ w'.cell? ⟨gt, 1, none⟩ = some (.slice (some ad) l0_1.length c0_1) ∧ w'.cell? (ad.add (ki.toNat * 3)) = some (.int .i64 pv) ∧ Below W.heap.size W w')
      (first | exact HK.out _ hbb | exact HK.out _ (below_drew1 (Below.refl _ _)) | exact HK.out _ (Below.refl _ _))
      (first | (go_at_call 27; go_split_ands; (first | (with_reducible refine (impl_between.calls _ _ _ _ _ g1.out).mono ?_) | (with_reducible refine (impl_between.calls _ _ _ _ _ g2.out).mono ?_)); rintro e w3 ⟨rfl, hd⟩; have hbb : Below W.heap.size W w3 := below_step (by assumption) hd.below) | (go_at_call 66; go_split_ands; (with_reducible refine (HIT.out _ (by assumption)).mono ?_); rintro e w3 ⟨rfl, hb⟩; have hbb : Below W.heap.size W w3 := below_step (by assumption) hb))
     have HBF := Aside0.mk (below_step HB3.out hbb)
     go_wp2_with fail
     go_ret
     exact ⟨by rw [HF.out]; rfl, HBF.out⟩
    have g3 := Aside0.mk (show impl_Tree_itemsOk.f l0_0 l0_1 b.f0 b.f1 b.f2 = some true from by unfold impl_Tree_itemsOk.f; rw [if_pos HWF.out, e5])
    have HT2 := Aside0.mk (show r = tailB l0_0 l0_1 (l0_1.length - (kk + 1).toNat) kk (S ++ b.f2.take (0 : Int).toNat) (b.f2.drop (0 : Int).toNat) from by rw [HT1.out, HBK.out, if_pos (by simp [e1, e2, e3, e4, e5])]; simp)
    have he4 := eq_true e4
    clear e1 e3 e5 HT1 HBK he4 e2 e0
    have HK := Aside0.mk (show ∀ w', Below W.heap.size W w' → (fun w' => w'.cell? ⟨gb, 0, none⟩ = some (.int .i64 b.f0) ∧ w'.cell? ⟨gb, 1, none⟩ = some (.int .i64 b.f1) ∧ w'.cell? ⟨gb, 2, none⟩ = some (.slice A2 b.f2.length c2) ∧ w'.cell? ⟨gt, 0, none⟩ = some (.slice A0_0 l0_0.length c0_0) ∧ w'.cell? ⟨gt, 1, none⟩ = some (.slice (some ad) l0_1.length c0_1) ∧ w'.cell? (ad.add (ki.toNat * 3)) = some (.int .i64 pv) ∧ Below W.heap.size W w') w' from fun w' h => ⟨(h.cell (blk_lt HG.out)).trans hb0, (h.cell (blk_lt HG.out)).trans hb1, (h.cell (blk_lt HG.out)).trans hb2, (h.cell (blk_lt HX3.out)).trans ht0, (h.cell (blk_lt HX3.out)).trans ht1, (h.cell (World.block_lt_of_cell? W _ hpv)).trans hpv, h⟩)
    have HIT := Aside0.mk (fun w' (hb : Below W.heap.size W w') => impl_Tree_itemsOk.calls A0_0 c0_0 l0_0 (some ad) c0_1 l0_1 b.f0 b.f1 A2 c2 b.f2 true w' (Kd.C_below HR0.out (below_step HB3.out hb)) HC0.out (Kd.C_below HR1.out (below_step HB3.out hb)) HC1.out (Kd.C_below HRI.out (below_step HB3.out hb)) hl2 g3.out)
    go_region_held3 (fun w' => w'.cell? ⟨gb, 0, none⟩ = some (.int .i64 b.f0) ∧ w'.cell? ⟨gb, 1, none⟩ = some (.int .i64 b.f1) ∧ w'.cell? ⟨gb, 2, none⟩ = some (.slice A2 b.f2.length c2) ∧ w'.cell? ⟨gt, 0, none⟩ = some (.slice A0_0 l0_0.length c0_0) ∧ w'.cell? ⟨gt, 1, none⟩ = some (.slice (some ad) l0_1.length c0_1) ∧ w'.cell? (ad.add (ki.toNat * 3)) = some (.int .i64 pv) ∧ Below W.heap.size W w')
     (first | exact HK.out _ hbb | exact HK.out _ (below_drew1 (Below.refl _ _)) | exact HK.out _ (Below.refl _ _))
     (first | (go_at_call 27; go_split_ands; (first | (with_reducible refine (impl_between.calls _ _ _ _ _ g1.out).mono ?_) | (with_reducible refine (impl_between.calls _ _ _ _ _ g2.out).mono ?_)); rintro e w3 ⟨rfl, hd⟩; have hbb : Below W.heap.size W w3 := below_step (by assumption) hd.below) | (go_at_call 66; go_split_ands; (with_reducible refine (HIT.out _ (by assumption)).mono ?_); rintro e w3 ⟨rfl, hb⟩; have hbb : Below W.heap.size W w3 := below_step (by assumption) hb))
    have t2 := (hbb.cell (blk_lt HG.out)).trans hb2
    have HXF := Aside0.mk (blk_below HX3.out hbb)
    have HSF := Aside0.mk (OwnSet.below HS3.out hbb)
    have HBF := Aside0.mk (below_step HB3.out hbb)
    clear g1 g2 g3 HG HX3 HB3 HS3
    go_wp2_with fail
    try clear hb0 hb1 hb2 ht0 ht1 hpv
    go_loopg [67] b.f2.length (fun gg s67 wq => ∃ jj : Int, 0 ≤ jj ∧ jj ≤ b.f2.length ∧ (b.f2.length : Int) - jj ≤ gg ∧ s67 = .int .i64 jj ∧ Aside0 (Below w.heap.size w wq) ∧ Aside0 (OwnSet wq mb (S ++ b.f2.take jj.toNat).length (S ++ b.f2.take jj.toNat)) ∧ Aside0 (wq.heap[gt]? = some (.cells #[.slice A0_0 l0_0.length c0_0, .slice (some ad) l0_1.length c0_1] 35 (0, 0))) ∧ Aside0 (r = tailB l0_0 l0_1 (l0_1.length - (kk + 1).toNat) kk (S ++ b.f2.take jj.toNat) (b.f2.drop jj.toNat)))
    case atStart => exact ⟨0, by omega, by omega, by omega, rfl, HBF, by simpa using HSF, HXF, HT2⟩
    case round =>
     clear HBF HSF HXF HT2
     obtain ⟨jj, j0, hjj, hgj, rfl, BQ, SQ, XQ, TQ⟩ := hrel
     by_cases hlj : jj < (b.f2.length : Int)
     ·obtain ⟨ad2, rfl, hy0⟩ := Kd.at_int HRI.out jj j0 hlj
      replace hy0 := (BQ.out.cell (World.block_lt_of_cell? w _ hy0)).trans hy0
      have p0 := eq_true j0
      have p1 := eq_true hlj
      have hw := HWI.out jj j0 hlj
      have hlook := OwnSet.look SQ.out (rd b.f2 jj) hw
      have hsl : (S ++ b.f2.take jj.toNat).length = S.length + jj.toNat := by rw [List.length_append, List.length_take]; omega
      have hsn : (S ++ b.f2.take jj.toNat).length < 9223372036854775807 := by omega
      have HW2 := Aside0.mk hw
      have HTK := Aside0.mk (show S ++ b.f2.take (jj + 1).toNat = (S ++ b.f2.take jj.toNat) ++ [rd b.f2 jj] from by
       have := take_map_snoc id b.f2 jj j0 hlj 0
       simp only [List.map_id, id] at this
       rw [this, List.append_assoc]; rfl)
      cases hq : (S ++ b.f2.take jj.toNat).any (fun y => y == rd b.f2 jj) with
      | true =>
       rw [hq] at hlook
       have HF := Aside0.mk (show r = false from by rw [TQ.out]; exact tail_hit _ _ _ _ _ _ _ j0 hlj hq)
       clear hq hsl hsn TQ HTK hw
       go_wp2_with fail
       go_ret
       exact ⟨by rw [HF.out]; rfl, BQ.out⟩
      | false =>
       rw [hq] at hlook
       have HTN := Aside0.mk (show r = tailB l0_0 l0_1 (l0_1.length - (kk + 1).toNat) kk (S ++ b.f2.take (jj + 1).toNat) (b.f2.drop (jj + 1).toNat) from by rw [TQ.out, HTK.out]; exact tail_miss _ _ _ _ _ _ _ j0 hlj hq)
       have HSN := Aside0.mk hsn
       clear hq hsl hsn TQ hw
       go_wp2_with (at_mapUpdate; refine OwnSet.put rfl rfl _ _ _ rfl _ _ _ rfl SQ.out HSN.out _ rfl rfl HW2.out ?_; intro w5 hs5 hg5; have HS5 := Aside0.mk hs5; have HG5 := Aside0.mk hg5; clear hs5 hg5)
       go_roundg (gk - 1)
       case measure => omega
       case rel =>
        exact ⟨jj + 1, by omega, by omega, by omega, by go_num, ⟨pw_below_grown BQ.out (some mb) BQ.out.size HG5.out (by intro k hk; cases hk; exact HMB.out)⟩,
         ⟨by rw [HTK.out]; have := HS5.out; rw [List.length_append]; exact this⟩, ⟨(HG5.out.block _ (blk_lt XQ.out) (by simp; exact HNE.out)).trans XQ.out⟩, HTN⟩
     ·obtain rfl : jj = b.f2.length := by omega
      have HTE := Aside0.mk (show r = treeGo l0_0 l0_1 (l0_1.length - (kk + 1).toNat) (kk + 1) (S ++ b.f2) from by
       have := TQ.out
       rw [Int.toNat_natCast, List.take_length] at this
       rw [this]; exact tail_end _ _ _ _ _ _)
      have HSE := Aside0.mk (show OwnSet wr mb (S ++ b.f2).length (S ++ b.f2) from by have := SQ.out; rw [Int.toNat_natCast, List.take_length] at this; exact this)
      have hlen : (((S ++ b.f2).length : Nat) : Int) ≤ 8 * (kk + 1) := by rw [List.length_append]; omega
      clear TQ SQ
      go_wp2_with fail
      go_roundg (gko - 1)
      case measure => have := HGK.out; omega
      case rel => exact ⟨kk + 1, S ++ b.f2, by omega, by omega, by omega, by go_num, hlen, BQ, HSE, XQ, HTE⟩
   have e0b : decide (0 < kk) = false := decide_eq_false e0
   by_cases e3 : inB b.f1 1 3 = true
   case neg =>
    have g2 := Aside0.mk (show impl_between.f b.f1 1 3 = some false from by rw [between_inB]; simpa using e3)
    have HF := Aside0.mk (show r = false from by rw [HT1.out, HBK.out]; simp [e3])
    clear e1 e3 e0
    go_quiet ((go_at_call 27; first | exact quietD (impl_between.calls _ _ _ _ _ g1.out) | exact quietD (impl_between.calls _ _ _ _ _ g2.out)))
    have HBF := Aside0.mk (fun n => pw_below_drewN HB3.out n)
    go_wp2_with fail
    go_ret
    exact ⟨by rw [HF.out]; rfl, HBF.out _⟩
   have g2 := Aside0.mk (show impl_between.f b.f1 1 3 = some true from by rw [between_inB, e3])
   by_cases e4 : b.f2.length ≤ 8
   case neg =>
    have e4b : decide (8 < (b.f2.length : Int)) = true := decide_eq_true (by omega)
    have e4n : decide (8 < b.f2.length) = true := decide_eq_true (by omega)
    have HF := Aside0.mk (show r = false from by rw [HT1.out, HBK.out]; simp [e4])
    clear e1 e3 e4 e0
    go_quiet ((go_at_call 27; first | exact quietD (impl_between.calls _ _ _ _ _ g1.out) | exact quietD (impl_between.calls _ _ _ _ _ g2.out)))
    have HBF := Aside0.mk (fun n => pw_below_drewN HB3.out n)
    go_wp2_with fail
    go_ret
    exact ⟨by rw [HF.out]; rfl, HBF.out _⟩
   have e4b : decide (8 < (b.f2.length : Int)) = false := decide_eq_false (by omega)
   have e4n : decide (8 < b.f2.length) = false := decide_eq_false (by omega)
   by_cases e5 : itemsOkB l0_0 l0_1 b.f1 b.f2 = true
   case neg =>
    have g3 := Aside0.mk (show impl_Tree_itemsOk.f l0_0 l0_1 b.f0 b.f1 b.f2 = some false from by unfold impl_Tree_itemsOk.f; rw [if_pos HWF.out]; simpa using e5)
    have HF := Aside0.mk (show r = false from by rw [HT1.out, HBK.out]; simp [e5])
    clear e1 e3 e4 e5 e0
    refine start_ (n := 38) (S := fun w' => w'.cell? ⟨gb, 0, none⟩ = some (.int .i64 b.f0) ∧ w'.cell? ⟨gb, 1, none⟩ = some (.int .i64 b.f1) ∧ w'.cell? ⟨gb, 2, none⟩ = some (.slice A2 b.f2.length c2) ∧ w'.cell? ⟨gt, 0, none⟩ = some (.slice A0_0 l0_0.length c0_0) ∧ w'.cell? ⟨gt, 1, none⟩ = some (.slice (some ad) l0_1.length c0_1) ∧ w'.heap[gb]? = some (.cells #[.int .i64 b.f0, .int .i64 b.f1, .slice A2 b.f2.length c2] 68 (0, 0)) ∧ w'.heap[gt]? = some (.cells #[.slice A0_0 l0_0.length c0_0, .slice (some ad) l0_1.length c0_1] 35 (0, 0)) ∧ OwnSet w' mb S.length S ∧ Below w.heap.size w w') (ds := []) mz46_0 (by kernel_rfl) rfl rfl ⟨hb0, hb1, hb2, ht0, ht1, blk_drew HG.out, blk_drew HX3.out, OwnSet.drew1 HS3.out, below_drew1 HB3.out⟩ (fun hHeld => ?_)
    refine pu 0 (some 26) mz46_1 (by kernel_rfl) ?_
    refine tk 1 (some 27) mz46_2 hHeld (by kernel_rfl) ?_
    refine one_ (i := 2) (N := some 28) mz46_3 rfl rfl (by kernel_rfl) (by decide) (fun K hK => ?_)
    obtain ⟨t0, t1, t2, t3, t4, t5, t6, t7, t8⟩ := hHeld
    refine goes_ Tryz.func27 (by kernel_rfl) rfl #[.int .i64 b.f0, .int .i64 (-12), .int .i64 (-1)] (by rfl) rfl rfl (by simp only [List.map_toArray, List.map_cons, List.map_nil]; rfl) ?_
    with_reducible refine (impl_between.calls _ _ _ true _ g1.out).mono ?_
    rintro e w3 ⟨rfl, hd⟩
    refine ⟨_, rfl, ?_⟩
    have hb := hd.below
    clear hd
    have u0 := (hb.cell (blk_lt t5)).trans t0
    have u1 := (hb.cell (blk_lt t5)).trans t1
    have u2 := (hb.cell (blk_lt t5)).trans t2
    have u3 := (hb.cell (blk_lt t6)).trans t3
    have u4 := (hb.cell (blk_lt t6)).trans t4
    have u5 := (hb.block _ (blk_lt t5)).trans t5
    have u6 := (hb.block _ (blk_lt t6)).trans t6
    have u7 := OwnSet.below t7 hb
    have u8 := below_step t8 hb
    clear t0 t1 t2 t3 t4 t5 t6 t7 t8 hb
    refine hK.out _ _ ⟨u0, u1, u2, u3, u4, u5, u6, u7, u8⟩ (fun hHeld => ?_)
    clear hK K
    refine norm_ (a' := ?_) ?_ ?_
    (rotate_left; ·(show Act.put _ (some 28) _ = _; simp only [Act.put, pq_z46]; rfl))
    refine pu 3 (some 29) mz46_4 (by kernel_rfl) ?_
    refine pu 4 (some 30) mz46_5 (by kernel_rfl) ?_
    refine pu 5 (some 31) mz46_6 (by kernel_rfl) ?_
    refine pu 6 (some 32) mz46_7 (by kernel_rfl) ?_
    refine pu 7 (some 33) mz46_8 (by kernel_rfl) ?_
    refine po 8 (some 34) mz46_9 (by kernel_rfl) ?_
    refine po 9 (some 35) mz46_10 (by kernel_rfl) ?_
    refine po 10 (some 36) mz46_11 (by kernel_rfl) ?_
    refine po 11 (some 37) mz46_12 (by kernel_rfl) ?_
    refine po 12 (some 38) mz46_13 (by kernel_rfl) ?_
    refine po 13 (some 39) mz46_14 (by kernel_rfl) ?_
    refine po 14 (some 40) mz46_15 (by kernel_rfl) ?_
    refine po 15 (some 41) mz46_16 (by kernel_rfl) ?_
    refine po 16 (some 42) mz46_17 (by kernel_rfl) ?_
    refine po 17 (some 43) mz46_18 (by kernel_rfl) ?_
    refine pu 18 (some 44) mz46_19 (by kernel_rfl) ?_
    refine pu 19 (some 45) mz46_20 (by kernel_rfl) ?_
    refine pu 20 (some 46) mz46_21 (by kernel_rfl) ?_
    refine pu 21 (some 47) mz46_22 (by kernel_rfl) ?_
    refine tk 22 (some 48) mz46_23 hHeld (by kernel_rfl) ?_
    refine one_ (i := 23) (N := some 49) mz46_24 rfl rfl (by kernel_rfl) (by decide) (fun K hK => ?_)
    obtain ⟨t0, t1, t2, t3, t4, t5, t6, t7, t8⟩ := hHeld
    refine goes_ Tryz.func27 (by kernel_rfl) rfl #[.int .i64 b.f1, .int .i64 1, .int .i64 3] (by rfl) rfl rfl (by simp only [List.map_toArray, List.map_cons, List.map_nil]; rfl) ?_
    with_reducible refine (impl_between.calls _ _ _ true _ g2.out).mono ?_
    rintro e w3 ⟨rfl, hd⟩
    refine ⟨_, rfl, ?_⟩
    have hb := hd.below
    clear hd
    have u0 := (hb.cell (blk_lt t5)).trans t0
    have u1 := (hb.cell (blk_lt t5)).trans t1
    have u2 := (hb.cell (blk_lt t5)).trans t2
    have u3 := (hb.cell (blk_lt t6)).trans t3
    have u4 := (hb.cell (blk_lt t6)).trans t4
    have u5 := (hb.block _ (blk_lt t5)).trans t5
    have u6 := (hb.block _ (blk_lt t6)).trans t6
    have u7 := OwnSet.below t7 hb
    have u8 := below_step t8 hb
    clear t0 t1 t2 t3 t4 t5 t6 t7 t8 hb
    refine hK.out _ _ ⟨u0, u1, u2, u3, u4, u5, u6, u7, u8⟩ (fun hHeld => ?_)
    clear hK K
    refine norm_ (a' := ?_) ?_ ?_
    (rotate_left; ·(show Act.put _ (some 49) _ = _; simp only [Act.put, pq_z46]; rfl))
    refine pu 24 (some 50) mz46_25 (by kernel_rfl) ?_
    refine pu 25 (some 51) mz46_26 (by kernel_rfl) ?_
    refine pu 26 (some 52) mz46_27 (by kernel_rfl) ?_
    refine pu 27 (some 53) mz46_28 (by kernel_rfl) ?_
    refine tk 28 (some 54) mz46_29 hHeld (by kernel_rfl) ?_
    refine pu 29 (some 55) mz46_30 (by kernel_rfl) ?_
    refine pu 30 (some 56) mz46_31 (by kernel_rfl) ?_
    refine pu 31 (some 57) mz46_32 (by kernel_rfl) ?_
    refine pu 32 (some 58) mz46_33 (by kernel_rfl) ?_
    refine tk 33 (some 59) mz46_34 hHeld (by kernel_rfl) ?_
    refine tk 34 (some 60) mz46_35 hHeld (by kernel_rfl) ?_
    refine one_ (i := 35) (N := some 61) mz46_36 rfl rfl (by kernel_rfl) (by decide) (fun K hK => ?_)
    obtain ⟨t0, t1, t2, t3, t4, t5, t6, t7, t8⟩ := hHeld
    refine goes_ Tryz.func66 (by kernel_rfl) rfl #[.agg #[.slice A0_0 l0_0.length c0_0, .slice (some ad) l0_1.length c0_1], .agg #[.int .i64 b.f0, .int .i64 b.f1, .slice A2 b.f2.length c2]] (by rfl) rfl rfl (by simp only [List.map_toArray, List.map_cons, List.map_nil]; rfl) ?_
    with_reducible refine (impl_Tree_itemsOk.calls A0_0 c0_0 l0_0 (some ad) c0_1 l0_1 b.f0 b.f1 A2 c2 b.f2 false _ (Kd.C_below HR0.out t8) HC0.out (Kd.C_below HR1.out t8) HC1.out (Kd.C_below HRI.out t8) hl2 g3.out).mono ?_
    rintro e w3 ⟨rfl, hb⟩
    refine ⟨_, rfl, ?_⟩
    have u0 := (hb.cell (blk_lt t5)).trans t0
    have u1 := (hb.cell (blk_lt t5)).trans t1
    have u2 := (hb.cell (blk_lt t5)).trans t2
    have u3 := (hb.cell (blk_lt t6)).trans t3
    have u4 := (hb.cell (blk_lt t6)).trans t4
    have u5 := (hb.block _ (blk_lt t5)).trans t5
    have u6 := (hb.block _ (blk_lt t6)).trans t6
    have u7 := OwnSet.below t7 hb
    have u8 := below_step t8 hb
    clear t0 t1 t2 t3 t4 t5 t6 t7 t8 hb
    refine hK.out _ _ ⟨u0, u1, u2, u3, u4, u5, u6, u7, u8⟩ (fun hHeld => ?_)
    clear hK K
    refine norm_ (a' := ?_) ?_ ?_
    (rotate_left; ·(show Act.put _ (some 61) _ = _; simp only [Act.put, pq_z46]; rfl))
    refine pu 36 (some 62) mz46_37 (by kernel_rfl) ?_
    refine pu 37 (some 63) mz46_38 (by kernel_rfl) ?_
    refine done_ (by kernel_rfl) ?_
    obtain ⟨t0, t1, t2, t3, t4, t5, t6, t7, t8⟩ := hHeld
    clear t0 t1 t2 t3 t4 t5 t6 t7
    have HBF := Aside0.mk t8
    clear t8
    go_wp2_with fail
    go_ret
    exact ⟨by rw [HF.out]; rfl, HBF.out⟩
   have g3 := Aside0.mk (show impl_Tree_itemsOk.f l0_0 l0_1 b.f0 b.f1 b.f2 = some true from by unfold impl_Tree_itemsOk.f; rw [if_pos HWF.out, e5])
   have HT2 := Aside0.mk (show r = tailB l0_0 l0_1 (l0_1.length - (kk + 1).toNat) kk (S ++ b.f2.take (0 : Int).toNat) (b.f2.drop (0 : Int).toNat) from by rw [HT1.out, HBK.out, if_pos (by simp [e1, e0, e3, e4, e5])]; simp)
   have he4 := eq_true e4
   clear e1 e3 e5 HT1 HBK he4 e0
   refine start_ (n := 38) (S := fun w' => w'.cell? ⟨gb, 0, none⟩ = some (.int .i64 b.f0) ∧ w'.cell? ⟨gb, 1, none⟩ = some (.int .i64 b.f1) ∧ w'.cell? ⟨gb, 2, none⟩ = some (.slice A2 b.f2.length c2) ∧ w'.cell? ⟨gt, 0, none⟩ = some (.slice A0_0 l0_0.length c0_0) ∧ w'.cell? ⟨gt, 1, none⟩ = some (.slice (some ad) l0_1.length c0_1) ∧ w'.heap[gb]? = some (.cells #[.int .i64 b.f0, .int .i64 b.f1, .slice A2 b.f2.length c2] 68 (0, 0)) ∧ w'.heap[gt]? = some (.cells #[.slice A0_0 l0_0.length c0_0, .slice (some ad) l0_1.length c0_1] 35 (0, 0)) ∧ OwnSet w' mb S.length S ∧ Below w.heap.size w w') (ds := []) mz46_0 (by kernel_rfl) rfl rfl ⟨hb0, hb1, hb2, ht0, ht1, blk_drew HG.out, blk_drew HX3.out, OwnSet.drew1 HS3.out, below_drew1 HB3.out⟩ (fun hHeld => ?_)
   refine pu 0 (some 26) mz46_1 (by kernel_rfl) ?_
   refine tk 1 (some 27) mz46_2 hHeld (by kernel_rfl) ?_
   refine one_ (i := 2) (N := some 28) mz46_3 rfl rfl (by kernel_rfl) (by decide) (fun K hK => ?_)
   obtain ⟨t0, t1, t2, t3, t4, t5, t6, t7, t8⟩ := hHeld
   refine goes_ Tryz.func27 (by kernel_rfl) rfl #[.int .i64 b.f0, .int .i64 (-12), .int .i64 (-1)] (by rfl) rfl rfl (by simp only [List.map_toArray, List.map_cons, List.map_nil]; rfl) ?_
   with_reducible refine (impl_between.calls _ _ _ true _ g1.out).mono ?_
   rintro e w3 ⟨rfl, hd⟩
   refine ⟨_, rfl, ?_⟩
   have hb := hd.below
   clear hd
   have u0 := (hb.cell (blk_lt t5)).trans t0
   have u1 := (hb.cell (blk_lt t5)).trans t1
   have u2 := (hb.cell (blk_lt t5)).trans t2
   have u3 := (hb.cell (blk_lt t6)).trans t3
   have u4 := (hb.cell (blk_lt t6)).trans t4
   have u5 := (hb.block _ (blk_lt t5)).trans t5
   have u6 := (hb.block _ (blk_lt t6)).trans t6
   have u7 := OwnSet.below t7 hb
   have u8 := below_step t8 hb
   clear t0 t1 t2 t3 t4 t5 t6 t7 t8 hb
   refine hK.out _ _ ⟨u0, u1, u2, u3, u4, u5, u6, u7, u8⟩ (fun hHeld => ?_)
   clear hK K
   refine norm_ (a' := ?_) ?_ ?_
   (rotate_left; ·(show Act.put _ (some 28) _ = _; simp only [Act.put, pq_z46]; rfl))
   refine pu 3 (some 29) mz46_4 (by kernel_rfl) ?_
   refine pu 4 (some 30) mz46_5 (by kernel_rfl) ?_
   refine pu 5 (some 31) mz46_6 (by kernel_rfl) ?_
   refine pu 6 (some 32) mz46_7 (by kernel_rfl) ?_
   refine pu 7 (some 33) mz46_8 (by kernel_rfl) ?_
   refine po 8 (some 34) mz46_9 (by kernel_rfl) ?_
   refine po 9 (some 35) mz46_10 (by kernel_rfl) ?_
   refine po 10 (some 36) mz46_11 (by kernel_rfl) ?_
   refine po 11 (some 37) mz46_12 (by kernel_rfl) ?_
   refine po 12 (some 38) mz46_13 (by kernel_rfl) ?_
   refine po 13 (some 39) mz46_14 (by kernel_rfl) ?_
   refine po 14 (some 40) mz46_15 (by kernel_rfl) ?_
   refine po 15 (some 41) mz46_16 (by kernel_rfl) ?_
   refine po 16 (some 42) mz46_17 (by kernel_rfl) ?_
   refine po 17 (some 43) mz46_18 (by kernel_rfl) ?_
   refine pu 18 (some 44) mz46_19 (by kernel_rfl) ?_
   refine pu 19 (some 45) mz46_20 (by kernel_rfl) ?_
   refine pu 20 (some 46) mz46_21 (by kernel_rfl) ?_
   refine pu 21 (some 47) mz46_22 (by kernel_rfl) ?_
   refine tk 22 (some 48) mz46_23 hHeld (by kernel_rfl) ?_
   refine one_ (i := 23) (N := some 49) mz46_24 rfl rfl (by kernel_rfl) (by decide) (fun K hK => ?_)
   obtain ⟨t0, t1, t2, t3, t4, t5, t6, t7, t8⟩ := hHeld
   refine goes_ Tryz.func27 (by kernel_rfl) rfl #[.int .i64 b.f1, .int .i64 1, .int .i64 3] (by rfl) rfl rfl (by simp only [List.map_toArray, List.map_cons, List.map_nil]; rfl) ?_
   with_reducible refine (impl_between.calls _ _ _ true _ g2.out).mono ?_
   rintro e w3 ⟨rfl, hd⟩
   refine ⟨_, rfl, ?_⟩
   have hb := hd.below
   clear hd
   have u0 := (hb.cell (blk_lt t5)).trans t0
   have u1 := (hb.cell (blk_lt t5)).trans t1
   have u2 := (hb.cell (blk_lt t5)).trans t2
   have u3 := (hb.cell (blk_lt t6)).trans t3
   have u4 := (hb.cell (blk_lt t6)).trans t4
   have u5 := (hb.block _ (blk_lt t5)).trans t5
   have u6 := (hb.block _ (blk_lt t6)).trans t6
   have u7 := OwnSet.below t7 hb
   have u8 := below_step t8 hb
   clear t0 t1 t2 t3 t4 t5 t6 t7 t8 hb
   refine hK.out _ _ ⟨u0, u1, u2, u3, u4, u5, u6, u7, u8⟩ (fun hHeld => ?_)
   clear hK K
   refine norm_ (a' := ?_) ?_ ?_
   (rotate_left; ·(show Act.put _ (some 49) _ = _; simp only [Act.put, pq_z46]; rfl))
   refine pu 24 (some 50) mz46_25 (by kernel_rfl) ?_
   refine pu 25 (some 51) mz46_26 (by kernel_rfl) ?_
   refine pu 26 (some 52) mz46_27 (by kernel_rfl) ?_
   refine pu 27 (some 53) mz46_28 (by kernel_rfl) ?_
   refine tk 28 (some 54) mz46_29 hHeld (by kernel_rfl) ?_
   refine pu 29 (some 55) mz46_30 (by kernel_rfl) ?_
   refine pu 30 (some 56) mz46_31 (by kernel_rfl) ?_
   refine pu 31 (some 57) mz46_32 (by kernel_rfl) ?_
   refine pu 32 (some 58) mz46_33 (by kernel_rfl) ?_
   refine tk 33 (some 59) mz46_34 hHeld (by kernel_rfl) ?_
   refine tk 34 (some 60) mz46_35 hHeld (by kernel_rfl) ?_
   refine one_ (i := 35) (N := some 61) mz46_36 rfl rfl (by kernel_rfl) (by decide) (fun K hK => ?_)
   obtain ⟨t0, t1, t2, t3, t4, t5, t6, t7, t8⟩ := hHeld
   refine goes_ Tryz.func66 (by kernel_rfl) rfl #[.agg #[.slice A0_0 l0_0.length c0_0, .slice (some ad) l0_1.length c0_1], .agg #[.int .i64 b.f0, .int .i64 b.f1, .slice A2 b.f2.length c2]] (by rfl) rfl rfl (by simp only [List.map_toArray, List.map_cons, List.map_nil]; rfl) ?_
   with_reducible refine (impl_Tree_itemsOk.calls A0_0 c0_0 l0_0 (some ad) c0_1 l0_1 b.f0 b.f1 A2 c2 b.f2 true _ (Kd.C_below HR0.out t8) HC0.out (Kd.C_below HR1.out t8) HC1.out (Kd.C_below HRI.out t8) hl2 g3.out).mono ?_
   rintro e w3 ⟨rfl, hb⟩
   refine ⟨_, rfl, ?_⟩
   have u0 := (hb.cell (blk_lt t5)).trans t0
   have u1 := (hb.cell (blk_lt t5)).trans t1
   have u2 := (hb.cell (blk_lt t5)).trans t2
   have u3 := (hb.cell (blk_lt t6)).trans t3
   have u4 := (hb.cell (blk_lt t6)).trans t4
   have u5 := (hb.block _ (blk_lt t5)).trans t5
   have u6 := (hb.block _ (blk_lt t6)).trans t6
   have u7 := OwnSet.below t7 hb
   have u8 := below_step t8 hb
   clear t0 t1 t2 t3 t4 t5 t6 t7 t8 hb
   refine hK.out _ _ ⟨u0, u1, u2, u3, u4, u5, u6, u7, u8⟩ (fun hHeld => ?_)
   clear hK K
   refine norm_ (a' := ?_) ?_ ?_
   (rotate_left; ·(show Act.put _ (some 61) _ = _; simp only [Act.put, pq_z46]; rfl))
   refine pu 36 (some 62) mz46_37 (by kernel_rfl) ?_
   refine pu 37 (some 63) mz46_38 (by kernel_rfl) ?_
   refine done_ (by kernel_rfl) ?_
   obtain ⟨t0, t1, t2, t3, t4, t5, t6, t7, t8⟩ := hHeld
   have HXF := Aside0.mk t6
   have HSF := Aside0.mk t7
   have HBF := Aside0.mk t8
   clear t0 t1 t3 t4 t5 t6 t7 t8 g1 g2 g3 HG HX3 HB3 HS3
   go_wp2_with fail
   clear t2
   go_loopg [67] b.f2.length (fun gg s67 wq => ∃ jj : Int, 0 ≤ jj ∧ jj ≤ b.f2.length ∧ (b.f2.length : Int) - jj ≤ gg ∧ s67 = .int .i64 jj ∧ Aside0 (Below w.heap.size w wq) ∧ Aside0 (OwnSet wq mb (S ++ b.f2.take jj.toNat).length (S ++ b.f2.take jj.toNat)) ∧ Aside0 (wq.heap[gt]? = some (.cells #[.slice A0_0 l0_0.length c0_0, .slice (some ad) l0_1.length c0_1] 35 (0, 0))) ∧ Aside0 (r = tailB l0_0 l0_1 (l0_1.length - (kk + 1).toNat) kk (S ++ b.f2.take jj.toNat) (b.f2.drop jj.toNat)))
   case atStart => exact ⟨0, by omega, by omega, by omega, rfl, HBF, by simpa using HSF, HXF, HT2⟩
   case round =>
    clear HBF HSF HXF HT2
    obtain ⟨jj, j0, hjj, hgj, rfl, BQ, SQ, XQ, TQ⟩ := hrel
    by_cases hlj : jj < (b.f2.length : Int)
    ·obtain ⟨ad2, rfl, hy0⟩ := Kd.at_int HRI.out jj j0 hlj
     replace hy0 := (BQ.out.cell (World.block_lt_of_cell? w _ hy0)).trans hy0
     have p0 := eq_true j0
     have p1 := eq_true hlj
     have hw := HWI.out jj j0 hlj
     have hlook := OwnSet.look SQ.out (rd b.f2 jj) hw
     have hsl : (S ++ b.f2.take jj.toNat).length = S.length + jj.toNat := by rw [List.length_append, List.length_take]; omega
     have hsn : (S ++ b.f2.take jj.toNat).length < 9223372036854775807 := by omega
     have HW2 := Aside0.mk hw
     have HTK := Aside0.mk (show S ++ b.f2.take (jj + 1).toNat = (S ++ b.f2.take jj.toNat) ++ [rd b.f2 jj] from by
      have := take_map_snoc id b.f2 jj j0 hlj 0
      simp only [List.map_id, id] at this
      rw [this, List.append_assoc]; rfl)
     cases hq : (S ++ b.f2.take jj.toNat).any (fun y => y == rd b.f2 jj) with
     | true =>
      rw [hq] at hlook
      have HF := Aside0.mk (show r = false from by rw [TQ.out]; exact tail_hit _ _ _ _ _ _ _ j0 hlj hq)
      clear hq hsl hsn TQ HTK hw
      go_wp2_with fail
      go_ret
      exact ⟨by rw [HF.out]; rfl, BQ.out⟩
     | false =>
      rw [hq] at hlook
      have HTN := Aside0.mk (show r = tailB l0_0 l0_1 (l0_1.length - (kk + 1).toNat) kk (S ++ b.f2.take (jj + 1).toNat) (b.f2.drop (jj + 1).toNat) from by rw [TQ.out, HTK.out]; exact tail_miss _ _ _ _ _ _ _ j0 hlj hq)
      have HSN := Aside0.mk hsn
      clear hq hsl hsn TQ hw
      go_wp2_with (at_mapUpdate; refine OwnSet.put rfl rfl _ _ _ rfl _ _ _ rfl SQ.out HSN.out _ rfl rfl HW2.out ?_; intro w5 hs5 hg5; have HS5 := Aside0.mk hs5; have HG5 := Aside0.mk hg5; clear hs5 hg5)
      go_roundg (gk - 1)
      case measure => omega
      case rel =>
       exact ⟨jj + 1, by omega, by omega, by omega, by go_num, ⟨pw_below_grown BQ.out (some mb) BQ.out.size HG5.out (by intro k hk; cases hk; exact HMB.out)⟩,
        ⟨by rw [HTK.out]; have := HS5.out; rw [List.length_append]; exact this⟩, ⟨(HG5.out.block _ (blk_lt XQ.out) (by simp; exact HNE.out)).trans XQ.out⟩, HTN⟩
    ·obtain rfl : jj = b.f2.length := by omega
     have HTE := Aside0.mk (show r = treeGo l0_0 l0_1 (l0_1.length - (kk + 1).toNat) (kk + 1) (S ++ b.f2) from by
      have := TQ.out
      rw [Int.toNat_natCast, List.take_length] at this
      rw [this]; exact tail_end _ _ _ _ _ _)
     have HSE := Aside0.mk (show OwnSet wr mb (S ++ b.f2).length (S ++ b.f2) from by have := SQ.out; rw [Int.toNat_natCast, List.take_length] at this; exact this)
     have hlen : (((S ++ b.f2).length : Nat) : Int) ≤ 8 * (kk + 1) := by rw [List.length_append]; omega
     clear TQ SQ
     go_wp2_with fail
     go_roundg (gko - 1)
     case measure => have := HGK.out; omega
     case rel => exact ⟨kk + 1, S ++ b.f2, by omega, by omega, by omega, by go_num, hlen, BQ, HSE, XQ, HTE⟩

end Go.Proofs.YtkadeelplnkpgaaGreat.Q
