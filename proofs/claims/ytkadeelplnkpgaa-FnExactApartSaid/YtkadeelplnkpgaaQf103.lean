/- Walks of the Go functions that the laws call: each returns what a plain Lean function says. Written by a program for these claims. -/
import Derived.Test.YtkadeelplnkpgaaQ0
import Derived.Test.YtkadeelplnkpgaaQf81
namespace Go.Proofs.Ytkadeelplnkpgaa.Q
open Go.RowKit Go.Proofs.YtkadeelplnkpgaaW.PrintWords Go.Proofs.YtkadeelplnkpgaaW.PrintLast Go.Proofs.YtkadeelplnkpgaaW.PrintMore
attribute [local go_sem] max2_int min2_int max_two min_two max_three min_three max_four min_four   -- for this text's walks alone
set_option linter.unusedVariables false
set_option linter.unusedSimpArgs false

/-! ### spec_l08Free: function 103 -/
def spec_l08Free.l0 : Nat → Int → List Int → Int → Int → Int → List (S50) → List (S108) → Option (Bool)
  | 0, _, _, _, _, _, _, _ => none
  | k + 1, x1, x2, x3, x4, x11, x301000, x301001 => if x11 < (x2.length : Int) then (if x11 = x3 then (spec_l08Free.l0 k x1 x2 x3 x4 (wrap64 (x11 + 1)) x301000 x301001) else (if 0 ≤ x11 then (if (rd x2 x11) ≥ 0 then (if (rd x2 x11) = x4 then (some false) else ((spec_l08Domain.f k x301000 x301001 x1 (rd x2 x11)).bind fun t304 => ((spec_l08Domain.f k x301000 x301001 x1 x4).bind fun t305 => (if t304 = t305 then (some false) else (spec_l08Free.l0 k x1 x2 x3 x4 (wrap64 (x11 + 1)) x301000 x301001))))) else (spec_l08Free.l0 k x1 x2 x3 x4 (wrap64 (x11 + 1)) x301000 x301001)) else (none))) else (some true)
def spec_l08Free.f (k : Nat) (l0_0 : List (S50)) (l0_1 : List (S108)) (a1 : Int) (l2 : List Int) (a3 : Int) (a4 : Int) : Option (Bool) := spec_l08Free.l0 k a1 l2 a3 a4 0 l0_0 l0_1
def spec_l08Free.T4 : Bool × List (List Nat × List Nat) := (true, [([], []), ([], []), ([0, 1], [0, 1]), ([2], [2]), ([3], [3]), ([3], [3]), ([4, 5, 3], [3, 4, 5]), ([6, 3], [3, 6]), ([7, 3], [3, 7]), ([3, 8], [3, 8]), ([9, 3], [9]), ([10], [10]), ([10], [10]), ([11, 12, 10], [10, 11, 12]), ([13, 10], [10, 13]), ([10], [10]), ([14, 15, 10], [10, 14, 15]), ([16, 10, 10], [10, 16]), ([17], [17]), ([17], [17]), ([17], [17]), ([17], [17]), ([20, 21, 17], [17, 20, 21]), ([22, 17], [17, 22]), ([18, 19, 23, 17, 17], [17, 18, 19, 23]), ([17], [17]), ([17], [17]), ([17], [17]), ([25, 26, 27, 24, 17], [17, 25, 26, 27]), ([24, 28, 17], [17, 24, 28]), ([17, 29, 10], [10, 17, 29]), ([10, 30], [10, 30])])
def spec_l08Free.B4 : List Nat := [0, 0, 3, 7, 15, 15, 63, 127, 255, 511, 1023, 2047, 2047, 8191, 16383, 2047, 65535, 131071, 262143, 262143, 262143, 262143, 3407871, 7602175, 16777215, 262143, 262143, 262143, 268435455, 536870911, 1073741823, 2147483647]
theorem spec_l08Free.tab4 : rtab .any (opsOf Try.f103 4) = spec_l08Free.T4 := by kernel_rfl
theorem spec_l08Free.bits4 : waitsOk spec_l08Free.T4.2 spec_l08Free.B4 = true := by kernel_rfl
def az_z103 (n m : Nat) : Array Bool := (List.replicate n true ++ List.replicate m false).toArray
def mz103_0 : Array Bool := az_z103 0 32
def mz103_1 : Array Bool := az_z103 1 31
def mz103_2 : Array Bool := az_z103 2 30
def mz103_3 : Array Bool := az_z103 3 29
def mz103_4 : Array Bool := az_z103 4 28
def mz103_5 : Array Bool := az_z103 5 27
def mz103_6 : Array Bool := az_z103 6 26
def mz103_7 : Array Bool := az_z103 7 25
def mz103_8 : Array Bool := az_z103 8 24
def mz103_9 : Array Bool := az_z103 9 23
def mz103_10 : Array Bool := az_z103 10 22
def mz103_11 : Array Bool := az_z103 11 21
def mz103_12 : Array Bool := az_z103 12 20
def mz103_13 : Array Bool := az_z103 13 19
def mz103_14 : Array Bool := az_z103 14 18
def mz103_15 : Array Bool := az_z103 15 17
def mz103_16 : Array Bool := az_z103 16 16
def mz103_17 : Array Bool := az_z103 17 15
def mz103_18 : Array Bool := az_z103 18 14
def mz103_19 : Array Bool := az_z103 19 13
def mz103_20 : Array Bool := az_z103 20 12
def mz103_21 : Array Bool := az_z103 21 11
def mz103_22 : Array Bool := az_z103 22 10
def mz103_23 : Array Bool := az_z103 23 9
def mz103_24 : Array Bool := az_z103 24 8
def mz103_25 : Array Bool := az_z103 25 7
def mz103_26 : Array Bool := az_z103 26 6
def mz103_27 : Array Bool := az_z103 27 5
def mz103_28 : Array Bool := az_z103 28 4
def mz103_29 : Array Bool := az_z103 29 3
def mz103_30 : Array Bool := az_z103 30 2
def mz103_31 : Array Bool := az_z103 31 1
def mz103_32 : Array Bool := az_z103 32 0
def mz103_33 : Array Bool := #[true, true, true, true, true, true, true, true, true, true, true, true, true, true, false, true, false, false, false, false, false, false, false, false, false, false, false, false, false, false, false, false]
def mz103_34 : Array Bool := #[true, true, true, true, true, true, true, true, true, true, true, true, true, true, true, true, true, true, false, true, false, false, false, false, false, false, false, false, false, false, false, false]
def mz103_35 : Array Bool := #[true, true, true, true, true, true, true, true, true, true, true, true, true, true, true, true, true, true, false, true, true, false, false, false, false, false, false, false, false, false, false, false]
def mz103_36 : Array Bool := #[true, true, true, true, true, true, true, true, true, true, true, true, true, true, true, true, true, true, false, true, true, true, false, false, false, false, false, false, false, false, false, false]
def mz103_37 : Array Bool := #[true, true, true, true, true, true, true, true, true, true, true, true, true, true, true, true, true, true, false, true, true, true, true, false, false, false, false, false, false, false, false, false]
def mz103_38 : Array Bool := #[true, true, true, true, true, true, true, true, true, true, true, true, true, true, true, true, true, true, false, true, true, true, true, false, false, false, true, false, false, false, false, false]
def mz103_39 : Array Bool := #[true, true, true, true, true, true, true, true, true, true, true, true, true, true, true, true, true, true, false, true, true, true, true, false, false, false, true, true, false, false, false, false]
def mz103_40 : Array Bool := #[true, true, true, true, true, true, true, true, true, true, true, true, true, true, true, true, true, true, true, true, true, true, true, false, false, false, true, true, false, false, false, false]
def mz103_41 : Array Bool := #[true, true, true, true, true, true, true, true, true, true, true, true, true, true, true, true, true, true, true, true, true, true, true, true, false, false, true, true, false, false, false, false]
def mz103_42 : Array Bool := #[true, true, true, true, true, true, true, true, true, true, true, true, true, true, true, true, true, true, true, true, true, true, true, true, false, true, true, true, false, false, false, false]
theorem pu_z103 {P : Program} {ops : Array Oper} {Q : Exit → Act → World → Prop} {md : Region.Mode} {S : World → Prop} {ds : List Nat} {oi : Oper} {fuel : Nat} {l : Array Bool} {a : Act} {w : World} (i : Nat) (N : Option Tmp) (v : Value) (l' : Array Bool) (hi : ops[i]? = some oi) (hN : oi.dst = N) (hc : anyB md ops l l' i = true)
    (hQ : ∀ c a w, Q (.panic c) (a.put oi.dst v) w → Q (.panic c) a w) (hy : Yields P ops oi v a) (a' : Act) (ha : a.put N v = a')
    (h : wpAnyLast P md ops Q S ds fuel l' a' w) : wpAnyLast P md ops Q S ds (fuel + 1) l a w := pure_ l' hi hN hc hQ hy ha h
theorem pq_z103 : (∀ (l : List Value) (i : Nat) (v : Value), l.toArray.setIfInBounds i v = (l.set i v).toArray) ∧ (∀ (x v : Value) (xs : List Value), (x :: xs).set 0 v = v :: xs) ∧ (∀ (x v : Value) (xs : List Value) (n : Nat), (x :: xs).set (n + 1) v = x :: xs.set n v) ∧ (∀ n : Int, IntKind.i64.wrap n = Go.RowKit.wrap64 n) ∧ (∀ n : Int, IntKind.i32.wrap n = Go.RowKit.wrap32 n) :=
  ⟨fun l i v => List.setIfInBounds_toArray l i v, fun _ _ _ => rfl, fun _ _ _ _ => rfl, i64_w, i32_w⟩
set_option maxHeartbeats 8000000 in
set_option maxRecDepth 100000 in
theorem spec_l08Free.calls (k : Nat) (A0_0 : Option Addr) (c0_0 : Nat) (l0_0 : List (S50)) (A0_1 : Option Addr) (c0_1 : Nat) (l0_1 : List (S108)) (a1 : Int) (A2 : Option Addr) (c2 : Nat) (l2 : List Int) (a3 : Int) (a4 : Int) (r : Bool) (w : World) (hr0_0 : Kd.C k50 w A0_0 l0_0.length l0_0) (hc0_0 : l0_0.length ≤ c0_0) (hr0_1 : Kd.C k108 w A0_1 l0_1.length l0_1) (hc0_1 : l0_1.length ≤ c0_1) (hr2 : Kd.C (Kd.int .i64) w A2 l2.length l2) (hc2 : l2.length ≤ c2) (h : spec_l08Free.f k l0_0 l0_1 a1 l2 a3 a4 = some r) :
  Calls Try.prog 103 #[.agg #[.slice A0_0 l0_0.length c0_0, .slice A0_1 l0_1.length c0_1], .int .i64 a1, .slice A2 l2.length c2, .int .i64 a3, .int .i64 a4] w fun e w' => e = .returned (.bool r) ∧ Below w.heap.size w w' := by
 have hu31 := Try.underlying31
 have HR0_0 := Aside0.mk hr0_0
 have HC0_0 := Aside0.mk hc0_0
 clear hr0_0 hc0_0
 have HR0_1 := Aside0.mk hr0_1
 have HC0_1 := Aside0.mk hc0_1
 clear hr0_1 hc0_1
 have HR2 := Aside0.mk hr2
 have HC2 := Aside0.mk hc2
 clear hr2 hc2
 have HB := Aside0.mk (Below.refl w.heap.size w)
 have H : (spec_l08Free.l0 k a1 l2 a3 a4 0 l0_0 l0_1) = some r := h
 clear h
 have H' := Aside0.mk H
 clear H
 go_enter Try.func103, Try.ntmps103
 go_wp2_with (first | ((with_reducible refine gate_dst (N := 5) rfl ?_); refine box_event ?hg (N := 5) ?hd (cs := #[.slice A0_0 l0_0.length c0_0, .slice A0_1 l0_1.length c0_1]) (t := 31) ?hr ?_; (case hd => rfl); (case hg => rfl); (case hr => first | (go_simp; done) | (go_simp; rfl)); intro gb300 hg w6 hbox hb; have n0_ := Aside0.mk (below_step (by repeat first | exact HB.out | apply below_alloc | apply pw_below_drewN | apply below_drew1) hb); have n1_ := Aside0.mk (hbox); have n2_ := Aside0.mk ((by rw [hg]; exact (below_size (by repeat first | exact HB.out | apply below_alloc | apply pw_below_drewN | apply below_drew1)) : w.heap.size ≤ gb300)); have n3_ := Aside0.mk ((by rw [hg]; exact (below_size (by repeat first | exact HB.out | apply below_alloc | apply pw_below_drewN | apply below_drew1)) : w.heap.size ≤ gb300)); clear HB; have HB := n0_; have BK300 := n1_; have GW300 := n2_; have GE300 := n3_; clear n0_ n1_ n2_ n3_; clear hb hbox hg))
 go_loopg [11] k (fun kq v11 w' => ∃ (x11_1 : Int), v11 = .int .i64 x11_1 ∧ Aside0 (spec_l08Free.l0 kq a1 l2 a3 a4 x11_1 l0_0 l0_1 = some r) ∧ Aside0 (kq ≤ k) ∧ Aside0 (w'.heap[gb300]? = some (.cells #[(.slice A0_0 l0_0.length c0_0), (.slice A0_1 l0_1.length c0_1)] 31 (0, 0))) ∧ Aside0 (Below w.heap.size w w'))
 case atStart => exact ⟨(0), (by first | rfl | (simp; done) | (simp [*]; done)), H', ⟨Nat.le_refl _⟩, ⟨by (with_reducible repeat first | apply blk_drewN | apply blk_drew | apply blk_alloc); exact BK300.out⟩, ⟨by repeat (first | (with_reducible first | exact HB.out | apply below_alloc | apply pw_below_drewN | apply below_drew1 | refine below_set ?_ GE300.out) | exact HB.out)⟩⟩
 case round =>
  clear H'
  try clear c1
  try clear c2
  try clear p2
  obtain ⟨x11_1, rfl, HA, HK1, BK300, HB⟩ := hrel
  cases gk with
  | zero => exact absurd HA.out (by simp [spec_l08Free.l0])
  | succ k1 =>
   have H := HA.out
   clear HA
   simp only [spec_l08Free.l0] at H
   by_cases c7 : x11_1 < (l2.length : Int)
   ·rw [if_pos c7] at H
    have c7b0 : decide (x11_1 < (l2.length : Int)) = true := decide_eq_true c7
    clear c7
    by_cases c8 : x11_1 = a3
    ·rw [if_pos c8] at H
     have c8b0 : (x11_1 == a3) = true := beq_iff_eq.mpr c8
     have c8b1 : (x11_1 != a3) = false := bne_eq_false_iff_eq.mpr c8
     clear c8
     have H' := Aside0.mk H
     clear H
     try go_wp2
     have n0_ := Aside0.mk (blk_drew BK300.out)
     have n1_ := Aside0.mk (below_drew1 HB.out)
     clear BK300
     clear HB
     have BK300 := n0_
     have HB := n1_
     clear n0_ n1_
     refine start_ (n := 32) (S := fun w' => True) (ds := []) mz103_0 (by kernel_rfl) rfl rfl trivial (fun hHeld => ?_); refine with_tabW spec_l08Free.tab4 spec_l08Free.bits4 (fun HT_ HW_ => ?_)
     generalize wr.drew = w9 at BK300 HB hHeld ⊢
     refine pu_z103 0 (some 18) ?_ mz103_1 rfl rfl (any_of HT_.out (by kernel_rfl)) (fun _ _ _ h => h) (Or.inl ⟨by rfl, ?_⟩) ?_ ?_ ?_
     (rotate_left; ·(intro w'; go_simp; with_reducible rfl)); (rotate_left; ·(simp only [Act.put, pq_z103]; rfl))
     refine pu_z103 1 (some 19) ?_ mz103_2 rfl rfl (any_of HT_.out (by kernel_rfl)) (fun _ _ _ h => h) (Or.inl ⟨by rfl, ?_⟩) ?_ ?_ ?_
     (rotate_left; ·(intro w'; go_simp; with_reducible rfl)); (rotate_left; ·(simp only [Act.put, pq_z103]; rfl))
     refine pu_z103 2 (some 20) ?_ mz103_3 rfl rfl (any_of HT_.out (by kernel_rfl)) (fun _ _ _ h => h) (Or.inl ⟨by rfl, ?_⟩) ?_ ?_ ?_
     (rotate_left; ·(intro w'; go_simp; with_reducible rfl)); (rotate_left; ·(simp only [Act.put, pq_z103]; rfl))
     refine pu_z103 3 (some 21) ?_ mz103_4 rfl rfl (any_of HT_.out (by kernel_rfl)) (fun _ _ _ h => h) (Or.inl ⟨by rfl, ?_⟩) ?_ ?_ ?_
     (rotate_left; ·(intro w'; go_simp; with_reducible rfl)); (rotate_left; ·(simp only [Act.put, pq_z103]; rfl))
     refine pu_z103 4 (some 22) undef mz103_5 rfl rfl (any_of HT_.out (by kernel_rfl)) (fun _ _ _ h => h) (Or.inr ⟨by rfl, rfl⟩) ?_ ?_ ?_
     (rotate_left; ·(simp only [Act.put, pq_z103]; rfl))
     refine pu_z103 5 (some 23) undef mz103_6 rfl rfl (any_of HT_.out (by kernel_rfl)) (fun _ _ _ h => h) (Or.inr ⟨by rfl, rfl⟩) ?_ ?_ ?_
     (rotate_left; ·(simp only [Act.put, pq_z103]; rfl))
     refine pu_z103 6 (some 24) undef mz103_7 rfl rfl (any_of HT_.out (by kernel_rfl)) (fun _ _ _ h => h) (Or.inr ⟨by rfl, rfl⟩) ?_ ?_ ?_
     (rotate_left; ·(simp only [Act.put, pq_z103]; rfl))
     refine pu_z103 7 (some 25) undef mz103_8 rfl rfl (any_of HT_.out (by kernel_rfl)) (fun _ _ _ h => h) (Or.inr ⟨by rfl, rfl⟩) ?_ ?_ ?_
     (rotate_left; ·(simp only [Act.put, pq_z103]; rfl))
     refine pu_z103 8 (some 26) undef mz103_9 rfl rfl (any_of HT_.out (by kernel_rfl)) (fun _ _ _ h => h) (Or.inr ⟨by rfl, rfl⟩) ?_ ?_ ?_
     (rotate_left; ·(simp only [Act.put, pq_z103]; rfl))
     refine pu_z103 9 (some 27) ?_ mz103_10 rfl rfl (any_of HT_.out (by kernel_rfl)) (fun _ _ _ h => h) (Or.inl ⟨by rfl, ?_⟩) ?_ ?_ ?_
     (rotate_left; ·(intro w'; go_simp; with_reducible rfl)); (rotate_left; ·(simp only [Act.put, pq_z103]; rfl))
     refine pu_z103 10 (some 28) ?_ mz103_11 rfl rfl (any_of HT_.out (by kernel_rfl)) (fun _ _ _ h => h) (Or.inl ⟨by rfl, ?_⟩) ?_ ?_ ?_
     (rotate_left; ·(intro w'; go_simp; with_reducible rfl)); (rotate_left; ·(simp only [Act.put, pq_z103]; rfl))
     refine pu_z103 11 (some 29) undef mz103_12 rfl rfl (any_of HT_.out (by kernel_rfl)) (fun _ _ _ h => h) (Or.inr ⟨by rfl, rfl⟩) ?_ ?_ ?_
     (rotate_left; ·(simp only [Act.put, pq_z103]; rfl))
     refine pu_z103 12 (some 30) undef mz103_13 rfl rfl (any_of HT_.out (by kernel_rfl)) (fun _ _ _ h => h) (Or.inr ⟨by rfl, rfl⟩) ?_ ?_ ?_
     (rotate_left; ·(simp only [Act.put, pq_z103]; rfl))
     refine pu_z103 13 (some 31) undef mz103_14 rfl rfl (any_of HT_.out (by kernel_rfl)) (fun _ _ _ h => h) (Or.inr ⟨by rfl, rfl⟩) ?_ ?_ ?_
     (rotate_left; ·(simp only [Act.put, pq_z103]; rfl))
     refine pu_z103 14 (some 32) undef mz103_15 rfl rfl (any_of HT_.out (by kernel_rfl)) (fun _ _ _ h => h) (Or.inr ⟨by rfl, rfl⟩) ?_ ?_ ?_
     (rotate_left; ·(simp only [Act.put, pq_z103]; rfl))
     refine pu_z103 15 (some 33) undef mz103_16 rfl rfl (any_of HT_.out (by kernel_rfl)) (fun _ _ _ h => h) (Or.inr ⟨by rfl, rfl⟩) ?_ ?_ ?_
     (rotate_left; ·(simp only [Act.put, pq_z103]; rfl))
     refine pu_z103 16 (some 34) undef mz103_17 rfl rfl (any_of HT_.out (by kernel_rfl)) (fun _ _ _ h => h) (Or.inr ⟨by rfl, rfl⟩) ?_ ?_ ?_
     (rotate_left; ·(simp only [Act.put, pq_z103]; rfl))
     refine pu_z103 17 (some 35) undef mz103_18 rfl rfl (any_of HT_.out (by kernel_rfl)) (fun _ _ _ h => h) (Or.inr ⟨by rfl, rfl⟩) ?_ ?_ ?_
     (rotate_left; ·(simp only [Act.put, pq_z103]; rfl))
     refine pu_z103 18 (some 36) undef mz103_19 rfl rfl (any_of HT_.out (by kernel_rfl)) (fun _ _ _ h => h) (Or.inr ⟨by rfl, rfl⟩) ?_ ?_ ?_
     (rotate_left; ·(simp only [Act.put, pq_z103]; rfl))
     refine pu_z103 19 (some 37) undef mz103_20 rfl rfl (any_of HT_.out (by kernel_rfl)) (fun _ _ _ h => h) (Or.inr ⟨by rfl, rfl⟩) ?_ ?_ ?_
     (rotate_left; ·(simp only [Act.put, pq_z103]; rfl))
     refine pu_z103 20 (some 38) undef mz103_21 rfl rfl (any_of HT_.out (by kernel_rfl)) (fun _ _ _ h => h) (Or.inr ⟨by rfl, rfl⟩) ?_ ?_ ?_
     (rotate_left; ·(simp only [Act.put, pq_z103]; rfl))
     refine pu_z103 21 (some 39) undef mz103_22 rfl rfl (any_of HT_.out (by kernel_rfl)) (fun _ _ _ h => h) (Or.inr ⟨by rfl, rfl⟩) ?_ ?_ ?_
     (rotate_left; ·(simp only [Act.put, pq_z103]; rfl))
     refine pu_z103 22 (some 40) undef mz103_23 rfl rfl (any_of HT_.out (by kernel_rfl)) (fun _ _ _ h => h) (Or.inr ⟨by rfl, rfl⟩) ?_ ?_ ?_
     (rotate_left; ·(simp only [Act.put, pq_z103]; rfl))
     refine pu_z103 23 (some 41) undef mz103_24 rfl rfl (any_of HT_.out (by kernel_rfl)) (fun _ _ _ h => h) (Or.inr ⟨by rfl, rfl⟩) ?_ ?_ ?_
     (rotate_left; ·(simp only [Act.put, pq_z103]; rfl))
     refine pu_z103 24 (some 42) undef mz103_25 rfl rfl (any_of HT_.out (by kernel_rfl)) (fun _ _ _ h => h) (Or.inr ⟨by rfl, rfl⟩) ?_ ?_ ?_
     (rotate_left; ·(simp only [Act.put, pq_z103]; rfl))
     refine pu_z103 25 (some 43) undef mz103_26 rfl rfl (any_of HT_.out (by kernel_rfl)) (fun _ _ _ h => h) (Or.inr ⟨by rfl, rfl⟩) ?_ ?_ ?_
     (rotate_left; ·(simp only [Act.put, pq_z103]; rfl))
     refine pu_z103 26 (some 44) undef mz103_27 rfl rfl (any_of HT_.out (by kernel_rfl)) (fun _ _ _ h => h) (Or.inr ⟨by rfl, rfl⟩) ?_ ?_ ?_
     (rotate_left; ·(simp only [Act.put, pq_z103]; rfl))
     refine pu_z103 27 (some 45) undef mz103_28 rfl rfl (any_of HT_.out (by kernel_rfl)) (fun _ _ _ h => h) (Or.inr ⟨by rfl, rfl⟩) ?_ ?_ ?_
     (rotate_left; ·(simp only [Act.put, pq_z103]; rfl))
     refine pu_z103 28 (some 46) undef mz103_29 rfl rfl (any_of HT_.out (by kernel_rfl)) (fun _ _ _ h => h) (Or.inr ⟨by rfl, rfl⟩) ?_ ?_ ?_
     (rotate_left; ·(simp only [Act.put, pq_z103]; rfl))
     refine pu_z103 29 (some 47) undef mz103_30 rfl rfl (any_of HT_.out (by kernel_rfl)) (fun _ _ _ h => h) (Or.inr ⟨by rfl, rfl⟩) ?_ ?_ ?_
     (rotate_left; ·(simp only [Act.put, pq_z103]; rfl))
     refine pu_z103 30 (some 48) undef mz103_31 rfl rfl (any_of HT_.out (by kernel_rfl)) (fun _ _ _ h => h) (Or.inr ⟨by rfl, rfl⟩) ?_ ?_ ?_
     (rotate_left; ·(simp only [Act.put, pq_z103]; rfl))
     refine pu_z103 31 (some 49) ?_ mz103_32 rfl rfl (any_of HT_.out (by kernel_rfl)) (fun _ _ _ h => h) (Or.inl ⟨by rfl, ?_⟩) ?_ ?_ ?_
     (rotate_left; ·(intro w'; go_simp; with_reducible rfl)); (rotate_left; ·(simp only [Act.put, pq_z103]; rfl))
     refine done_ (done_of HT_.out (by kernel_rfl)) ?_
     try go_wp2
     go_roundg k1
     case measure => have := HK1.out; omega
     case rel => exact ⟨(wrap64 (x11_1 + 1)), (by first | rfl | (simp; done) | (simp [*]; done)), H', ⟨by have := HK1.out; omega⟩, ⟨by (with_reducible repeat first | apply blk_drewN | apply blk_drew | apply blk_alloc); exact BK300.out⟩, ⟨by repeat (first | (with_reducible first | exact HB.out | apply below_alloc | apply pw_below_drewN | apply below_drew1 | refine below_set ?_ GE300.out) | exact HB.out)⟩⟩
    ·rw [if_neg c8] at H
     have c8b0 : (x11_1 == a3) = false := beq_eq_false_iff_ne.mpr c8
     have c8b1 : (x11_1 != a3) = true := bne_iff_ne.mpr c8
     by_cases c10 : 0 ≤ x11_1
     ·rw [if_pos c10] at H
      have c10b0 : decide (0 ≤ x11_1) = true := decide_eq_true c10
      clear c10
      by_cases c11 : (rd l2 x11_1) ≥ 0
      ·rw [if_pos c11] at H
       have c11b0 : decide (0 ≤ (rd l2 x11_1)) = true := decide_eq_true c11
       clear c11
       by_cases c12 : (rd l2 x11_1) = a4
       ·rw [if_pos c12] at H
        have c12b0 : ((rd l2 x11_1) == a4) = true := beq_iff_eq.mpr c12
        have c12b1 : ((rd l2 x11_1) != a4) = false := bne_eq_false_iff_eq.mpr c12
        clear c12
        obtain rfl := Option.some.inj H
        try go_wp2
        have n0_ := Aside0.mk (blk_drew BK300.out)
        have n1_ := Aside0.mk (below_drew1 HB.out)
        clear BK300
        clear HB
        have BK300 := n0_
        have HB := n1_
        clear n0_ n1_
        have p301 : 0 ≤ (x11_1 : Int) := of_decide_eq_true (by assumption)
        have q301 : x11_1 < (l2.length : Int) := of_decide_eq_true (by assumption)
        obtain ⟨ad301, e301, hx301_0⟩ := Kd.at_int HR2.out x11_1 p301 q301
        have hw301_0 := hx301_0
        cases e301
        replace hx301_0 := (HB.out.cell (World.block_lt_of_cell? w _ hx301_0)).trans hx301_0
        replace p301 := eq_true p301
        replace q301 := eq_true q301
        have p302 : 0 ≤ (x11_1 : Int) := of_decide_eq_true (by assumption)
        have q302 : x11_1 < (l2.length : Int) := of_decide_eq_true (by assumption)
        obtain ⟨ad302, e302, hx302_0⟩ := Kd.at_int HR2.out x11_1 p302 q302
        have hw302_0 := hx302_0
        obtain rfl : ad301 = ad302 := (by injection e302)
        replace hx302_0 := (HB.out.cell (World.block_lt_of_cell? w _ hx302_0)).trans hx302_0
        replace p302 := eq_true p302
        replace q302 := eq_true q302
        refine start_ (n := 32) (S := fun w' => w'.cell? (ad301.add (x11_1).toNat) = some (.int .i64 (rd l2 x11_1)) ∧ w'.cell? (ad301.add (x11_1).toNat) = some (.int .i64 (rd l2 x11_1))) (ds := []) mz103_0 (by kernel_rfl) rfl rfl ⟨((HB.out.cell (World.block_lt_of_cell? w _ hw301_0)).trans hw301_0), ((HB.out.cell (World.block_lt_of_cell? w _ hw302_0)).trans hw302_0)⟩ (fun hHeld => ?_); refine with_tabW spec_l08Free.tab4 spec_l08Free.bits4 (fun HT_ HW_ => ?_)
        generalize wr.drew = w13 at BK300 HB hx301_0 hx302_0 hHeld ⊢
        refine pu_z103 0 (some 18) ?_ mz103_1 rfl rfl (any_of HT_.out (by kernel_rfl)) (fun _ _ _ h => h) (Or.inl ⟨by rfl, ?_⟩) ?_ ?_ ?_
        (rotate_left; ·(intro w'; go_simp; with_reducible rfl)); (rotate_left; ·(simp only [Act.put, pq_z103]; rfl))
        refine pu_z103 1 (some 19) ?_ mz103_2 rfl rfl (any_of HT_.out (by kernel_rfl)) (fun _ _ _ h => h) (Or.inl ⟨by rfl, ?_⟩) ?_ ?_ ?_
        (rotate_left; ·(intro w'; go_simp; with_reducible rfl)); (rotate_left; ·(simp only [Act.put, pq_z103]; rfl))
        refine pu_z103 2 (some 20) ?_ mz103_3 rfl rfl (any_of HT_.out (by kernel_rfl)) (fun _ _ _ h => h) (Or.inl ⟨by rfl, ?_⟩) ?_ ?_ ?_
        (rotate_left; ·(intro w'; go_simp; with_reducible rfl)); (rotate_left; ·(simp only [Act.put, pq_z103]; rfl))
        refine pu_z103 3 (some 21) ?_ mz103_4 rfl rfl (any_of HT_.out (by kernel_rfl)) (fun _ _ _ h => h) (Or.inl ⟨by rfl, ?_⟩) ?_ ?_ ?_
        (rotate_left; ·(intro w'; go_simp; with_reducible rfl)); (rotate_left; ·(simp only [Act.put, pq_z103]; rfl))
        refine pu_z103 4 (some 22) ?_ mz103_5 rfl rfl (any_of HT_.out (by kernel_rfl)) (fun _ _ _ h => h) (Or.inl ⟨by rfl, ?_⟩) ?_ ?_ ?_
        (rotate_left; ·(intro w'; go_simp; with_reducible rfl)); (rotate_left; ·(simp only [Act.put, pq_z103]; rfl))
        refine pu_z103 5 (some 23) ?_ mz103_6 rfl rfl (any_of HT_.out (by kernel_rfl)) (fun _ _ _ h => h) (Or.inl ⟨by rfl, ?_⟩) ?_ ?_ ?_
        (rotate_left; ·(intro w'; go_simp; with_reducible rfl)); (rotate_left; ·(simp only [Act.put, pq_z103]; rfl))
        refine pu_z103 6 (some 24) ?_ mz103_7 rfl rfl (any_of HT_.out (by kernel_rfl)) (fun _ _ _ h => h) (Or.inl ⟨by rfl, ?_⟩) ?_ ?_ ?_
        (rotate_left; ·(intro w'; go_simp; with_reducible rfl)); (rotate_left; ·(simp only [Act.put, pq_z103]; rfl))
        refine take_ (i := 7) (N := some 25) (v := ?_) (a' := ?_) mz103_8 rfl rfl (take_ofW HT_.out HW_.out (by kernel_rfl)) (fun _ _ _ h => h) (Or.inl ⟨by rfl, ?_⟩) hHeld ?_ ?_
        (rotate_left; ·(rintro w' ⟨s0, s1⟩; go_simp; with_reducible rfl)); (rotate_left; ·(simp only [Act.put, pq_z103]; rfl))
        refine pu_z103 8 (some 26) ?_ mz103_9 rfl rfl (any_of HT_.out (by kernel_rfl)) (fun _ _ _ h => h) (Or.inl ⟨by rfl, ?_⟩) ?_ ?_ ?_
        (rotate_left; ·(intro w'; go_simp; with_reducible rfl)); (rotate_left; ·(simp only [Act.put, pq_z103]; rfl))
        refine pu_z103 9 (some 27) ?_ mz103_10 rfl rfl (any_of HT_.out (by kernel_rfl)) (fun _ _ _ h => h) (Or.inl ⟨by rfl, ?_⟩) ?_ ?_ ?_
        (rotate_left; ·(intro w'; go_simp; with_reducible rfl)); (rotate_left; ·(simp only [Act.put, pq_z103]; rfl))
        refine pu_z103 10 (some 28) ?_ mz103_11 rfl rfl (any_of HT_.out (by kernel_rfl)) (fun _ _ _ h => h) (Or.inl ⟨by rfl, ?_⟩) ?_ ?_ ?_
        (rotate_left; ·(intro w'; go_simp; with_reducible rfl)); (rotate_left; ·(simp only [Act.put, pq_z103]; rfl))
        refine pu_z103 11 (some 29) ?_ mz103_12 rfl rfl (any_of HT_.out (by kernel_rfl)) (fun _ _ _ h => h) (Or.inl ⟨by rfl, ?_⟩) ?_ ?_ ?_
        (rotate_left; ·(intro w'; go_simp; with_reducible rfl)); (rotate_left; ·(simp only [Act.put, pq_z103]; rfl))
        refine pu_z103 12 (some 30) ?_ mz103_13 rfl rfl (any_of HT_.out (by kernel_rfl)) (fun _ _ _ h => h) (Or.inl ⟨by rfl, ?_⟩) ?_ ?_ ?_
        (rotate_left; ·(intro w'; go_simp; with_reducible rfl)); (rotate_left; ·(simp only [Act.put, pq_z103]; rfl))
        refine pu_z103 13 (some 31) ?_ mz103_14 rfl rfl (any_of HT_.out (by kernel_rfl)) (fun _ _ _ h => h) (Or.inl ⟨by rfl, ?_⟩) ?_ ?_ ?_
        (rotate_left; ·(intro w'; go_simp; with_reducible rfl)); (rotate_left; ·(simp only [Act.put, pq_z103]; rfl))
        refine pu_z103 15 (some 33) ?_ mz103_33 rfl rfl (any_of HT_.out (by kernel_rfl)) (fun _ _ _ h => h) (Or.inl ⟨by rfl, ?_⟩) ?_ ?_ ?_
        (rotate_left; ·(intro w'; go_simp; with_reducible rfl)); (rotate_left; ·(simp only [Act.put, pq_z103]; rfl))
        refine take_ (i := 14) (N := some 32) (v := ?_) (a' := ?_) mz103_16 rfl rfl (take_ofW HT_.out HW_.out (by kernel_rfl)) (fun _ _ _ h => h) (Or.inl ⟨by rfl, ?_⟩) hHeld ?_ ?_
        (rotate_left; ·(rintro w' ⟨s0, s1⟩; go_simp; with_reducible rfl)); (rotate_left; ·(simp only [Act.put, pq_z103]; rfl))
        refine pu_z103 16 (some 34) ?_ mz103_17 rfl rfl (any_of HT_.out (by kernel_rfl)) (fun _ _ _ h => h) (Or.inl ⟨by rfl, ?_⟩) ?_ ?_ ?_
        (rotate_left; ·(intro w'; go_simp; with_reducible rfl)); (rotate_left; ·(simp only [Act.put, pq_z103]; rfl))
        refine pu_z103 17 (some 35) ?_ mz103_18 rfl rfl (any_of HT_.out (by kernel_rfl)) (fun _ _ _ h => h) (Or.inl ⟨by rfl, ?_⟩) ?_ ?_ ?_
        (rotate_left; ·(intro w'; go_simp; with_reducible rfl)); (rotate_left; ·(simp only [Act.put, pq_z103]; rfl))
        refine pu_z103 18 (some 36) undef mz103_19 rfl rfl (any_of HT_.out (by kernel_rfl)) (fun _ _ _ h => h) (Or.inr ⟨by rfl, rfl⟩) ?_ ?_ ?_
        (rotate_left; ·(simp only [Act.put, pq_z103]; rfl))
        refine pu_z103 19 (some 37) undef mz103_20 rfl rfl (any_of HT_.out (by kernel_rfl)) (fun _ _ _ h => h) (Or.inr ⟨by rfl, rfl⟩) ?_ ?_ ?_
        (rotate_left; ·(simp only [Act.put, pq_z103]; rfl))
        refine pu_z103 20 (some 38) undef mz103_21 rfl rfl (any_of HT_.out (by kernel_rfl)) (fun _ _ _ h => h) (Or.inr ⟨by rfl, rfl⟩) ?_ ?_ ?_
        (rotate_left; ·(simp only [Act.put, pq_z103]; rfl))
        refine pu_z103 21 (some 39) undef mz103_22 rfl rfl (any_of HT_.out (by kernel_rfl)) (fun _ _ _ h => h) (Or.inr ⟨by rfl, rfl⟩) ?_ ?_ ?_
        (rotate_left; ·(simp only [Act.put, pq_z103]; rfl))
        refine pu_z103 22 (some 40) undef mz103_23 rfl rfl (any_of HT_.out (by kernel_rfl)) (fun _ _ _ h => h) (Or.inr ⟨by rfl, rfl⟩) ?_ ?_ ?_
        (rotate_left; ·(simp only [Act.put, pq_z103]; rfl))
        refine pu_z103 23 (some 41) undef mz103_24 rfl rfl (any_of HT_.out (by kernel_rfl)) (fun _ _ _ h => h) (Or.inr ⟨by rfl, rfl⟩) ?_ ?_ ?_
        (rotate_left; ·(simp only [Act.put, pq_z103]; rfl))
        refine pu_z103 24 (some 42) undef mz103_25 rfl rfl (any_of HT_.out (by kernel_rfl)) (fun _ _ _ h => h) (Or.inr ⟨by rfl, rfl⟩) ?_ ?_ ?_
        (rotate_left; ·(simp only [Act.put, pq_z103]; rfl))
        refine pu_z103 25 (some 43) undef mz103_26 rfl rfl (any_of HT_.out (by kernel_rfl)) (fun _ _ _ h => h) (Or.inr ⟨by rfl, rfl⟩) ?_ ?_ ?_
        (rotate_left; ·(simp only [Act.put, pq_z103]; rfl))
        refine pu_z103 26 (some 44) undef mz103_27 rfl rfl (any_of HT_.out (by kernel_rfl)) (fun _ _ _ h => h) (Or.inr ⟨by rfl, rfl⟩) ?_ ?_ ?_
        (rotate_left; ·(simp only [Act.put, pq_z103]; rfl))
        refine pu_z103 27 (some 45) undef mz103_28 rfl rfl (any_of HT_.out (by kernel_rfl)) (fun _ _ _ h => h) (Or.inr ⟨by rfl, rfl⟩) ?_ ?_ ?_
        (rotate_left; ·(simp only [Act.put, pq_z103]; rfl))
        refine pu_z103 28 (some 46) undef mz103_29 rfl rfl (any_of HT_.out (by kernel_rfl)) (fun _ _ _ h => h) (Or.inr ⟨by rfl, rfl⟩) ?_ ?_ ?_
        (rotate_left; ·(simp only [Act.put, pq_z103]; rfl))
        refine pu_z103 29 (some 47) undef mz103_30 rfl rfl (any_of HT_.out (by kernel_rfl)) (fun _ _ _ h => h) (Or.inr ⟨by rfl, rfl⟩) ?_ ?_ ?_
        (rotate_left; ·(simp only [Act.put, pq_z103]; rfl))
        refine pu_z103 30 (some 48) ?_ mz103_31 rfl rfl (any_of HT_.out (by kernel_rfl)) (fun _ _ _ h => h) (Or.inl ⟨by rfl, ?_⟩) ?_ ?_ ?_
        (rotate_left; ·(intro w'; go_simp; with_reducible rfl)); (rotate_left; ·(simp only [Act.put, pq_z103]; rfl))
        refine pu_z103 31 (some 49) ?_ mz103_32 rfl rfl (any_of HT_.out (by kernel_rfl)) (fun _ _ _ h => h) (Or.inl ⟨by rfl, ?_⟩) ?_ ?_ ?_
        (rotate_left; ·(intro w'; go_simp; with_reducible rfl)); (rotate_left; ·(simp only [Act.put, pq_z103]; rfl))
        refine done_ (done_of HT_.out (by kernel_rfl)) ?_
        try go_wp2
        go_ret
        exact ⟨by first | rfl | (simp [*, errW_none, errW_some] <;> rfl), by repeat (first | (with_reducible first | exact HB.out | apply below_alloc | apply pw_below_drewN | apply below_drew1 | refine below_set ?_ GE300.out) | exact HB.out)⟩
       ·rw [if_neg c12] at H
        have c12b0 : ((rd l2 x11_1) == a4) = false := beq_eq_false_iff_ne.mpr c12
        have c12b1 : ((rd l2 x11_1) != a4) = true := bne_iff_ne.mpr c12
        replace H := Option.bind_eq_some_iff.mp H
        obtain ⟨t304, A140, H⟩ := H
        replace H : ((spec_l08Domain.f k1 l0_0 l0_1 a1 a4).bind fun t305 => (if t304 = t305 then (some false) else (spec_l08Free.l0 k1 a1 l2 a3 a4 (wrap64 (x11_1 + 1)) l0_0 l0_1))) = some r := H
        have A14 := Aside0.mk A140
        clear A140
        replace H := Option.bind_eq_some_iff.mp H
        obtain ⟨t305, A150, H⟩ := H
        replace H : (if t304 = t305 then (some false) else (spec_l08Free.l0 k1 a1 l2 a3 a4 (wrap64 (x11_1 + 1)) l0_0 l0_1)) = some r := H
        have A15 := Aside0.mk A150
        clear A150
        by_cases c16 : t304 = t305
        ·rw [if_pos c16] at H
         have c16b0 : (t304 == t305) = true := beq_iff_eq.mpr c16
         have c16b1 : (t304 != t305) = false := bne_eq_false_iff_eq.mpr c16
         clear c16
         obtain rfl := Option.some.inj H
         try go_wp2
         have n0_ := Aside0.mk (blk_drew BK300.out)
         have n1_ := Aside0.mk (below_drew1 HB.out)
         clear BK300
         clear HB
         have BK300 := n0_
         have HB := n1_
         clear n0_ n1_
         have p301 : 0 ≤ (x11_1 : Int) := of_decide_eq_true (by assumption)
         have q301 : x11_1 < (l2.length : Int) := of_decide_eq_true (by assumption)
         obtain ⟨ad301, e301, hx301_0⟩ := Kd.at_int HR2.out x11_1 p301 q301
         have hw301_0 := hx301_0
         cases e301
         replace hx301_0 := (HB.out.cell (World.block_lt_of_cell? w _ hx301_0)).trans hx301_0
         replace p301 := eq_true p301
         replace q301 := eq_true q301
         have p302 : 0 ≤ (x11_1 : Int) := of_decide_eq_true (by assumption)
         have q302 : x11_1 < (l2.length : Int) := of_decide_eq_true (by assumption)
         obtain ⟨ad302, e302, hx302_0⟩ := Kd.at_int HR2.out x11_1 p302 q302
         have hw302_0 := hx302_0
         obtain rfl : ad301 = ad302 := (by injection e302)
         replace hx302_0 := (HB.out.cell (World.block_lt_of_cell? w _ hx302_0)).trans hx302_0
         replace p302 := eq_true p302
         replace q302 := eq_true q302
         have p303 : 0 ≤ (x11_1 : Int) := of_decide_eq_true (by assumption)
         have q303 : x11_1 < (l2.length : Int) := of_decide_eq_true (by assumption)
         obtain ⟨ad303, e303, hx303_0⟩ := Kd.at_int HR2.out x11_1 p303 q303
         have hw303_0 := hx303_0
         obtain rfl : ad301 = ad303 := (by injection e303)
         replace hx303_0 := (HB.out.cell (World.block_lt_of_cell? w _ hx303_0)).trans hx303_0
         replace p303 := eq_true p303
         replace q303 := eq_true q303
         refine start_ (n := 32) (S := fun w' => w'.cell? ⟨gb300, 0, none⟩ = some (.slice A0_0 l0_0.length c0_0) ∧ w'.cell? ⟨gb300, 1, none⟩ = some (.slice A0_1 l0_1.length c0_1) ∧ w'.cell? (ad301.add (x11_1).toNat) = some (.int .i64 (rd l2 x11_1)) ∧ w'.cell? (ad301.add (x11_1).toNat) = some (.int .i64 (rd l2 x11_1)) ∧ w'.cell? (ad301.add (x11_1).toNat) = some (.int .i64 (rd l2 x11_1))) (ds := []) mz103_0 (by kernel_rfl) rfl rfl ⟨(blk_cell BK300.out 0).trans rfl, (blk_cell BK300.out 1).trans rfl, ((HB.out.cell (World.block_lt_of_cell? w _ hw301_0)).trans hw301_0), ((HB.out.cell (World.block_lt_of_cell? w _ hw302_0)).trans hw302_0), ((HB.out.cell (World.block_lt_of_cell? w _ hw303_0)).trans hw303_0)⟩ (fun hHeld => ?_); refine with_tabW spec_l08Free.tab4 spec_l08Free.bits4 (fun HT_ HW_ => ?_)
         generalize wr.drew = w17 at BK300 HB hx301_0 hx302_0 hx303_0 hHeld ⊢
         refine pu_z103 0 (some 18) ?_ mz103_1 rfl rfl (any_of HT_.out (by kernel_rfl)) (fun _ _ _ h => h) (Or.inl ⟨by rfl, ?_⟩) ?_ ?_ ?_
         (rotate_left; ·(intro w'; go_simp; with_reducible rfl)); (rotate_left; ·(simp only [Act.put, pq_z103]; rfl))
         refine pu_z103 1 (some 19) ?_ mz103_2 rfl rfl (any_of HT_.out (by kernel_rfl)) (fun _ _ _ h => h) (Or.inl ⟨by rfl, ?_⟩) ?_ ?_ ?_
         (rotate_left; ·(intro w'; go_simp; with_reducible rfl)); (rotate_left; ·(simp only [Act.put, pq_z103]; rfl))
         refine pu_z103 2 (some 20) ?_ mz103_3 rfl rfl (any_of HT_.out (by kernel_rfl)) (fun _ _ _ h => h) (Or.inl ⟨by rfl, ?_⟩) ?_ ?_ ?_
         (rotate_left; ·(intro w'; go_simp; with_reducible rfl)); (rotate_left; ·(simp only [Act.put, pq_z103]; rfl))
         refine pu_z103 3 (some 21) ?_ mz103_4 rfl rfl (any_of HT_.out (by kernel_rfl)) (fun _ _ _ h => h) (Or.inl ⟨by rfl, ?_⟩) ?_ ?_ ?_
         (rotate_left; ·(intro w'; go_simp; with_reducible rfl)); (rotate_left; ·(simp only [Act.put, pq_z103]; rfl))
         refine pu_z103 4 (some 22) ?_ mz103_5 rfl rfl (any_of HT_.out (by kernel_rfl)) (fun _ _ _ h => h) (Or.inl ⟨by rfl, ?_⟩) ?_ ?_ ?_
         (rotate_left; ·(intro w'; go_simp; with_reducible rfl)); (rotate_left; ·(simp only [Act.put, pq_z103]; rfl))
         refine pu_z103 5 (some 23) ?_ mz103_6 rfl rfl (any_of HT_.out (by kernel_rfl)) (fun _ _ _ h => h) (Or.inl ⟨by rfl, ?_⟩) ?_ ?_ ?_
         (rotate_left; ·(intro w'; go_simp; with_reducible rfl)); (rotate_left; ·(simp only [Act.put, pq_z103]; rfl))
         refine pu_z103 6 (some 24) ?_ mz103_7 rfl rfl (any_of HT_.out (by kernel_rfl)) (fun _ _ _ h => h) (Or.inl ⟨by rfl, ?_⟩) ?_ ?_ ?_
         (rotate_left; ·(intro w'; go_simp; with_reducible rfl)); (rotate_left; ·(simp only [Act.put, pq_z103]; rfl))
         refine take_ (i := 7) (N := some 25) (v := ?_) (a' := ?_) mz103_8 rfl rfl (take_ofW HT_.out HW_.out (by kernel_rfl)) (fun _ _ _ h => h) (Or.inl ⟨by rfl, ?_⟩) hHeld ?_ ?_
         (rotate_left; ·(rintro w' ⟨s0, s1, s2, s3, s4⟩; go_simp; with_reducible rfl)); (rotate_left; ·(simp only [Act.put, pq_z103]; rfl))
         refine pu_z103 8 (some 26) ?_ mz103_9 rfl rfl (any_of HT_.out (by kernel_rfl)) (fun _ _ _ h => h) (Or.inl ⟨by rfl, ?_⟩) ?_ ?_ ?_
         (rotate_left; ·(intro w'; go_simp; with_reducible rfl)); (rotate_left; ·(simp only [Act.put, pq_z103]; rfl))
         refine pu_z103 9 (some 27) ?_ mz103_10 rfl rfl (any_of HT_.out (by kernel_rfl)) (fun _ _ _ h => h) (Or.inl ⟨by rfl, ?_⟩) ?_ ?_ ?_
         (rotate_left; ·(intro w'; go_simp; with_reducible rfl)); (rotate_left; ·(simp only [Act.put, pq_z103]; rfl))
         refine pu_z103 10 (some 28) ?_ mz103_11 rfl rfl (any_of HT_.out (by kernel_rfl)) (fun _ _ _ h => h) (Or.inl ⟨by rfl, ?_⟩) ?_ ?_ ?_
         (rotate_left; ·(intro w'; go_simp; with_reducible rfl)); (rotate_left; ·(simp only [Act.put, pq_z103]; rfl))
         refine pu_z103 11 (some 29) ?_ mz103_12 rfl rfl (any_of HT_.out (by kernel_rfl)) (fun _ _ _ h => h) (Or.inl ⟨by rfl, ?_⟩) ?_ ?_ ?_
         (rotate_left; ·(intro w'; go_simp; with_reducible rfl)); (rotate_left; ·(simp only [Act.put, pq_z103]; rfl))
         refine pu_z103 12 (some 30) ?_ mz103_13 rfl rfl (any_of HT_.out (by kernel_rfl)) (fun _ _ _ h => h) (Or.inl ⟨by rfl, ?_⟩) ?_ ?_ ?_
         (rotate_left; ·(intro w'; go_simp; with_reducible rfl)); (rotate_left; ·(simp only [Act.put, pq_z103]; rfl))
         refine pu_z103 13 (some 31) ?_ mz103_14 rfl rfl (any_of HT_.out (by kernel_rfl)) (fun _ _ _ h => h) (Or.inl ⟨by rfl, ?_⟩) ?_ ?_ ?_
         (rotate_left; ·(intro w'; go_simp; with_reducible rfl)); (rotate_left; ·(simp only [Act.put, pq_z103]; rfl))
         refine pu_z103 15 (some 33) ?_ mz103_33 rfl rfl (any_of HT_.out (by kernel_rfl)) (fun _ _ _ h => h) (Or.inl ⟨by rfl, ?_⟩) ?_ ?_ ?_
         (rotate_left; ·(intro w'; go_simp; with_reducible rfl)); (rotate_left; ·(simp only [Act.put, pq_z103]; rfl))
         refine take_ (i := 14) (N := some 32) (v := ?_) (a' := ?_) mz103_16 rfl rfl (take_ofW HT_.out HW_.out (by kernel_rfl)) (fun _ _ _ h => h) (Or.inl ⟨by rfl, ?_⟩) hHeld ?_ ?_
         (rotate_left; ·(rintro w' ⟨s0, s1, s2, s3, s4⟩; go_simp; with_reducible rfl)); (rotate_left; ·(simp only [Act.put, pq_z103]; rfl))
         refine pu_z103 16 (some 34) ?_ mz103_17 rfl rfl (any_of HT_.out (by kernel_rfl)) (fun _ _ _ h => h) (Or.inl ⟨by rfl, ?_⟩) ?_ ?_ ?_
         (rotate_left; ·(intro w'; go_simp; with_reducible rfl)); (rotate_left; ·(simp only [Act.put, pq_z103]; rfl))
         refine pu_z103 17 (some 35) ?_ mz103_18 rfl rfl (any_of HT_.out (by kernel_rfl)) (fun _ _ _ h => h) (Or.inl ⟨by rfl, ?_⟩) ?_ ?_ ?_
         (rotate_left; ·(intro w'; go_simp; with_reducible rfl)); (rotate_left; ·(simp only [Act.put, pq_z103]; rfl))
         refine pu_z103 19 (some 37) ?_ mz103_34 rfl rfl (any_of HT_.out (by kernel_rfl)) (fun _ _ _ h => h) (Or.inl ⟨by rfl, ?_⟩) ?_ ?_ ?_
         (rotate_left; ·(intro w'; go_simp; with_reducible rfl)); (rotate_left; ·(simp only [Act.put, pq_z103]; rfl))
         refine pu_z103 20 (some 38) ?_ mz103_35 rfl rfl (any_of HT_.out (by kernel_rfl)) (fun _ _ _ h => h) (Or.inl ⟨by rfl, ?_⟩) ?_ ?_ ?_
         (rotate_left; ·(intro w'; go_simp; with_reducible rfl)); (rotate_left; ·(simp only [Act.put, pq_z103]; rfl))
         refine pu_z103 21 (some 39) ?_ mz103_36 rfl rfl (any_of HT_.out (by kernel_rfl)) (fun _ _ _ h => h) (Or.inl ⟨by rfl, ?_⟩) ?_ ?_ ?_
         (rotate_left; ·(intro w'; go_simp; with_reducible rfl)); (rotate_left; ·(simp only [Act.put, pq_z103]; rfl))
         refine pu_z103 22 (some 40) ?_ mz103_37 rfl rfl (any_of HT_.out (by kernel_rfl)) (fun _ _ _ h => h) (Or.inl ⟨by rfl, ?_⟩) ?_ ?_ ?_
         (rotate_left; ·(intro w'; go_simp; with_reducible rfl)); (rotate_left; ·(simp only [Act.put, pq_z103]; rfl))
         refine pu_z103 26 (some 44) ?_ mz103_38 rfl rfl (any_of HT_.out (by kernel_rfl)) (fun _ _ _ h => h) (Or.inl ⟨by rfl, ?_⟩) ?_ ?_ ?_
         (rotate_left; ·(intro w'; go_simp; with_reducible rfl)); (rotate_left; ·(simp only [Act.put, pq_z103]; rfl))
         refine pu_z103 27 (some 45) ?_ mz103_39 rfl rfl (any_of HT_.out (by kernel_rfl)) (fun _ _ _ h => h) (Or.inl ⟨by rfl, ?_⟩) ?_ ?_ ?_
         (rotate_left; ·(intro w'; go_simp; with_reducible rfl)); (rotate_left; ·(simp only [Act.put, pq_z103]; rfl))
         refine take_ (i := 18) (N := some 36) (v := ?_) (a' := ?_) mz103_40 rfl rfl (take_ofW HT_.out HW_.out (by kernel_rfl)) (fun _ _ _ h => h) (Or.inl ⟨by rfl, ?_⟩) hHeld ?_ ?_
         (rotate_left; ·(rintro w' ⟨s0, s1, s2, s3, s4⟩; go_simp; with_reducible rfl)); (rotate_left; ·(simp only [Act.put, pq_z103]; rfl))
         refine take_ (i := 23) (N := some 41) (v := ?_) (a' := ?_) mz103_41 rfl rfl (take_ofW HT_.out HW_.out (by kernel_rfl)) (fun _ _ _ h => h) (Or.inl ⟨by rfl, ?_⟩) hHeld ?_ ?_
         (rotate_left; ·(rintro w' ⟨s0, s1, s2, s3, s4⟩; go_simp; with_reducible rfl)); (rotate_left; ·(simp only [Act.put, pq_z103]; rfl))
         refine take_ (i := 25) (N := some 43) (v := ?_) (a' := ?_) mz103_42 rfl rfl (take_ofW HT_.out HW_.out (by kernel_rfl)) (fun _ _ _ h => h) (Or.inl ⟨by rfl, ?_⟩) hHeld ?_ ?_
         (rotate_left; ·(rintro w' ⟨s0, s1, s2, s3, s4⟩; go_simp; with_reducible rfl)); (rotate_left; ·(simp only [Act.put, pq_z103]; rfl))
         refine one_ (i := 24) (N := some 42) mz103_28 rfl rfl (one_of HT_.out (by kernel_rfl)) (by decide) (fun K hK => ?_)
         refine goes_ Try.func81 (by kernel_rfl) rfl #[.agg #[.slice A0_0 l0_0.length c0_0, .slice A0_1 l0_1.length c0_1], .int .i64 a1, .int .i64 (rd l2 x11_1)] (by rfl) rfl rfl (by (try simp only [List.map_toArray, List.map_cons, List.map_nil]); first | done | rfl | (simp only [List.length_drop, List.length_take]; rfl)) ?_
         with_reducible refine (spec_l08Domain.calls k1 _ _ l0_0 _ _ l0_1 a1 (rd l2 x11_1) t304 _ ?side1 ?side2 ?side3 ?side4 A14.out).mono ?_
         (case side1 => repeat (first | exact (Kd.C_below HR0_0.out HB.out) | (with_reducible refine Kd.C_alloc ?_ _) | (with_reducible refine Kd.C_drewN ?_ _) | (with_reducible refine Kd.C_drew ?_)))
         (case side2 => exact HC0_0.out)
         (case side3 => repeat (first | exact (Kd.C_below HR0_1.out HB.out) | (with_reducible refine Kd.C_alloc ?_ _) | (with_reducible refine Kd.C_drewN ?_ _) | (with_reducible refine Kd.C_drew ?_)))
         (case side4 => exact HC0_1.out)
         rintro e w18 ⟨rfl, hb⟩
         refine ⟨_, rfl, ?_⟩
         have n0_ := Aside0.mk (blk_below (g := gb300) (o := .cells #[.slice A0_0 l0_0.length c0_0, .slice A0_1 l0_1.length c0_1] 31 (0, 0)) (by (with_reducible repeat first | apply blk_drewN | apply blk_drew | apply blk_alloc); exact BK300.out) hb)
         have n1_ := Aside0.mk (below_step (by repeat (first | (with_reducible first | exact HB.out | apply below_alloc | apply pw_below_drewN | apply below_drew1 | refine below_set ?_ GE300.out) | exact HB.out)) hb)
         clear BK300
         clear HB
         have BK300 := n0_
         have HB := n1_
         clear n0_ n1_
         (try clear hb)
         (try clear hb2)
         (try clear hk)
         (try clear hi)
         refine hK.out _ _ ⟨(blk_cell BK300.out 0).trans rfl, (blk_cell BK300.out 1).trans rfl, ((HB.out.cell (World.block_lt_of_cell? w _ hw301_0)).trans hw301_0), ((HB.out.cell (World.block_lt_of_cell? w _ hw302_0)).trans hw302_0), ((HB.out.cell (World.block_lt_of_cell? w _ hw303_0)).trans hw303_0)⟩ (fun hHeld => ?_)
         clear hK K
         refine norm_ (a' := ?_) ?_ ?_
         (rotate_left; ·(show Act.put _ (some 42) _ = _; simp only [Act.put, pq_z103]; rfl))
         refine one_ (i := 28) (N := some 46) mz103_29 rfl rfl (one_of HT_.out (by kernel_rfl)) (by decide) (fun K hK => ?_)
         refine goes_ Try.func81 (by kernel_rfl) rfl #[.agg #[.slice A0_0 l0_0.length c0_0, .slice A0_1 l0_1.length c0_1], .int .i64 a1, .int .i64 a4] (by rfl) rfl rfl (by (try simp only [List.map_toArray, List.map_cons, List.map_nil]); first | done | rfl | (simp only [List.length_drop, List.length_take]; rfl)) ?_
         with_reducible refine (spec_l08Domain.calls k1 _ _ l0_0 _ _ l0_1 a1 a4 t305 _ ?side1 ?side2 ?side3 ?side4 A15.out).mono ?_
         (case side1 => repeat (first | exact (Kd.C_below HR0_0.out HB.out) | (with_reducible refine Kd.C_alloc ?_ _) | (with_reducible refine Kd.C_drewN ?_ _) | (with_reducible refine Kd.C_drew ?_)))
         (case side2 => exact HC0_0.out)
         (case side3 => repeat (first | exact (Kd.C_below HR0_1.out HB.out) | (with_reducible refine Kd.C_alloc ?_ _) | (with_reducible refine Kd.C_drewN ?_ _) | (with_reducible refine Kd.C_drew ?_)))
         (case side4 => exact HC0_1.out)
         rintro e w19 ⟨rfl, hb⟩
         refine ⟨_, rfl, ?_⟩
         have n0_ := Aside0.mk (blk_below (g := gb300) (o := .cells #[.slice A0_0 l0_0.length c0_0, .slice A0_1 l0_1.length c0_1] 31 (0, 0)) (by (with_reducible repeat first | apply blk_drewN | apply blk_drew | apply blk_alloc); exact BK300.out) hb)
         have n1_ := Aside0.mk (below_step (by repeat (first | (with_reducible first | exact HB.out | apply below_alloc | apply pw_below_drewN | apply below_drew1 | refine below_set ?_ GE300.out) | exact HB.out)) hb)
         clear BK300
         clear HB
         have BK300 := n0_
         have HB := n1_
         clear n0_ n1_
         (try clear hb)
         (try clear hb2)
         (try clear hk)
         (try clear hi)
         refine hK.out _ _ ⟨(blk_cell BK300.out 0).trans rfl, (blk_cell BK300.out 1).trans rfl, ((HB.out.cell (World.block_lt_of_cell? w _ hw301_0)).trans hw301_0), ((HB.out.cell (World.block_lt_of_cell? w _ hw302_0)).trans hw302_0), ((HB.out.cell (World.block_lt_of_cell? w _ hw303_0)).trans hw303_0)⟩ (fun hHeld => ?_)
         clear hK K
         refine norm_ (a' := ?_) ?_ ?_
         (rotate_left; ·(show Act.put _ (some 46) _ = _; simp only [Act.put, pq_z103]; rfl))
         refine pu_z103 29 (some 47) ?_ mz103_30 rfl rfl (any_of HT_.out (by kernel_rfl)) (fun _ _ _ h => h) (Or.inl ⟨by rfl, ?_⟩) ?_ ?_ ?_
         (rotate_left; ·(intro w'; go_simp; with_reducible rfl)); (rotate_left; ·(simp only [Act.put, pq_z103]; rfl))
         refine pu_z103 30 (some 48) ?_ mz103_31 rfl rfl (any_of HT_.out (by kernel_rfl)) (fun _ _ _ h => h) (Or.inl ⟨by rfl, ?_⟩) ?_ ?_ ?_
         (rotate_left; ·(intro w'; go_simp; with_reducible rfl)); (rotate_left; ·(simp only [Act.put, pq_z103]; rfl))
         refine pu_z103 31 (some 49) ?_ mz103_32 rfl rfl (any_of HT_.out (by kernel_rfl)) (fun _ _ _ h => h) (Or.inl ⟨by rfl, ?_⟩) ?_ ?_ ?_
         (rotate_left; ·(intro w'; go_simp; with_reducible rfl)); (rotate_left; ·(simp only [Act.put, pq_z103]; rfl))
         refine done_ (done_of HT_.out (by kernel_rfl)) ?_
         try go_wp2
         go_ret
         exact ⟨by first | rfl | (simp [*, errW_none, errW_some] <;> rfl), by repeat (first | (with_reducible first | exact HB.out | apply below_alloc | apply pw_below_drewN | apply below_drew1 | refine below_set ?_ GE300.out) | exact HB.out)⟩
        ·rw [if_neg c16] at H
         have c16b0 : (t304 == t305) = false := beq_eq_false_iff_ne.mpr c16
         have c16b1 : (t304 != t305) = true := bne_iff_ne.mpr c16
         have H' := Aside0.mk H
         clear H
         try go_wp2
         have n0_ := Aside0.mk (blk_drew BK300.out)
         have n1_ := Aside0.mk (below_drew1 HB.out)
         clear BK300
         clear HB
         have BK300 := n0_
         have HB := n1_
         clear n0_ n1_
         have p301 : 0 ≤ (x11_1 : Int) := of_decide_eq_true (by assumption)
         have q301 : x11_1 < (l2.length : Int) := of_decide_eq_true (by assumption)
         obtain ⟨ad301, e301, hx301_0⟩ := Kd.at_int HR2.out x11_1 p301 q301
         have hw301_0 := hx301_0
         cases e301
         replace hx301_0 := (HB.out.cell (World.block_lt_of_cell? w _ hx301_0)).trans hx301_0
         replace p301 := eq_true p301
         replace q301 := eq_true q301
         have p302 : 0 ≤ (x11_1 : Int) := of_decide_eq_true (by assumption)
         have q302 : x11_1 < (l2.length : Int) := of_decide_eq_true (by assumption)
         obtain ⟨ad302, e302, hx302_0⟩ := Kd.at_int HR2.out x11_1 p302 q302
         have hw302_0 := hx302_0
         obtain rfl : ad301 = ad302 := (by injection e302)
         replace hx302_0 := (HB.out.cell (World.block_lt_of_cell? w _ hx302_0)).trans hx302_0
         replace p302 := eq_true p302
         replace q302 := eq_true q302
         have p303 : 0 ≤ (x11_1 : Int) := of_decide_eq_true (by assumption)
         have q303 : x11_1 < (l2.length : Int) := of_decide_eq_true (by assumption)
         obtain ⟨ad303, e303, hx303_0⟩ := Kd.at_int HR2.out x11_1 p303 q303
         have hw303_0 := hx303_0
         obtain rfl : ad301 = ad303 := (by injection e303)
         replace hx303_0 := (HB.out.cell (World.block_lt_of_cell? w _ hx303_0)).trans hx303_0
         replace p303 := eq_true p303
         replace q303 := eq_true q303
         refine start_ (n := 32) (S := fun w' => w'.cell? ⟨gb300, 0, none⟩ = some (.slice A0_0 l0_0.length c0_0) ∧ w'.cell? ⟨gb300, 1, none⟩ = some (.slice A0_1 l0_1.length c0_1) ∧ w'.cell? (ad301.add (x11_1).toNat) = some (.int .i64 (rd l2 x11_1)) ∧ w'.cell? (ad301.add (x11_1).toNat) = some (.int .i64 (rd l2 x11_1)) ∧ w'.cell? (ad301.add (x11_1).toNat) = some (.int .i64 (rd l2 x11_1))) (ds := []) mz103_0 (by kernel_rfl) rfl rfl ⟨(blk_cell BK300.out 0).trans rfl, (blk_cell BK300.out 1).trans rfl, ((HB.out.cell (World.block_lt_of_cell? w _ hw301_0)).trans hw301_0), ((HB.out.cell (World.block_lt_of_cell? w _ hw302_0)).trans hw302_0), ((HB.out.cell (World.block_lt_of_cell? w _ hw303_0)).trans hw303_0)⟩ (fun hHeld => ?_); refine with_tabW spec_l08Free.tab4 spec_l08Free.bits4 (fun HT_ HW_ => ?_)
         generalize wr.drew = w20 at BK300 HB hx301_0 hx302_0 hx303_0 hHeld ⊢
         refine pu_z103 0 (some 18) ?_ mz103_1 rfl rfl (any_of HT_.out (by kernel_rfl)) (fun _ _ _ h => h) (Or.inl ⟨by rfl, ?_⟩) ?_ ?_ ?_
         (rotate_left; ·(intro w'; go_simp; with_reducible rfl)); (rotate_left; ·(simp only [Act.put, pq_z103]; rfl))
         refine pu_z103 1 (some 19) ?_ mz103_2 rfl rfl (any_of HT_.out (by kernel_rfl)) (fun _ _ _ h => h) (Or.inl ⟨by rfl, ?_⟩) ?_ ?_ ?_
         (rotate_left; ·(intro w'; go_simp; with_reducible rfl)); (rotate_left; ·(simp only [Act.put, pq_z103]; rfl))
         refine pu_z103 2 (some 20) ?_ mz103_3 rfl rfl (any_of HT_.out (by kernel_rfl)) (fun _ _ _ h => h) (Or.inl ⟨by rfl, ?_⟩) ?_ ?_ ?_
         (rotate_left; ·(intro w'; go_simp; with_reducible rfl)); (rotate_left; ·(simp only [Act.put, pq_z103]; rfl))
         refine pu_z103 3 (some 21) ?_ mz103_4 rfl rfl (any_of HT_.out (by kernel_rfl)) (fun _ _ _ h => h) (Or.inl ⟨by rfl, ?_⟩) ?_ ?_ ?_
         (rotate_left; ·(intro w'; go_simp; with_reducible rfl)); (rotate_left; ·(simp only [Act.put, pq_z103]; rfl))
         refine pu_z103 4 (some 22) ?_ mz103_5 rfl rfl (any_of HT_.out (by kernel_rfl)) (fun _ _ _ h => h) (Or.inl ⟨by rfl, ?_⟩) ?_ ?_ ?_
         (rotate_left; ·(intro w'; go_simp; with_reducible rfl)); (rotate_left; ·(simp only [Act.put, pq_z103]; rfl))
         refine pu_z103 5 (some 23) ?_ mz103_6 rfl rfl (any_of HT_.out (by kernel_rfl)) (fun _ _ _ h => h) (Or.inl ⟨by rfl, ?_⟩) ?_ ?_ ?_
         (rotate_left; ·(intro w'; go_simp; with_reducible rfl)); (rotate_left; ·(simp only [Act.put, pq_z103]; rfl))
         refine pu_z103 6 (some 24) ?_ mz103_7 rfl rfl (any_of HT_.out (by kernel_rfl)) (fun _ _ _ h => h) (Or.inl ⟨by rfl, ?_⟩) ?_ ?_ ?_
         (rotate_left; ·(intro w'; go_simp; with_reducible rfl)); (rotate_left; ·(simp only [Act.put, pq_z103]; rfl))
         refine take_ (i := 7) (N := some 25) (v := ?_) (a' := ?_) mz103_8 rfl rfl (take_ofW HT_.out HW_.out (by kernel_rfl)) (fun _ _ _ h => h) (Or.inl ⟨by rfl, ?_⟩) hHeld ?_ ?_
         (rotate_left; ·(rintro w' ⟨s0, s1, s2, s3, s4⟩; go_simp; with_reducible rfl)); (rotate_left; ·(simp only [Act.put, pq_z103]; rfl))
         refine pu_z103 8 (some 26) ?_ mz103_9 rfl rfl (any_of HT_.out (by kernel_rfl)) (fun _ _ _ h => h) (Or.inl ⟨by rfl, ?_⟩) ?_ ?_ ?_
         (rotate_left; ·(intro w'; go_simp; with_reducible rfl)); (rotate_left; ·(simp only [Act.put, pq_z103]; rfl))
         refine pu_z103 9 (some 27) ?_ mz103_10 rfl rfl (any_of HT_.out (by kernel_rfl)) (fun _ _ _ h => h) (Or.inl ⟨by rfl, ?_⟩) ?_ ?_ ?_
         (rotate_left; ·(intro w'; go_simp; with_reducible rfl)); (rotate_left; ·(simp only [Act.put, pq_z103]; rfl))
         refine pu_z103 10 (some 28) ?_ mz103_11 rfl rfl (any_of HT_.out (by kernel_rfl)) (fun _ _ _ h => h) (Or.inl ⟨by rfl, ?_⟩) ?_ ?_ ?_
         (rotate_left; ·(intro w'; go_simp; with_reducible rfl)); (rotate_left; ·(simp only [Act.put, pq_z103]; rfl))
         refine pu_z103 11 (some 29) ?_ mz103_12 rfl rfl (any_of HT_.out (by kernel_rfl)) (fun _ _ _ h => h) (Or.inl ⟨by rfl, ?_⟩) ?_ ?_ ?_
         (rotate_left; ·(intro w'; go_simp; with_reducible rfl)); (rotate_left; ·(simp only [Act.put, pq_z103]; rfl))
         refine pu_z103 12 (some 30) ?_ mz103_13 rfl rfl (any_of HT_.out (by kernel_rfl)) (fun _ _ _ h => h) (Or.inl ⟨by rfl, ?_⟩) ?_ ?_ ?_
         (rotate_left; ·(intro w'; go_simp; with_reducible rfl)); (rotate_left; ·(simp only [Act.put, pq_z103]; rfl))
         refine pu_z103 13 (some 31) ?_ mz103_14 rfl rfl (any_of HT_.out (by kernel_rfl)) (fun _ _ _ h => h) (Or.inl ⟨by rfl, ?_⟩) ?_ ?_ ?_
         (rotate_left; ·(intro w'; go_simp; with_reducible rfl)); (rotate_left; ·(simp only [Act.put, pq_z103]; rfl))
         refine pu_z103 15 (some 33) ?_ mz103_33 rfl rfl (any_of HT_.out (by kernel_rfl)) (fun _ _ _ h => h) (Or.inl ⟨by rfl, ?_⟩) ?_ ?_ ?_
         (rotate_left; ·(intro w'; go_simp; with_reducible rfl)); (rotate_left; ·(simp only [Act.put, pq_z103]; rfl))
         refine take_ (i := 14) (N := some 32) (v := ?_) (a' := ?_) mz103_16 rfl rfl (take_ofW HT_.out HW_.out (by kernel_rfl)) (fun _ _ _ h => h) (Or.inl ⟨by rfl, ?_⟩) hHeld ?_ ?_
         (rotate_left; ·(rintro w' ⟨s0, s1, s2, s3, s4⟩; go_simp; with_reducible rfl)); (rotate_left; ·(simp only [Act.put, pq_z103]; rfl))
         refine pu_z103 16 (some 34) ?_ mz103_17 rfl rfl (any_of HT_.out (by kernel_rfl)) (fun _ _ _ h => h) (Or.inl ⟨by rfl, ?_⟩) ?_ ?_ ?_
         (rotate_left; ·(intro w'; go_simp; with_reducible rfl)); (rotate_left; ·(simp only [Act.put, pq_z103]; rfl))
         refine pu_z103 17 (some 35) ?_ mz103_18 rfl rfl (any_of HT_.out (by kernel_rfl)) (fun _ _ _ h => h) (Or.inl ⟨by rfl, ?_⟩) ?_ ?_ ?_
         (rotate_left; ·(intro w'; go_simp; with_reducible rfl)); (rotate_left; ·(simp only [Act.put, pq_z103]; rfl))
         refine pu_z103 19 (some 37) ?_ mz103_34 rfl rfl (any_of HT_.out (by kernel_rfl)) (fun _ _ _ h => h) (Or.inl ⟨by rfl, ?_⟩) ?_ ?_ ?_
         (rotate_left; ·(intro w'; go_simp; with_reducible rfl)); (rotate_left; ·(simp only [Act.put, pq_z103]; rfl))
         refine pu_z103 20 (some 38) ?_ mz103_35 rfl rfl (any_of HT_.out (by kernel_rfl)) (fun _ _ _ h => h) (Or.inl ⟨by rfl, ?_⟩) ?_ ?_ ?_
         (rotate_left; ·(intro w'; go_simp; with_reducible rfl)); (rotate_left; ·(simp only [Act.put, pq_z103]; rfl))
         refine pu_z103 21 (some 39) ?_ mz103_36 rfl rfl (any_of HT_.out (by kernel_rfl)) (fun _ _ _ h => h) (Or.inl ⟨by rfl, ?_⟩) ?_ ?_ ?_
         (rotate_left; ·(intro w'; go_simp; with_reducible rfl)); (rotate_left; ·(simp only [Act.put, pq_z103]; rfl))
         refine pu_z103 22 (some 40) ?_ mz103_37 rfl rfl (any_of HT_.out (by kernel_rfl)) (fun _ _ _ h => h) (Or.inl ⟨by rfl, ?_⟩) ?_ ?_ ?_
         (rotate_left; ·(intro w'; go_simp; with_reducible rfl)); (rotate_left; ·(simp only [Act.put, pq_z103]; rfl))
         refine pu_z103 26 (some 44) ?_ mz103_38 rfl rfl (any_of HT_.out (by kernel_rfl)) (fun _ _ _ h => h) (Or.inl ⟨by rfl, ?_⟩) ?_ ?_ ?_
         (rotate_left; ·(intro w'; go_simp; with_reducible rfl)); (rotate_left; ·(simp only [Act.put, pq_z103]; rfl))
         refine pu_z103 27 (some 45) ?_ mz103_39 rfl rfl (any_of HT_.out (by kernel_rfl)) (fun _ _ _ h => h) (Or.inl ⟨by rfl, ?_⟩) ?_ ?_ ?_
         (rotate_left; ·(intro w'; go_simp; with_reducible rfl)); (rotate_left; ·(simp only [Act.put, pq_z103]; rfl))
         refine take_ (i := 18) (N := some 36) (v := ?_) (a' := ?_) mz103_40 rfl rfl (take_ofW HT_.out HW_.out (by kernel_rfl)) (fun _ _ _ h => h) (Or.inl ⟨by rfl, ?_⟩) hHeld ?_ ?_
         (rotate_left; ·(rintro w' ⟨s0, s1, s2, s3, s4⟩; go_simp; with_reducible rfl)); (rotate_left; ·(simp only [Act.put, pq_z103]; rfl))
         refine take_ (i := 23) (N := some 41) (v := ?_) (a' := ?_) mz103_41 rfl rfl (take_ofW HT_.out HW_.out (by kernel_rfl)) (fun _ _ _ h => h) (Or.inl ⟨by rfl, ?_⟩) hHeld ?_ ?_
         (rotate_left; ·(rintro w' ⟨s0, s1, s2, s3, s4⟩; go_simp; with_reducible rfl)); (rotate_left; ·(simp only [Act.put, pq_z103]; rfl))
         refine take_ (i := 25) (N := some 43) (v := ?_) (a' := ?_) mz103_42 rfl rfl (take_ofW HT_.out HW_.out (by kernel_rfl)) (fun _ _ _ h => h) (Or.inl ⟨by rfl, ?_⟩) hHeld ?_ ?_
         (rotate_left; ·(rintro w' ⟨s0, s1, s2, s3, s4⟩; go_simp; with_reducible rfl)); (rotate_left; ·(simp only [Act.put, pq_z103]; rfl))
         refine one_ (i := 24) (N := some 42) mz103_28 rfl rfl (one_of HT_.out (by kernel_rfl)) (by decide) (fun K hK => ?_)
         refine goes_ Try.func81 (by kernel_rfl) rfl #[.agg #[.slice A0_0 l0_0.length c0_0, .slice A0_1 l0_1.length c0_1], .int .i64 a1, .int .i64 (rd l2 x11_1)] (by rfl) rfl rfl (by (try simp only [List.map_toArray, List.map_cons, List.map_nil]); first | done | rfl | (simp only [List.length_drop, List.length_take]; rfl)) ?_
         with_reducible refine (spec_l08Domain.calls k1 _ _ l0_0 _ _ l0_1 a1 (rd l2 x11_1) t304 _ ?side1 ?side2 ?side3 ?side4 A14.out).mono ?_
         (case side1 => repeat (first | exact (Kd.C_below HR0_0.out HB.out) | (with_reducible refine Kd.C_alloc ?_ _) | (with_reducible refine Kd.C_drewN ?_ _) | (with_reducible refine Kd.C_drew ?_)))
         (case side2 => exact HC0_0.out)
         (case side3 => repeat (first | exact (Kd.C_below HR0_1.out HB.out) | (with_reducible refine Kd.C_alloc ?_ _) | (with_reducible refine Kd.C_drewN ?_ _) | (with_reducible refine Kd.C_drew ?_)))
         (case side4 => exact HC0_1.out)
         rintro e w21 ⟨rfl, hb⟩
         refine ⟨_, rfl, ?_⟩
         have n0_ := Aside0.mk (blk_below (g := gb300) (o := .cells #[.slice A0_0 l0_0.length c0_0, .slice A0_1 l0_1.length c0_1] 31 (0, 0)) (by (with_reducible repeat first | apply blk_drewN | apply blk_drew | apply blk_alloc); exact BK300.out) hb)
         have n1_ := Aside0.mk (below_step (by repeat (first | (with_reducible first | exact HB.out | apply below_alloc | apply pw_below_drewN | apply below_drew1 | refine below_set ?_ GE300.out) | exact HB.out)) hb)
         clear BK300
         clear HB
         have BK300 := n0_
         have HB := n1_
         clear n0_ n1_
         (try clear hb)
         (try clear hb2)
         (try clear hk)
         (try clear hi)
         refine hK.out _ _ ⟨(blk_cell BK300.out 0).trans rfl, (blk_cell BK300.out 1).trans rfl, ((HB.out.cell (World.block_lt_of_cell? w _ hw301_0)).trans hw301_0), ((HB.out.cell (World.block_lt_of_cell? w _ hw302_0)).trans hw302_0), ((HB.out.cell (World.block_lt_of_cell? w _ hw303_0)).trans hw303_0)⟩ (fun hHeld => ?_)
         clear hK K
         refine norm_ (a' := ?_) ?_ ?_
         (rotate_left; ·(show Act.put _ (some 42) _ = _; simp only [Act.put, pq_z103]; rfl))
         refine one_ (i := 28) (N := some 46) mz103_29 rfl rfl (one_of HT_.out (by kernel_rfl)) (by decide) (fun K hK => ?_)
         refine goes_ Try.func81 (by kernel_rfl) rfl #[.agg #[.slice A0_0 l0_0.length c0_0, .slice A0_1 l0_1.length c0_1], .int .i64 a1, .int .i64 a4] (by rfl) rfl rfl (by (try simp only [List.map_toArray, List.map_cons, List.map_nil]); first | done | rfl | (simp only [List.length_drop, List.length_take]; rfl)) ?_
         with_reducible refine (spec_l08Domain.calls k1 _ _ l0_0 _ _ l0_1 a1 a4 t305 _ ?side1 ?side2 ?side3 ?side4 A15.out).mono ?_
         (case side1 => repeat (first | exact (Kd.C_below HR0_0.out HB.out) | (with_reducible refine Kd.C_alloc ?_ _) | (with_reducible refine Kd.C_drewN ?_ _) | (with_reducible refine Kd.C_drew ?_)))
         (case side2 => exact HC0_0.out)
         (case side3 => repeat (first | exact (Kd.C_below HR0_1.out HB.out) | (with_reducible refine Kd.C_alloc ?_ _) | (with_reducible refine Kd.C_drewN ?_ _) | (with_reducible refine Kd.C_drew ?_)))
         (case side4 => exact HC0_1.out)
         rintro e w22 ⟨rfl, hb⟩
         refine ⟨_, rfl, ?_⟩
         have n0_ := Aside0.mk (blk_below (g := gb300) (o := .cells #[.slice A0_0 l0_0.length c0_0, .slice A0_1 l0_1.length c0_1] 31 (0, 0)) (by (with_reducible repeat first | apply blk_drewN | apply blk_drew | apply blk_alloc); exact BK300.out) hb)
         have n1_ := Aside0.mk (below_step (by repeat (first | (with_reducible first | exact HB.out | apply below_alloc | apply pw_below_drewN | apply below_drew1 | refine below_set ?_ GE300.out) | exact HB.out)) hb)
         clear BK300
         clear HB
         have BK300 := n0_
         have HB := n1_
         clear n0_ n1_
         (try clear hb)
         (try clear hb2)
         (try clear hk)
         (try clear hi)
         refine hK.out _ _ ⟨(blk_cell BK300.out 0).trans rfl, (blk_cell BK300.out 1).trans rfl, ((HB.out.cell (World.block_lt_of_cell? w _ hw301_0)).trans hw301_0), ((HB.out.cell (World.block_lt_of_cell? w _ hw302_0)).trans hw302_0), ((HB.out.cell (World.block_lt_of_cell? w _ hw303_0)).trans hw303_0)⟩ (fun hHeld => ?_)
         clear hK K
         refine norm_ (a' := ?_) ?_ ?_
         (rotate_left; ·(show Act.put _ (some 46) _ = _; simp only [Act.put, pq_z103]; rfl))
         refine pu_z103 29 (some 47) ?_ mz103_30 rfl rfl (any_of HT_.out (by kernel_rfl)) (fun _ _ _ h => h) (Or.inl ⟨by rfl, ?_⟩) ?_ ?_ ?_
         (rotate_left; ·(intro w'; go_simp; with_reducible rfl)); (rotate_left; ·(simp only [Act.put, pq_z103]; rfl))
         refine pu_z103 30 (some 48) ?_ mz103_31 rfl rfl (any_of HT_.out (by kernel_rfl)) (fun _ _ _ h => h) (Or.inl ⟨by rfl, ?_⟩) ?_ ?_ ?_
         (rotate_left; ·(intro w'; go_simp; with_reducible rfl)); (rotate_left; ·(simp only [Act.put, pq_z103]; rfl))
         refine pu_z103 31 (some 49) ?_ mz103_32 rfl rfl (any_of HT_.out (by kernel_rfl)) (fun _ _ _ h => h) (Or.inl ⟨by rfl, ?_⟩) ?_ ?_ ?_
         (rotate_left; ·(intro w'; go_simp; with_reducible rfl)); (rotate_left; ·(simp only [Act.put, pq_z103]; rfl))
         refine done_ (done_of HT_.out (by kernel_rfl)) ?_
         try go_wp2
         go_roundg k1
         case measure => have := HK1.out; omega
         case rel => exact ⟨(wrap64 (x11_1 + 1)), (by first | rfl | (simp; done) | (simp [*]; done)), H', ⟨by have := HK1.out; omega⟩, ⟨by (with_reducible repeat first | apply blk_drewN | apply blk_drew | apply blk_alloc); exact BK300.out⟩, ⟨by repeat (first | (with_reducible first | exact HB.out | apply below_alloc | apply pw_below_drewN | apply below_drew1 | refine below_set ?_ GE300.out) | exact HB.out)⟩⟩
      ·rw [if_neg c11] at H
       have c11b0 : decide (0 ≤ (rd l2 x11_1)) = false := decide_eq_false c11
       clear c11
       have H' := Aside0.mk H
       clear H
       try go_wp2
       have n0_ := Aside0.mk (blk_drew BK300.out)
       have n1_ := Aside0.mk (below_drew1 HB.out)
       clear BK300
       clear HB
       have BK300 := n0_
       have HB := n1_
       clear n0_ n1_
       have p301 : 0 ≤ (x11_1 : Int) := of_decide_eq_true (by assumption)
       have q301 : x11_1 < (l2.length : Int) := of_decide_eq_true (by assumption)
       obtain ⟨ad301, e301, hx301_0⟩ := Kd.at_int HR2.out x11_1 p301 q301
       have hw301_0 := hx301_0
       cases e301
       replace hx301_0 := (HB.out.cell (World.block_lt_of_cell? w _ hx301_0)).trans hx301_0
       replace p301 := eq_true p301
       replace q301 := eq_true q301
       refine start_ (n := 32) (S := fun w' => w'.cell? (ad301.add (x11_1).toNat) = some (.int .i64 (rd l2 x11_1))) (ds := []) mz103_0 (by kernel_rfl) rfl rfl (((HB.out.cell (World.block_lt_of_cell? w _ hw301_0)).trans hw301_0)) (fun hHeld => ?_); refine with_tabW spec_l08Free.tab4 spec_l08Free.bits4 (fun HT_ HW_ => ?_)
       generalize wr.drew = w23 at BK300 HB hx301_0 hHeld ⊢
       refine pu_z103 0 (some 18) ?_ mz103_1 rfl rfl (any_of HT_.out (by kernel_rfl)) (fun _ _ _ h => h) (Or.inl ⟨by rfl, ?_⟩) ?_ ?_ ?_
       (rotate_left; ·(intro w'; go_simp; with_reducible rfl)); (rotate_left; ·(simp only [Act.put, pq_z103]; rfl))
       refine pu_z103 1 (some 19) ?_ mz103_2 rfl rfl (any_of HT_.out (by kernel_rfl)) (fun _ _ _ h => h) (Or.inl ⟨by rfl, ?_⟩) ?_ ?_ ?_
       (rotate_left; ·(intro w'; go_simp; with_reducible rfl)); (rotate_left; ·(simp only [Act.put, pq_z103]; rfl))
       refine pu_z103 2 (some 20) ?_ mz103_3 rfl rfl (any_of HT_.out (by kernel_rfl)) (fun _ _ _ h => h) (Or.inl ⟨by rfl, ?_⟩) ?_ ?_ ?_
       (rotate_left; ·(intro w'; go_simp; with_reducible rfl)); (rotate_left; ·(simp only [Act.put, pq_z103]; rfl))
       refine pu_z103 3 (some 21) ?_ mz103_4 rfl rfl (any_of HT_.out (by kernel_rfl)) (fun _ _ _ h => h) (Or.inl ⟨by rfl, ?_⟩) ?_ ?_ ?_
       (rotate_left; ·(intro w'; go_simp; with_reducible rfl)); (rotate_left; ·(simp only [Act.put, pq_z103]; rfl))
       refine pu_z103 4 (some 22) ?_ mz103_5 rfl rfl (any_of HT_.out (by kernel_rfl)) (fun _ _ _ h => h) (Or.inl ⟨by rfl, ?_⟩) ?_ ?_ ?_
       (rotate_left; ·(intro w'; go_simp; with_reducible rfl)); (rotate_left; ·(simp only [Act.put, pq_z103]; rfl))
       refine pu_z103 5 (some 23) ?_ mz103_6 rfl rfl (any_of HT_.out (by kernel_rfl)) (fun _ _ _ h => h) (Or.inl ⟨by rfl, ?_⟩) ?_ ?_ ?_
       (rotate_left; ·(intro w'; go_simp; with_reducible rfl)); (rotate_left; ·(simp only [Act.put, pq_z103]; rfl))
       refine pu_z103 6 (some 24) ?_ mz103_7 rfl rfl (any_of HT_.out (by kernel_rfl)) (fun _ _ _ h => h) (Or.inl ⟨by rfl, ?_⟩) ?_ ?_ ?_
       (rotate_left; ·(intro w'; go_simp; with_reducible rfl)); (rotate_left; ·(simp only [Act.put, pq_z103]; rfl))
       refine take_ (i := 7) (N := some 25) (v := ?_) (a' := ?_) mz103_8 rfl rfl (take_ofW HT_.out HW_.out (by kernel_rfl)) (fun _ _ _ h => h) (Or.inl ⟨by rfl, ?_⟩) hHeld ?_ ?_
       rotate_left
       ·intro w' s0
        go_simp
        with_reducible rfl
       (rotate_left; ·(simp only [Act.put, pq_z103]; rfl))
       refine pu_z103 8 (some 26) ?_ mz103_9 rfl rfl (any_of HT_.out (by kernel_rfl)) (fun _ _ _ h => h) (Or.inl ⟨by rfl, ?_⟩) ?_ ?_ ?_
       (rotate_left; ·(intro w'; go_simp; with_reducible rfl)); (rotate_left; ·(simp only [Act.put, pq_z103]; rfl))
       refine pu_z103 9 (some 27) ?_ mz103_10 rfl rfl (any_of HT_.out (by kernel_rfl)) (fun _ _ _ h => h) (Or.inl ⟨by rfl, ?_⟩) ?_ ?_ ?_
       (rotate_left; ·(intro w'; go_simp; with_reducible rfl)); (rotate_left; ·(simp only [Act.put, pq_z103]; rfl))
       refine pu_z103 10 (some 28) ?_ mz103_11 rfl rfl (any_of HT_.out (by kernel_rfl)) (fun _ _ _ h => h) (Or.inl ⟨by rfl, ?_⟩) ?_ ?_ ?_
       (rotate_left; ·(intro w'; go_simp; with_reducible rfl)); (rotate_left; ·(simp only [Act.put, pq_z103]; rfl))
       refine pu_z103 11 (some 29) undef mz103_12 rfl rfl (any_of HT_.out (by kernel_rfl)) (fun _ _ _ h => h) (Or.inr ⟨by rfl, rfl⟩) ?_ ?_ ?_
       (rotate_left; ·(simp only [Act.put, pq_z103]; rfl))
       refine pu_z103 12 (some 30) undef mz103_13 rfl rfl (any_of HT_.out (by kernel_rfl)) (fun _ _ _ h => h) (Or.inr ⟨by rfl, rfl⟩) ?_ ?_ ?_
       (rotate_left; ·(simp only [Act.put, pq_z103]; rfl))
       refine pu_z103 13 (some 31) undef mz103_14 rfl rfl (any_of HT_.out (by kernel_rfl)) (fun _ _ _ h => h) (Or.inr ⟨by rfl, rfl⟩) ?_ ?_ ?_
       (rotate_left; ·(simp only [Act.put, pq_z103]; rfl))
       refine pu_z103 14 (some 32) undef mz103_15 rfl rfl (any_of HT_.out (by kernel_rfl)) (fun _ _ _ h => h) (Or.inr ⟨by rfl, rfl⟩) ?_ ?_ ?_
       (rotate_left; ·(simp only [Act.put, pq_z103]; rfl))
       refine pu_z103 15 (some 33) undef mz103_16 rfl rfl (any_of HT_.out (by kernel_rfl)) (fun _ _ _ h => h) (Or.inr ⟨by rfl, rfl⟩) ?_ ?_ ?_
       (rotate_left; ·(simp only [Act.put, pq_z103]; rfl))
       refine pu_z103 16 (some 34) undef mz103_17 rfl rfl (any_of HT_.out (by kernel_rfl)) (fun _ _ _ h => h) (Or.inr ⟨by rfl, rfl⟩) ?_ ?_ ?_
       (rotate_left; ·(simp only [Act.put, pq_z103]; rfl))
       refine pu_z103 17 (some 35) undef mz103_18 rfl rfl (any_of HT_.out (by kernel_rfl)) (fun _ _ _ h => h) (Or.inr ⟨by rfl, rfl⟩) ?_ ?_ ?_
       (rotate_left; ·(simp only [Act.put, pq_z103]; rfl))
       refine pu_z103 18 (some 36) undef mz103_19 rfl rfl (any_of HT_.out (by kernel_rfl)) (fun _ _ _ h => h) (Or.inr ⟨by rfl, rfl⟩) ?_ ?_ ?_
       (rotate_left; ·(simp only [Act.put, pq_z103]; rfl))
       refine pu_z103 19 (some 37) undef mz103_20 rfl rfl (any_of HT_.out (by kernel_rfl)) (fun _ _ _ h => h) (Or.inr ⟨by rfl, rfl⟩) ?_ ?_ ?_
       (rotate_left; ·(simp only [Act.put, pq_z103]; rfl))
       refine pu_z103 20 (some 38) undef mz103_21 rfl rfl (any_of HT_.out (by kernel_rfl)) (fun _ _ _ h => h) (Or.inr ⟨by rfl, rfl⟩) ?_ ?_ ?_
       (rotate_left; ·(simp only [Act.put, pq_z103]; rfl))
       refine pu_z103 21 (some 39) undef mz103_22 rfl rfl (any_of HT_.out (by kernel_rfl)) (fun _ _ _ h => h) (Or.inr ⟨by rfl, rfl⟩) ?_ ?_ ?_
       (rotate_left; ·(simp only [Act.put, pq_z103]; rfl))
       refine pu_z103 22 (some 40) undef mz103_23 rfl rfl (any_of HT_.out (by kernel_rfl)) (fun _ _ _ h => h) (Or.inr ⟨by rfl, rfl⟩) ?_ ?_ ?_
       (rotate_left; ·(simp only [Act.put, pq_z103]; rfl))
       refine pu_z103 23 (some 41) undef mz103_24 rfl rfl (any_of HT_.out (by kernel_rfl)) (fun _ _ _ h => h) (Or.inr ⟨by rfl, rfl⟩) ?_ ?_ ?_
       (rotate_left; ·(simp only [Act.put, pq_z103]; rfl))
       refine pu_z103 24 (some 42) undef mz103_25 rfl rfl (any_of HT_.out (by kernel_rfl)) (fun _ _ _ h => h) (Or.inr ⟨by rfl, rfl⟩) ?_ ?_ ?_
       (rotate_left; ·(simp only [Act.put, pq_z103]; rfl))
       refine pu_z103 25 (some 43) undef mz103_26 rfl rfl (any_of HT_.out (by kernel_rfl)) (fun _ _ _ h => h) (Or.inr ⟨by rfl, rfl⟩) ?_ ?_ ?_
       (rotate_left; ·(simp only [Act.put, pq_z103]; rfl))
       refine pu_z103 26 (some 44) undef mz103_27 rfl rfl (any_of HT_.out (by kernel_rfl)) (fun _ _ _ h => h) (Or.inr ⟨by rfl, rfl⟩) ?_ ?_ ?_
       (rotate_left; ·(simp only [Act.put, pq_z103]; rfl))
       refine pu_z103 27 (some 45) undef mz103_28 rfl rfl (any_of HT_.out (by kernel_rfl)) (fun _ _ _ h => h) (Or.inr ⟨by rfl, rfl⟩) ?_ ?_ ?_
       (rotate_left; ·(simp only [Act.put, pq_z103]; rfl))
       refine pu_z103 28 (some 46) undef mz103_29 rfl rfl (any_of HT_.out (by kernel_rfl)) (fun _ _ _ h => h) (Or.inr ⟨by rfl, rfl⟩) ?_ ?_ ?_
       (rotate_left; ·(simp only [Act.put, pq_z103]; rfl))
       refine pu_z103 29 (some 47) undef mz103_30 rfl rfl (any_of HT_.out (by kernel_rfl)) (fun _ _ _ h => h) (Or.inr ⟨by rfl, rfl⟩) ?_ ?_ ?_
       (rotate_left; ·(simp only [Act.put, pq_z103]; rfl))
       refine pu_z103 30 (some 48) undef mz103_31 rfl rfl (any_of HT_.out (by kernel_rfl)) (fun _ _ _ h => h) (Or.inr ⟨by rfl, rfl⟩) ?_ ?_ ?_
       (rotate_left; ·(simp only [Act.put, pq_z103]; rfl))
       refine pu_z103 31 (some 49) ?_ mz103_32 rfl rfl (any_of HT_.out (by kernel_rfl)) (fun _ _ _ h => h) (Or.inl ⟨by rfl, ?_⟩) ?_ ?_ ?_
       (rotate_left; ·(intro w'; go_simp; with_reducible rfl)); (rotate_left; ·(simp only [Act.put, pq_z103]; rfl))
       refine done_ (done_of HT_.out (by kernel_rfl)) ?_
       try go_wp2
       go_roundg k1
       case measure => have := HK1.out; omega
       case rel => exact ⟨(wrap64 (x11_1 + 1)), (by first | rfl | (simp; done) | (simp [*]; done)), H', ⟨by have := HK1.out; omega⟩, ⟨by (with_reducible repeat first | apply blk_drewN | apply blk_drew | apply blk_alloc); exact BK300.out⟩, ⟨by repeat (first | (with_reducible first | exact HB.out | apply below_alloc | apply pw_below_drewN | apply below_drew1 | refine below_set ?_ GE300.out) | exact HB.out)⟩⟩
     ·rw [if_neg c10] at H
      exact absurd H (by simp)
   ·rw [if_neg c7] at H
    have c7b0 : decide (x11_1 < (l2.length : Int)) = false := decide_eq_false c7
    clear c7
    obtain rfl := Option.some.inj H
    go_wp2
    go_ret
    exact ⟨by first | rfl | (simp [*, errW_none, errW_some] <;> rfl), by repeat (first | (with_reducible first | exact HB.out | apply below_alloc | apply pw_below_drewN | apply below_drew1 | refine below_set ?_ GE300.out) | exact HB.out)⟩

end Go.Proofs.Ytkadeelplnkpgaa.Q
