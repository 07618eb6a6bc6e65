/- Walks of the Go functions that the laws call: each returns what a plain Lean function says. Written by a program for these claims. -/
import Derived.Test.YtohjpgcmhihdhaaGreatDoorQ0
import Derived.Test.YtohjpgcmhihdhaaGreatDoorOSteps
import Derived.Test.YtohjpgcmhihdhaaGreatDoorQf60
namespace Go.Proofs.YtohjpgcmhihdhaaGreatDoor.Q
open Go.RowKit Go.Proofs.YtohjpgcmhihdhaaGreatDoorW.PrintWords Go.Proofs.YtohjpgcmhihdhaaGreatDoorW.PrintLast Go.Proofs.YtohjpgcmhihdhaaGreatDoorW.PrintMore
attribute [local go_sem] max2_int min2_int max_two min_two max_three min_three max_four min_four   -- for this text's walks alone
set_option linter.unusedVariables false
set_option linter.unusedSimpArgs false

/-! ### spec_l06Fits: function 47 -/
mutual
def spec_l06Fits.l0 : Nat → Int → List (S57) → List (S49) → Int → Int → List Int → Option (Bool)
  | 0, _, _, _, _, _, _ => none
  | k + 1, x5, x182000, x182001, x183000, x183001, x183002 => if x5 < (x183002.length : Int) then (if 0 ≤ x5 then ((spec_l06Kind.f k x182000 x182001 (rd x183002 x5)).bind fun t184 => (if x183001 < 3 then (spec_l06Fits.j1 k x5 t184 (t184 != (wrap64 (x183001 - 1))) x182000 x182001 x183000 x183001 x183002) else (spec_l06Fits.j1 k x5 t184 false x182000 x182001 x183000 x183001 x183002))) else (none)) else (some true)
def spec_l06Fits.j1 : Nat → Int → Int → Bool → List (S57) → List (S49) → Int → Int → List Int → Option (Bool)
  | 0, _, _, _, _, _, _, _, _ => none
  | k + 1, x5, x6, x30, x182000, x182001, x183000, x183001, x183002 => if x30 = true then (some false) else (if x183001 = 3 then (if 0 < (x183002.length : Int) then ((spec_l06Kind.f k x182000 x182001 (rd x183002 0)).bind fun t186 => (if x6 = t186 then (if x6 = 1 then (spec_l06Fits.l0 k (wrap64 (x5 + 1)) x182000 x182001 x183000 x183001 x183002) else (if x6 = 2 then (spec_l06Fits.l0 k (wrap64 (x5 + 1)) x182000 x182001 x183000 x183001 x183002) else (some false))) else (some false))) else (none)) else (spec_l06Fits.l0 k (wrap64 (x5 + 1)) x182000 x182001 x183000 x183001 x183002))
end
def spec_l06Fits.f (k : Nat) (l0_0 : List (S57)) (l0_1 : List (S49)) (a1_0 : Int) (a1_1 : Int) (l1_2 : List Int) : Option (Bool) := spec_l06Fits.l0 k 0 l0_0 l0_1 a1_0 a1_1 l1_2
def spec_l06Fits.T4 : Bool × List (List Nat × List Nat) := (true, [([], []), ([], []), ([1], [1]), ([], []), ([2, 3], [2, 3]), ([4], [4]), ([0, 5], [0, 5]), ([6, 6, 0, 1, 2, 3, 4, 5, 6], [6])])
def spec_l06Fits.B4 : List Nat := [0, 0, 2, 0, 14, 30, 63, 127]
theorem spec_l06Fits.tab4 : rtab .any (opsOf Tryz.f47 4) = spec_l06Fits.T4 := by kernel_rfl
theorem spec_l06Fits.bits4 : waitsOk spec_l06Fits.T4.2 spec_l06Fits.B4 = true := by kernel_rfl
def spec_l06Fits.T7 : Bool × List (List Nat × List Nat) := (true, [([], []), ([0], [0]), ([1], [1]), ([2], [2]), ([3], [3]), ([3], [3]), ([3], [3]), ([6, 3], [3, 6]), ([7, 3], [3, 7]), ([8, 3], [3, 8]), ([5, 9, 3, 3], [3, 5, 9]), ([4, 10, 3], [3, 4, 10]), ([11, 10, 3], [3, 11]), ([12], [12]), ([13, 12], [12, 13]), ([14, 12, 12], [12, 14]), ([15], [15]), ([16, 15], [15, 16]), ([15, 17, 12], [12, 15, 17]), ([12, 18, 3], [3, 12, 18]), ([3, 19], [3, 19])])
def spec_l06Fits.B7 : List Nat := [0, 1, 3, 7, 15, 15, 15, 79, 207, 463, 1007, 2047, 4095, 8191, 16383, 32767, 65535, 131071, 262143, 524287, 1048575]
theorem spec_l06Fits.tab7 : rtab .any (opsOf Tryz.f47 7) = spec_l06Fits.T7 := by kernel_rfl
theorem spec_l06Fits.bits7 : waitsOk spec_l06Fits.T7.2 spec_l06Fits.B7 = true := by kernel_rfl
def az_z47 (n m : Nat) : Array Bool := (List.replicate n true ++ List.replicate m false).toArray
def mz47_0 : Array Bool := az_z47 0 21
def mz47_1 : Array Bool := az_z47 1 20
def mz47_2 : Array Bool := az_z47 2 19
def mz47_3 : Array Bool := az_z47 3 18
def mz47_4 : Array Bool := az_z47 4 17
def mz47_5 : Array Bool := az_z47 5 16
def mz47_6 : Array Bool := #[true, true, true, true, true, false, true, false, false, false, false, false, false, false, false, false, false, false, false, false, false]
def mz47_7 : Array Bool := az_z47 7 14
def mz47_8 : Array Bool := az_z47 8 13
def mz47_9 : Array Bool := az_z47 9 12
def mz47_10 : Array Bool := az_z47 10 11
def mz47_11 : Array Bool := az_z47 11 10
def mz47_12 : Array Bool := az_z47 12 9
def mz47_13 : Array Bool := az_z47 13 8
def mz47_14 : Array Bool := az_z47 14 7
def mz47_15 : Array Bool := az_z47 15 6
def mz47_16 : Array Bool := az_z47 16 5
def mz47_17 : Array Bool := az_z47 17 4
def mz47_18 : Array Bool := az_z47 18 3
def mz47_19 : Array Bool := az_z47 19 2
def mz47_20 : Array Bool := az_z47 20 1
def mz47_21 : Array Bool := az_z47 21 0
def mz47_22 : Array Bool := az_z47 6 15
theorem pu_z47 {P : Program} {ops : Array Oper} {Q : Exit → Act → World → Prop} {md : Region.Mode} {S : World → Prop} {ds : List Nat} {oi : Oper} {fuel : Nat} {l : Array Bool} {a : Act} {w : World} (i : Nat) (N : Option Tmp) (v : Value) (l' : Array Bool) (hi : ops[i]? = some oi) (hN : oi.dst = N) (hc : anyB md ops l l' i = true)
    (hQ : ∀ c a w, Q (.panic c) (a.put oi.dst v) w → Q (.panic c) a w) (hy : Yields P ops oi v a) (a' : Act) (ha : a.put N v = a')
    (h : wpAnyLast P md ops Q S ds fuel l' a' w) : wpAnyLast P md ops Q S ds (fuel + 1) l a w := pure_ l' hi hN hc hQ hy ha h
theorem pq_z47 : (∀ (l : List Value) (i : Nat) (v : Value), l.toArray.setIfInBounds i v = (l.set i v).toArray) ∧ (∀ (x v : Value) (xs : List Value), (x :: xs).set 0 v = v :: xs) ∧ (∀ (x v : Value) (xs : List Value) (n : Nat), (x :: xs).set (n + 1) v = x :: xs.set n v) ∧ (∀ n : Int, IntKind.i64.wrap n = Go.RowKit.wrap64 n) ∧ (∀ n : Int, IntKind.i32.wrap n = Go.RowKit.wrap32 n) :=
  ⟨fun l i v => List.setIfInBounds_toArray l i v, fun _ _ _ => rfl, fun _ _ _ _ => rfl, i64_w, i32_w⟩
set_option maxHeartbeats 8000000 in
set_option maxRecDepth 100000 in
theorem spec_l06Fits.calls (k : Nat) (A0_0 : Option Addr) (c0_0 : Nat) (l0_0 : List (S57)) (A0_1 : Option Addr) (c0_1 : Nat) (l0_1 : List (S49)) (a1_0 : Int) (a1_1 : Int) (A1_2 : Option Addr) (c1_2 : Nat) (l1_2 : List Int) (r : Bool) (w : World) (hr0_0 : Kd.C k57 w A0_0 l0_0.length l0_0) (hc0_0 : l0_0.length ≤ c0_0) (hr0_1 : Kd.C k49 w A0_1 l0_1.length l0_1) (hc0_1 : l0_1.length ≤ c0_1) (hr1_2 : Kd.C (Kd.int .i64) w A1_2 l1_2.length l1_2) (hc1_2 : l1_2.length ≤ c1_2) (h : spec_l06Fits.f k l0_0 l0_1 a1_0 a1_1 l1_2 = some r) :
  Calls Tryz.prog 47 #[.agg #[.slice A0_0 l0_0.length c0_0, .slice A0_1 l0_1.length c0_1], .agg #[.int .i64 a1_0, .int .i64 a1_1, .slice A1_2 l1_2.length c1_2]] w fun e w' => e = .returned (.bool r) ∧ Below w.heap.size w w' := by
 have hu25 := Tryz.underlying25
 have hu49 := Tryz.underlying49
 have HR0_0 := Aside0.mk hr0_0
 have HC0_0 := Aside0.mk hc0_0
 clear hr0_0 hc0_0
 have HR0_1 := Aside0.mk hr0_1
 have HC0_1 := Aside0.mk hc0_1
 clear hr0_1 hc0_1
 have HR1_2 := Aside0.mk hr1_2
 have HC1_2 := Aside0.mk hc1_2
 clear hr1_2 hc1_2
 have HB := Aside0.mk (Below.refl w.heap.size w)
 have H : (spec_l06Fits.l0 k 0 l0_0 l0_1 a1_0 a1_1 l1_2) = some r := h
 clear h
 have H' := Aside0.mk H
 clear H
 go_enter Tryz.func47, Tryz.ntmps47
 go_wp2_with (first | ((with_reducible refine gate_dst (N := 2) rfl ?_); refine box_event ?hg (N := 2) ?hd (cs := #[.slice A0_0 l0_0.length c0_0, .slice A0_1 l0_1.length c0_1]) (t := 25) ?hr ?_; (case hd => rfl); (case hg => rfl); (case hr => first | (go_simp; done) | (go_simp; rfl)); intro gb181 hg w3 hbox hb; have n0_ := Aside0.mk (below_step (by repeat first | exact HB.out | apply pw_below_drewN) hb); have n1_ := Aside0.mk (hbox); clear HB; have HB := n0_; have BK181 := n1_; clear n0_ n1_; clear hb hbox hg) | ((with_reducible refine gate_dst (N := 3) rfl ?_); refine box_event ?hg (N := 3) ?hd (cs := #[.int .i64 a1_0, .int .i64 a1_1, .slice A1_2 l1_2.length c1_2]) (t := 49) ?hr ?_; (case hd => rfl); (case hg => rfl); (case hr => first | (go_simp; done) | (go_simp; rfl)); intro gb182 hg w4 hbox hb; have n0_ := Aside0.mk (blk_below (by exact BK181.out) hb); have n1_ := Aside0.mk (below_step (by repeat first | exact HB.out | apply pw_below_drewN) hb); have n2_ := Aside0.mk (hbox); clear BK181; clear HB; have BK181 := n0_; have HB := n1_; have BK182 := n2_; clear n0_ n1_ n2_; clear hb hbox hg))
 go_loopg [5] k (fun kq v5 w' => ∃ (x5_1 : Int), v5 = .int .i64 x5_1 ∧ Aside0 (spec_l06Fits.l0 kq x5_1 l0_0 l0_1 a1_0 a1_1 l1_2 = some r) ∧ Aside0 (kq ≤ k) ∧ Aside0 (w'.heap[gb181]? = some (.cells #[(.slice A0_0 l0_0.length c0_0), (.slice A0_1 l0_1.length c0_1)] 25 (0, 0))) ∧ Aside0 (w'.heap[gb182]? = some (.cells #[.int .i64 a1_0, .int .i64 a1_1, (.slice A1_2 l1_2.length c1_2)] 49 (0, 0))) ∧ Aside0 (Below w.heap.size w w'))
 case atStart => exact ⟨(0), (by first | rfl | (simp; done) | (simp [*]; done)), H', ⟨Nat.le_refl _⟩, ⟨by exact BK181.out⟩, ⟨by exact BK182.out⟩, ⟨by repeat first | exact HB.out | apply pw_below_drewN⟩⟩
 case round =>
  clear H'
  try clear c1
  try clear p2
  try clear c4
  obtain ⟨x5_1, rfl, HA, HK1, BK181, BK182, HB⟩ := hrel
  cases gk with
  | zero => exact absurd HA.out (by simp [spec_l06Fits.l0])
  | succ k1 =>
   have H := HA.out
   clear HA
   simp only [spec_l06Fits.l0] at H
   by_cases c5 : x5_1 < (l1_2.length : Int)
   ·rw [if_pos c5] at H
    have c5b0 : decide (x5_1 < (l1_2.length : Int)) = true := decide_eq_true c5
    clear c5
    by_cases c6 : 0 ≤ x5_1
    ·rw [if_pos c6] at H
     have c6b0 : decide (0 ≤ x5_1) = true := decide_eq_true c6
     clear c6
     replace H := Option.bind_eq_some_iff.mp H
     obtain ⟨t184, A70, H⟩ := H
     set_option simprocs false in try dsimp only at H
     have A7 := Aside0.mk A70
     clear A70
     have HC8 := Aside0.mk H
     clear H
     have hcz10_0 := (blk_cell BK182.out 0).trans rfl
     have hcz10_1 := (blk_cell BK182.out 1).trans rfl
     have hcz10_2 := (blk_cell BK182.out 2).trans rfl
     try go_wp2
     have n0_ := Aside0.mk (blk_drew BK181.out)
     have n1_ := Aside0.mk (blk_drew BK182.out)
     have n2_ := Aside0.mk (below_drew1 HB.out)
     clear BK181
     clear BK182
     clear HB
     have BK181 := n0_
     have BK182 := n1_
     have HB := n2_
     clear n0_ n1_ n2_
     have p183 : 0 ≤ (x5_1 : Int) := of_decide_eq_true (by assumption)
     have q183 : x5_1 < (l1_2.length : Int) := of_decide_eq_true (by assumption)
     obtain ⟨ad183, e183, hx183_0⟩ := Kd.at_int HR1_2.out x5_1 p183 q183
     have hw183_0 := hx183_0
     cases e183
     replace hx183_0 := (HB.out.cell (World.block_lt_of_cell? w _ hx183_0)).trans hx183_0
     replace p183 := eq_true p183
     replace q183 := eq_true q183
     refine start_ (n := 8) (S := fun w' => w'.cell? ⟨gb181, 0, none⟩ = some (.slice A0_0 l0_0.length c0_0) ∧ w'.cell? ⟨gb181, 1, none⟩ = some (.slice A0_1 l0_1.length c0_1) ∧ w'.cell? ⟨gb182, 0, none⟩ = some (.int .i64 a1_0) ∧ w'.cell? ⟨gb182, 1, none⟩ = some (.int .i64 a1_1) ∧ w'.cell? ⟨gb182, 2, none⟩ = some (.slice (some ad183) l1_2.length c1_2) ∧ w'.cell? (ad183.add (x5_1).toNat) = some (.int .i64 (rd l1_2 x5_1))) (ds := []) #[false, false, false, false, false, false, false, false] (by kernel_rfl) rfl rfl ⟨(blk_cell BK181.out 0).trans rfl, (blk_cell BK181.out 1).trans rfl, (blk_cell BK182.out 0).trans rfl, (blk_cell BK182.out 1).trans rfl, (blk_cell BK182.out 2).trans rfl, ((HB.out.cell (World.block_lt_of_cell? w _ hw183_0)).trans hw183_0)⟩ (fun hHeld => ?_); refine with_tabW spec_l06Fits.tab4 spec_l06Fits.bits4 (fun HT_ HW_ => ?_)
     generalize wr.drew = w11 at BK181 BK182 HB hx183_0 hHeld ⊢
     refine pu 1 (some 15) #[false, true, false, false, false, false, false, false] (any_of HT_.out (by kernel_rfl)) ?_
     refine pu 3 (some 17) #[false, true, false, true, false, false, false, false] (any_of HT_.out (by kernel_rfl)) ?_
     refine tk 0 (some 14) #[true, true, false, true, false, false, false, false] hHeld (take_ofW HT_.out HW_.out (by kernel_rfl)) ?_
     refine tk 2 (some 16) #[true, true, true, true, false, false, false, false] hHeld (take_ofW HT_.out HW_.out (by kernel_rfl)) ?_
     refine pu 4 (some 18) #[true, true, true, true, true, false, false, false] (any_of HT_.out (by kernel_rfl)) ?_
     refine tk 5 (some 19) #[true, true, true, true, true, true, false, false] hHeld (take_ofW HT_.out HW_.out (by kernel_rfl)) ?_
     refine one_ (i := 6) (N := some 20) #[true, true, true, true, true, true, true, false] rfl rfl (one_of HT_.out (by kernel_rfl)) (by decide) (fun K hK => ?_)
     refine goes_ Tryz.func60 (by kernel_rfl) rfl #[.agg #[.slice A0_0 l0_0.length c0_0, .slice A0_1 l0_1.length c0_1], .int .i64 (rd l1_2 x5_1)] (by rfl) rfl rfl (by (try simp only [List.map_toArray, List.map_cons, List.map_nil]); first | done | rfl) ?_
     with_reducible refine (spec_l06Kind.calls k1 _ _ l0_0 _ _ l0_1 (rd l1_2 x5_1) t184 _ ?side1 ?side2 ?side3 ?side4 A7.out).mono ?_
     (case side1 => exact (Kd.C_below HR0_0.out HB.out))
     (case side2 => exact HC0_0.out)
     (case side3 => exact (Kd.C_below HR0_1.out HB.out))
     (case side4 => exact HC0_1.out)
     rintro e w12 ⟨rfl, hb⟩
     refine ⟨_, rfl, ?_⟩
     have n0_ := Aside0.mk (blk_below (by exact BK181.out) hb)
     have n1_ := Aside0.mk (blk_below (by exact BK182.out) hb)
     have n2_ := Aside0.mk (below_step (by repeat first | exact HB.out | apply pw_below_drewN) hb)
     clear BK181
     clear BK182
     clear HB
     have BK181 := n0_
     have BK182 := n1_
     have HB := n2_
     clear n0_ n1_ n2_
     (try clear hb)
     (try clear hb2)
     (try clear hk)
     (try clear hi)
     refine hK.out _ _ ⟨(blk_cell BK181.out 0).trans rfl, (blk_cell BK181.out 1).trans rfl, (blk_cell BK182.out 0).trans rfl, (blk_cell BK182.out 1).trans rfl, (blk_cell BK182.out 2).trans rfl, ((HB.out.cell (World.block_lt_of_cell? w _ hw183_0)).trans hw183_0)⟩ (fun hHeld => ?_)
     clear hK K
     refine norm_ (a' := ?_) ?_ ?_
     (rotate_left; ·(show Act.put _ (some 20) _ = _; simp only [Act.put, pq_z47]; rfl))
     refine pu 7 (some 6) #[true, true, true, true, true, true, true, true] (any_of HT_.out (by kernel_rfl)) ?_
     refine done_ (done_of HT_.out (by kernel_rfl)) ?_
     go_upto_region 5 with (fail)
     go_cut [30] (fun v30 wc => ∃ (kq : Nat) (x30_7 : Bool), v30 = .bool x30_7 ∧ Aside0 (spec_l06Fits.j1 kq x5_1 t184 x30_7 l0_0 l0_1 a1_0 a1_1 l1_2 = some r) ∧ Aside0 (kq ≤ k1) ∧ Aside0 (wc.heap[gb181]? = some (.cells #[(.slice A0_0 l0_0.length c0_0), (.slice A0_1 l0_1.length c0_1)] 25 (0, 0))) ∧ Aside0 (wc.heap[gb182]? = some (.cells #[.int .i64 a1_0, .int .i64 a1_1, (.slice (some ad183) l1_2.length c1_2)] 49 (0, 0))) ∧ Aside0 (Below w.heap.size w wc))
     case first =>
      have H := HC8.out
      clear HC8
      by_cases c13 : a1_1 < 3
      ·rw [if_pos c13] at H
       have c13b0 : decide (a1_1 < 3) = true := decide_eq_true c13
       clear c13
       (first | rw [c13b0] | (simp only [i64_w, i32_w]; rw [c13b0]) | skip)
       have H' := Aside0.mk H
       clear H
       have hcz15_0 := (blk_cell BK182.out 0).trans rfl
       have hcz15_1 := (blk_cell BK182.out 1).trans rfl
       have hcz15_2 := (blk_cell BK182.out 2).trans rfl
       go_wp2
       go_meet
       case rel => exact ⟨_, ((t184 != (wrap64 (a1_1 - 1)))), (by first | rfl | (simp; done) | (simp [*]; done)), H', ⟨by have := HK1.out; first | omega | exact Nat.le_refl _⟩, ⟨by exact BK181.out⟩, ⟨by exact BK182.out⟩, ⟨by repeat first | exact HB.out | apply pw_below_drewN⟩⟩
      ·rw [if_neg c13] at H
       have c13b0 : decide (a1_1 < 3) = false := decide_eq_false c13
       clear c13
       (first | rw [c13b0] | (simp only [i64_w, i32_w]; rw [c13b0]) | skip)
       have H' := Aside0.mk H
       clear H
       have hcz17_0 := (blk_cell BK182.out 0).trans rfl
       have hcz17_1 := (blk_cell BK182.out 1).trans rfl
       have hcz17_2 := (blk_cell BK182.out 2).trans rfl
       go_wp2
       go_meet
       case rel => exact ⟨_, (false), (by first | rfl | (simp; done) | (simp [*]; done)), H', ⟨by have := HK1.out; first | omega | exact Nat.le_refl _⟩, ⟨by exact BK181.out⟩, ⟨by exact BK182.out⟩, ⟨by repeat first | exact HB.out | apply pw_below_drewN⟩⟩
     case rest =>
      clear HC8
      try clear c1
      try clear p1
      try clear q1
      try clear hx1
      try clear p2
      try clear c4
      try clear c5
      try clear c5b0
      try clear c6
      try clear c6b0
      try clear p6
      try clear c9
      try clear c13
      try clear c13b0
      try clear c14
      try clear c16
      try clear hcz10_0
      try clear hcz10_1
      try clear hcz10_2
      try clear hcz15_0
      try clear hcz15_1
      try clear hcz15_2
      try clear hcz17_0
      try clear hcz17_1
      try clear hcz17_2
      try clear hx183_0
      try clear p183
      try clear p2
      try clear q183
      obtain ⟨kq, x30_7, rfl, HA, HJ7, BK181, BK182, HB⟩ := hcut
      cases kq with
      | zero => exact absurd HA.out (by simp [spec_l06Fits.j1])
      | succ kj7 =>
       have H := HA.out
       clear HA
       simp only [spec_l06Fits.j1] at H
       by_cases c18 : x30_7 = true
       ·subst c18
        rw [if_pos rfl] at H
        obtain rfl := Option.some.inj H
        go_wp2
        go_ret
        exact ⟨by first | rfl | (simp [*, errW_none, errW_some] <;> rfl), by repeat first | exact HB.out | apply pw_below_drewN⟩
       ·replace c18 := Bool.eq_false_iff.mpr c18
        subst c18
        rw [if_neg (show ¬ (false = true) by decide)] at H
        by_cases c19 : a1_1 = 3
        ·rw [if_pos c19] at H
         have c19b0 : (a1_1 == 3) = true := beq_iff_eq.mpr c19
         have c19b1 : (a1_1 != 3) = false := bne_eq_false_iff_eq.mpr c19
         clear c19
         by_cases c20 : 0 < (l1_2.length : Int)
         ·rw [if_pos c20] at H
          have c20b0 : decide (0 < (l1_2.length : Int)) = true := decide_eq_true c20
          have c20b1 : decide (0 < l1_2.length) = true := decide_eq_true (by omega)
          clear c20
          replace H := Option.bind_eq_some_iff.mp H
          obtain ⟨t186, A210, H⟩ := H
          set_option simprocs false in try dsimp only at H
          have A21 := Aside0.mk A210
          clear A210
          by_cases c22 : t184 = t186
          ·rw [if_pos c22] at H
           have c22b0 : (t184 == t186) = true := beq_iff_eq.mpr c22
           have c22b1 : (t184 != t186) = false := bne_eq_false_iff_eq.mpr c22
           clear c22
           by_cases c23 : t184 = 1
           ·rw [if_pos c23] at H
            have c23b0 : (t184 == 1) = true := beq_iff_eq.mpr c23
            have c23b1 : (t184 != 1) = false := bne_eq_false_iff_eq.mpr c23
            clear c23
            have H' := Aside0.mk H
            clear H
            try go_wp2
            have n0_ := Aside0.mk (blk_drew BK181.out)
            have n1_ := Aside0.mk (blk_drew BK182.out)
            have n2_ := Aside0.mk (below_drew1 HB.out)
            clear BK181
            clear BK182
            clear HB
            have BK181 := n0_
            have BK182 := n1_
            have HB := n2_
            clear n0_ n1_ n2_
            have p185 : 0 ≤ (0 : Int) := (by omega)
            have q185 : 0 < (l1_2.length : Int) := of_decide_eq_true (by assumption)
            obtain ⟨ad185, e185, hx185_0⟩ := Kd.at_int HR1_2.out 0 p185 q185
            have hw185_0 := hx185_0
            (try rw [show ((0 : Int)).toNat = 0 from rfl] at hw185_0)
            (try rw [show 0 * 1 = 0 from rfl] at hw185_0)
            (try rw [Addr.add_zero'] at hw185_0)
            obtain rfl : ad183 = ad185 := (by injection e185)
            have qi185 : (0 < l1_2.length) = True := eq_true (by omega)
            (try rw [show ((0 : Int)).toNat = 0 from rfl] at hx185_0)
            (try rw [Addr.add_zero'] at hx185_0)
            replace hx185_0 := (HB.out.cell (World.block_lt_of_cell? w _ hx185_0)).trans hx185_0
            replace p185 := eq_true p185
            replace q185 := eq_true q185
            refine start_ (n := 21) (S := fun w' => w'.cell? ⟨gb182, 0, none⟩ = some (.int .i64 a1_0) ∧ w'.cell? ⟨gb182, 1, none⟩ = some (.int .i64 a1_1) ∧ w'.cell? ⟨gb182, 2, none⟩ = some (.slice (some ad183) l1_2.length c1_2) ∧ w'.cell? ⟨gb181, 0, none⟩ = some (.slice A0_0 l0_0.length c0_0) ∧ w'.cell? ⟨gb181, 1, none⟩ = some (.slice A0_1 l0_1.length c0_1) ∧ w'.cell? ad183 = some (.int .i64 (rd l1_2 0))) (ds := []) mz47_0 (by kernel_rfl) rfl rfl ⟨(blk_cell BK182.out 0).trans rfl, (blk_cell BK182.out 1).trans rfl, (blk_cell BK182.out 2).trans rfl, (blk_cell BK181.out 0).trans rfl, (blk_cell BK181.out 1).trans rfl, ((HB.out.cell (World.block_lt_of_cell? w _ hw185_0)).trans hw185_0)⟩ (fun hHeld => ?_); refine with_tabW spec_l06Fits.tab7 spec_l06Fits.bits7 (fun HT_ HW_ => ?_)
            generalize wc.drew = w24 at BK181 BK182 HB hx185_0 hHeld ⊢
            refine pu 0 (some 31) mz47_1 (any_of HT_.out (by kernel_rfl)) ?_
            refine tk 1 (some 32) mz47_2 hHeld (take_ofW HT_.out HW_.out (by kernel_rfl)) ?_
            refine pu 2 (some 33) mz47_3 (any_of HT_.out (by kernel_rfl)) ?_
            refine pu 3 (some 34) mz47_4 (any_of HT_.out (by kernel_rfl)) ?_
            refine pu 4 (some 35) mz47_5 (any_of HT_.out (by kernel_rfl)) ?_
            refine pu 6 (some 37) mz47_6 (any_of HT_.out (by kernel_rfl)) ?_
            refine tk 5 (some 36) mz47_7 hHeld (take_ofW HT_.out HW_.out (by kernel_rfl)) ?_
            refine tk 7 (some 38) mz47_8 hHeld (take_ofW HT_.out HW_.out (by kernel_rfl)) ?_
            refine pu 8 (some 39) mz47_9 (any_of HT_.out (by kernel_rfl)) ?_
            refine tk 9 (some 40) mz47_10 hHeld (take_ofW HT_.out HW_.out (by kernel_rfl)) ?_
            refine one_ (i := 10) (N := some 41) mz47_11 rfl rfl (one_of HT_.out (by kernel_rfl)) (by decide) (fun K hK => ?_)
            refine goes_ Tryz.func60 (by kernel_rfl) rfl #[.agg #[.slice A0_0 l0_0.length c0_0, .slice A0_1 l0_1.length c0_1], .int .i64 (rd l1_2 0)] (by rfl) rfl rfl (by (try simp only [List.map_toArray, List.map_cons, List.map_nil]); first | done | rfl) ?_
            with_reducible refine (spec_l06Kind.calls kj7 _ _ l0_0 _ _ l0_1 (rd l1_2 0) t186 _ ?side1 ?side2 ?side3 ?side4 A21.out).mono ?_
            (case side1 => exact (Kd.C_below HR0_0.out HB.out))
            (case side2 => exact HC0_0.out)
            (case side3 => exact (Kd.C_below HR0_1.out HB.out))
            (case side4 => exact HC0_1.out)
            rintro e w25 ⟨rfl, hb⟩
            refine ⟨_, rfl, ?_⟩
            have n0_ := Aside0.mk (blk_below (by exact BK181.out) hb)
            have n1_ := Aside0.mk (blk_below (by exact BK182.out) hb)
            have n2_ := Aside0.mk (below_step (by repeat first | exact HB.out | apply pw_below_drewN) hb)
            clear BK181
            clear BK182
            clear HB
            have BK181 := n0_
            have BK182 := n1_
            have HB := n2_
            clear n0_ n1_ n2_
            (try clear hb)
            (try clear hb2)
            (try clear hk)
            (try clear hi)
            refine hK.out _ _ ⟨(blk_cell BK182.out 0).trans rfl, (blk_cell BK182.out 1).trans rfl, (blk_cell BK182.out 2).trans rfl, (blk_cell BK181.out 0).trans rfl, (blk_cell BK181.out 1).trans rfl, ((HB.out.cell (World.block_lt_of_cell? w _ hw185_0)).trans hw185_0)⟩ (fun hHeld => ?_)
            clear hK K
            refine norm_ (a' := ?_) ?_ ?_
            (rotate_left; ·(show Act.put _ (some 41) _ = _; simp only [Act.put, pq_z47]; rfl))
            refine pu 11 (some 42) mz47_12 (any_of HT_.out (by kernel_rfl)) ?_
            refine pu 12 (some 43) mz47_13 (any_of HT_.out (by kernel_rfl)) ?_
            refine pu 13 (some 44) mz47_14 (any_of HT_.out (by kernel_rfl)) ?_
            refine pu 14 (some 45) mz47_15 (any_of HT_.out (by kernel_rfl)) ?_
            refine pu 15 (some 46) mz47_16 (any_of HT_.out (by kernel_rfl)) ?_
            refine po 16 (some 47) mz47_17 (any_of HT_.out (by kernel_rfl)) ?_
            refine po 17 (some 48) mz47_18 (any_of HT_.out (by kernel_rfl)) ?_
            refine pu 18 (some 49) mz47_19 (any_of HT_.out (by kernel_rfl)) ?_
            refine pu 19 (some 50) mz47_20 (any_of HT_.out (by kernel_rfl)) ?_
            refine pu 20 (some 51) mz47_21 (any_of HT_.out (by kernel_rfl)) ?_
            refine done_ (done_of HT_.out (by kernel_rfl)) ?_
            try go_wp2
            go_roundg kj7
            case measure => have := HK1.out; have := HJ7.out; omega
            case rel => exact ⟨(wrap64 (x5_1 + 1)), (by first | rfl | (simp; done) | (simp [*]; done)), H', ⟨by have := HK1.out; have := HJ7.out; omega⟩, ⟨by exact BK181.out⟩, ⟨by exact BK182.out⟩, ⟨by repeat first | exact HB.out | apply pw_below_drewN⟩⟩
           ·rw [if_neg c23] at H
            have c23b0 : (t184 == 1) = false := beq_eq_false_iff_ne.mpr c23
            have c23b1 : (t184 != 1) = true := bne_iff_ne.mpr c23
            by_cases c26 : t184 = 2
            ·rw [if_pos c26] at H
             have c26b0 : (t184 == 2) = true := beq_iff_eq.mpr c26
             have c26b1 : (t184 != 2) = false := bne_eq_false_iff_eq.mpr c26
             clear c26
             have H' := Aside0.mk H
             clear H
             try go_wp2
             have n0_ := Aside0.mk (blk_drew BK181.out)
             have n1_ := Aside0.mk (blk_drew BK182.out)
             have n2_ := Aside0.mk (below_drew1 HB.out)
             clear BK181
             clear BK182
             clear HB
             have BK181 := n0_
             have BK182 := n1_
             have HB := n2_
             clear n0_ n1_ n2_
             have p185 : 0 ≤ (0 : Int) := (by omega)
             have q185 : 0 < (l1_2.length : Int) := of_decide_eq_true (by assumption)
             obtain ⟨ad185, e185, hx185_0⟩ := Kd.at_int HR1_2.out 0 p185 q185
             have hw185_0 := hx185_0
             (try rw [show ((0 : Int)).toNat = 0 from rfl] at hw185_0)
             (try rw [show 0 * 1 = 0 from rfl] at hw185_0)
             (try rw [Addr.add_zero'] at hw185_0)
             obtain rfl : ad183 = ad185 := (by injection e185)
             have qi185 : (0 < l1_2.length) = True := eq_true (by omega)
             (try rw [show ((0 : Int)).toNat = 0 from rfl] at hx185_0)
             (try rw [Addr.add_zero'] at hx185_0)
             replace hx185_0 := (HB.out.cell (World.block_lt_of_cell? w _ hx185_0)).trans hx185_0
             replace p185 := eq_true p185
             replace q185 := eq_true q185
             refine start_ (n := 21) (S := fun w' => w'.cell? ⟨gb182, 0, none⟩ = some (.int .i64 a1_0) ∧ w'.cell? ⟨gb182, 1, none⟩ = some (.int .i64 a1_1) ∧ w'.cell? ⟨gb182, 2, none⟩ = some (.slice (some ad183) l1_2.length c1_2) ∧ w'.cell? ⟨gb181, 0, none⟩ = some (.slice A0_0 l0_0.length c0_0) ∧ w'.cell? ⟨gb181, 1, none⟩ = some (.slice A0_1 l0_1.length c0_1) ∧ w'.cell? ad183 = some (.int .i64 (rd l1_2 0))) (ds := []) mz47_0 (by kernel_rfl) rfl rfl ⟨(blk_cell BK182.out 0).trans rfl, (blk_cell BK182.out 1).trans rfl, (blk_cell BK182.out 2).trans rfl, (blk_cell BK181.out 0).trans rfl, (blk_cell BK181.out 1).trans rfl, ((HB.out.cell (World.block_lt_of_cell? w _ hw185_0)).trans hw185_0)⟩ (fun hHeld => ?_); refine with_tabW spec_l06Fits.tab7 spec_l06Fits.bits7 (fun HT_ HW_ => ?_)
             generalize wc.drew = w27 at BK181 BK182 HB hx185_0 hHeld ⊢
             refine pu 0 (some 31) mz47_1 (any_of HT_.out (by kernel_rfl)) ?_
             refine tk 1 (some 32) mz47_2 hHeld (take_ofW HT_.out HW_.out (by kernel_rfl)) ?_
             refine pu 2 (some 33) mz47_3 (any_of HT_.out (by kernel_rfl)) ?_
             refine pu 3 (some 34) mz47_4 (any_of HT_.out (by kernel_rfl)) ?_
             refine pu 4 (some 35) mz47_5 (any_of HT_.out (by kernel_rfl)) ?_
             refine pu 6 (some 37) mz47_6 (any_of HT_.out (by kernel_rfl)) ?_
             refine tk 5 (some 36) mz47_7 hHeld (take_ofW HT_.out HW_.out (by kernel_rfl)) ?_
             refine tk 7 (some 38) mz47_8 hHeld (take_ofW HT_.out HW_.out (by kernel_rfl)) ?_
             refine pu 8 (some 39) mz47_9 (any_of HT_.out (by kernel_rfl)) ?_
             refine tk 9 (some 40) mz47_10 hHeld (take_ofW HT_.out HW_.out (by kernel_rfl)) ?_
             refine one_ (i := 10) (N := some 41) mz47_11 rfl rfl (one_of HT_.out (by kernel_rfl)) (by decide) (fun K hK => ?_)
             refine goes_ Tryz.func60 (by kernel_rfl) rfl #[.agg #[.slice A0_0 l0_0.length c0_0, .slice A0_1 l0_1.length c0_1], .int .i64 (rd l1_2 0)] (by rfl) rfl rfl (by (try simp only [List.map_toArray, List.map_cons, List.map_nil]); first | done | rfl) ?_
             with_reducible refine (spec_l06Kind.calls kj7 _ _ l0_0 _ _ l0_1 (rd l1_2 0) t186 _ ?side1 ?side2 ?side3 ?side4 A21.out).mono ?_
             (case side1 => exact (Kd.C_below HR0_0.out HB.out))
             (case side2 => exact HC0_0.out)
             (case side3 => exact (Kd.C_below HR0_1.out HB.out))
             (case side4 => exact HC0_1.out)
             rintro e w28 ⟨rfl, hb⟩
             refine ⟨_, rfl, ?_⟩
             have n0_ := Aside0.mk (blk_below (by exact BK181.out) hb)
             have n1_ := Aside0.mk (blk_below (by exact BK182.out) hb)
             have n2_ := Aside0.mk (below_step (by repeat first | exact HB.out | apply pw_below_drewN) hb)
             clear BK181
             clear BK182
             clear HB
             have BK181 := n0_
             have BK182 := n1_
             have HB := n2_
             clear n0_ n1_ n2_
             (try clear hb)
             (try clear hb2)
             (try clear hk)
             (try clear hi)
             refine hK.out _ _ ⟨(blk_cell BK182.out 0).trans rfl, (blk_cell BK182.out 1).trans rfl, (blk_cell BK182.out 2).trans rfl, (blk_cell BK181.out 0).trans rfl, (blk_cell BK181.out 1).trans rfl, ((HB.out.cell (World.block_lt_of_cell? w _ hw185_0)).trans hw185_0)⟩ (fun hHeld => ?_)
             clear hK K
             refine norm_ (a' := ?_) ?_ ?_
             (rotate_left; ·(show Act.put _ (some 41) _ = _; simp only [Act.put, pq_z47]; rfl))
             refine pu 11 (some 42) mz47_12 (any_of HT_.out (by kernel_rfl)) ?_
             refine pu 12 (some 43) mz47_13 (any_of HT_.out (by kernel_rfl)) ?_
             refine pu 13 (some 44) mz47_14 (any_of HT_.out (by kernel_rfl)) ?_
             refine pu 14 (some 45) mz47_15 (any_of HT_.out (by kernel_rfl)) ?_
             refine pu 15 (some 46) mz47_16 (any_of HT_.out (by kernel_rfl)) ?_
             refine pu 16 (some 47) mz47_17 (any_of HT_.out (by kernel_rfl)) ?_
             refine pu 17 (some 48) mz47_18 (any_of HT_.out (by kernel_rfl)) ?_
             refine pu 18 (some 49) mz47_19 (any_of HT_.out (by kernel_rfl)) ?_
             refine pu 19 (some 50) mz47_20 (any_of HT_.out (by kernel_rfl)) ?_
             refine pu 20 (some 51) mz47_21 (any_of HT_.out (by kernel_rfl)) ?_
             refine done_ (done_of HT_.out (by kernel_rfl)) ?_
             try go_wp2
             go_roundg kj7
             case measure => have := HK1.out; have := HJ7.out; omega
             case rel => exact ⟨(wrap64 (x5_1 + 1)), (by first | rfl | (simp; done) | (simp [*]; done)), H', ⟨by have := HK1.out; have := HJ7.out; omega⟩, ⟨by exact BK181.out⟩, ⟨by exact BK182.out⟩, ⟨by repeat first | exact HB.out | apply pw_below_drewN⟩⟩
            ·rw [if_neg c26] at H
             have c26b0 : (t184 == 2) = false := beq_eq_false_iff_ne.mpr c26
             have c26b1 : (t184 != 2) = true := bne_iff_ne.mpr c26
             obtain rfl := Option.some.inj H
             try go_wp2
             have n0_ := Aside0.mk (blk_drew BK181.out)
             have n1_ := Aside0.mk (blk_drew BK182.out)
             have n2_ := Aside0.mk (below_drew1 HB.out)
             clear BK181
             clear BK182
             clear HB
             have BK181 := n0_
             have BK182 := n1_
             have HB := n2_
             clear n0_ n1_ n2_
             have p185 : 0 ≤ (0 : Int) := (by omega)
             have q185 : 0 < (l1_2.length : Int) := of_decide_eq_true (by assumption)
             obtain ⟨ad185, e185, hx185_0⟩ := Kd.at_int HR1_2.out 0 p185 q185
             have hw185_0 := hx185_0
             (try rw [show ((0 : Int)).toNat = 0 from rfl] at hw185_0)
             (try rw [show 0 * 1 = 0 from rfl] at hw185_0)
             (try rw [Addr.add_zero'] at hw185_0)
             obtain rfl : ad183 = ad185 := (by injection e185)
             have qi185 : (0 < l1_2.length) = True := eq_true (by omega)
             (try rw [show ((0 : Int)).toNat = 0 from rfl] at hx185_0)
             (try rw [Addr.add_zero'] at hx185_0)
             replace hx185_0 := (HB.out.cell (World.block_lt_of_cell? w _ hx185_0)).trans hx185_0
             replace p185 := eq_true p185
             replace q185 := eq_true q185
             refine start_ (n := 21) (S := fun w' => w'.cell? ⟨gb182, 0, none⟩ = some (.int .i64 a1_0) ∧ w'.cell? ⟨gb182, 1, none⟩ = some (.int .i64 a1_1) ∧ w'.cell? ⟨gb182, 2, none⟩ = some (.slice (some ad183) l1_2.length c1_2) ∧ w'.cell? ⟨gb181, 0, none⟩ = some (.slice A0_0 l0_0.length c0_0) ∧ w'.cell? ⟨gb181, 1, none⟩ = some (.slice A0_1 l0_1.length c0_1) ∧ w'.cell? ad183 = some (.int .i64 (rd l1_2 0))) (ds := []) mz47_0 (by kernel_rfl) rfl rfl ⟨(blk_cell BK182.out 0).trans rfl, (blk_cell BK182.out 1).trans rfl, (blk_cell BK182.out 2).trans rfl, (blk_cell BK181.out 0).trans rfl, (blk_cell BK181.out 1).trans rfl, ((HB.out.cell (World.block_lt_of_cell? w _ hw185_0)).trans hw185_0)⟩ (fun hHeld => ?_); refine with_tabW spec_l06Fits.tab7 spec_l06Fits.bits7 (fun HT_ HW_ => ?_)
             generalize wc.drew = w29 at BK181 BK182 HB hx185_0 hHeld ⊢
             refine pu 0 (some 31) mz47_1 (any_of HT_.out (by kernel_rfl)) ?_
             refine tk 1 (some 32) mz47_2 hHeld (take_ofW HT_.out HW_.out (by kernel_rfl)) ?_
             refine pu 2 (some 33) mz47_3 (any_of HT_.out (by kernel_rfl)) ?_
             refine pu 3 (some 34) mz47_4 (any_of HT_.out (by kernel_rfl)) ?_
             refine pu 4 (some 35) mz47_5 (any_of HT_.out (by kernel_rfl)) ?_
             refine pu 6 (some 37) mz47_6 (any_of HT_.out (by kernel_rfl)) ?_
             refine tk 5 (some 36) mz47_7 hHeld (take_ofW HT_.out HW_.out (by kernel_rfl)) ?_
             refine tk 7 (some 38) mz47_8 hHeld (take_ofW HT_.out HW_.out (by kernel_rfl)) ?_
             refine pu 8 (some 39) mz47_9 (any_of HT_.out (by kernel_rfl)) ?_
             refine tk 9 (some 40) mz47_10 hHeld (take_ofW HT_.out HW_.out (by kernel_rfl)) ?_
             refine one_ (i := 10) (N := some 41) mz47_11 rfl rfl (one_of HT_.out (by kernel_rfl)) (by decide) (fun K hK => ?_)
             refine goes_ Tryz.func60 (by kernel_rfl) rfl #[.agg #[.slice A0_0 l0_0.length c0_0, .slice A0_1 l0_1.length c0_1], .int .i64 (rd l1_2 0)] (by rfl) rfl rfl (by (try simp only [List.map_toArray, List.map_cons, List.map_nil]); first | done | rfl) ?_
             with_reducible refine (spec_l06Kind.calls kj7 _ _ l0_0 _ _ l0_1 (rd l1_2 0) t186 _ ?side1 ?side2 ?side3 ?side4 A21.out).mono ?_
             (case side1 => exact (Kd.C_below HR0_0.out HB.out))
             (case side2 => exact HC0_0.out)
             (case side3 => exact (Kd.C_below HR0_1.out HB.out))
             (case side4 => exact HC0_1.out)
             rintro e w30 ⟨rfl, hb⟩
             refine ⟨_, rfl, ?_⟩
             have n0_ := Aside0.mk (blk_below (by exact BK181.out) hb)
             have n1_ := Aside0.mk (blk_below (by exact BK182.out) hb)
             have n2_ := Aside0.mk (below_step (by repeat first | exact HB.out | apply pw_below_drewN) hb)
             clear BK181
             clear BK182
             clear HB
             have BK181 := n0_
             have BK182 := n1_
             have HB := n2_
             clear n0_ n1_ n2_
             (try clear hb)
             (try clear hb2)
             (try clear hk)
             (try clear hi)
             refine hK.out _ _ ⟨(blk_cell BK182.out 0).trans rfl, (blk_cell BK182.out 1).trans rfl, (blk_cell BK182.out 2).trans rfl, (blk_cell BK181.out 0).trans rfl, (blk_cell BK181.out 1).trans rfl, ((HB.out.cell (World.block_lt_of_cell? w _ hw185_0)).trans hw185_0)⟩ (fun hHeld => ?_)
             clear hK K
             refine norm_ (a' := ?_) ?_ ?_
             (rotate_left; ·(show Act.put _ (some 41) _ = _; simp only [Act.put, pq_z47]; rfl))
             refine pu 11 (some 42) mz47_12 (any_of HT_.out (by kernel_rfl)) ?_
             refine pu 12 (some 43) mz47_13 (any_of HT_.out (by kernel_rfl)) ?_
             refine pu 13 (some 44) mz47_14 (any_of HT_.out (by kernel_rfl)) ?_
             refine pu 14 (some 45) mz47_15 (any_of HT_.out (by kernel_rfl)) ?_
             refine pu 15 (some 46) mz47_16 (any_of HT_.out (by kernel_rfl)) ?_
             refine pu 16 (some 47) mz47_17 (any_of HT_.out (by kernel_rfl)) ?_
             refine pu 17 (some 48) mz47_18 (any_of HT_.out (by kernel_rfl)) ?_
             refine pu 18 (some 49) mz47_19 (any_of HT_.out (by kernel_rfl)) ?_
             refine pu 19 (some 50) mz47_20 (any_of HT_.out (by kernel_rfl)) ?_
             refine pu 20 (some 51) mz47_21 (any_of HT_.out (by kernel_rfl)) ?_
             refine done_ (done_of HT_.out (by kernel_rfl)) ?_
             try go_wp2
             go_ret
             exact ⟨by first | rfl | (simp [*, errW_none, errW_some] <;> rfl), by repeat first | exact HB.out | apply pw_below_drewN⟩
          ·rw [if_neg c22] at H
           have c22b0 : (t184 == t186) = false := beq_eq_false_iff_ne.mpr c22
           have c22b1 : (t184 != t186) = true := bne_iff_ne.mpr c22
           obtain rfl := Option.some.inj H
           try go_wp2
           have n0_ := Aside0.mk (blk_drew BK181.out)
           have n1_ := Aside0.mk (blk_drew BK182.out)
           have n2_ := Aside0.mk (below_drew1 HB.out)
           clear BK181
           clear BK182
           clear HB
           have BK181 := n0_
           have BK182 := n1_
           have HB := n2_
           clear n0_ n1_ n2_
           have p185 : 0 ≤ (0 : Int) := (by omega)
           have q185 : 0 < (l1_2.length : Int) := of_decide_eq_true (by assumption)
           obtain ⟨ad185, e185, hx185_0⟩ := Kd.at_int HR1_2.out 0 p185 q185
           have hw185_0 := hx185_0
           (try rw [show ((0 : Int)).toNat = 0 from rfl] at hw185_0)
           (try rw [show 0 * 1 = 0 from rfl] at hw185_0)
           (try rw [Addr.add_zero'] at hw185_0)
           obtain rfl : ad183 = ad185 := (by injection e185)
           have qi185 : (0 < l1_2.length) = True := eq_true (by omega)
           (try rw [show ((0 : Int)).toNat = 0 from rfl] at hx185_0)
           (try rw [Addr.add_zero'] at hx185_0)
           replace hx185_0 := (HB.out.cell (World.block_lt_of_cell? w _ hx185_0)).trans hx185_0
           replace p185 := eq_true p185
           replace q185 := eq_true q185
           refine start_ (n := 21) (S := fun w' => w'.cell? ⟨gb182, 0, none⟩ = some (.int .i64 a1_0) ∧ w'.cell? ⟨gb182, 1, none⟩ = some (.int .i64 a1_1) ∧ w'.cell? ⟨gb182, 2, none⟩ = some (.slice (some ad183) l1_2.length c1_2) ∧ w'.cell? ⟨gb181, 0, none⟩ = some (.slice A0_0 l0_0.length c0_0) ∧ w'.cell? ⟨gb181, 1, none⟩ = some (.slice A0_1 l0_1.length c0_1) ∧ w'.cell? ad183 = some (.int .i64 (rd l1_2 0))) (ds := []) mz47_0 (by kernel_rfl) rfl rfl ⟨(blk_cell BK182.out 0).trans rfl, (blk_cell BK182.out 1).trans rfl, (blk_cell BK182.out 2).trans rfl, (blk_cell BK181.out 0).trans rfl, (blk_cell BK181.out 1).trans rfl, ((HB.out.cell (World.block_lt_of_cell? w _ hw185_0)).trans hw185_0)⟩ (fun hHeld => ?_); refine with_tabW spec_l06Fits.tab7 spec_l06Fits.bits7 (fun HT_ HW_ => ?_)
           generalize wc.drew = w31 at BK181 BK182 HB hx185_0 hHeld ⊢
           refine pu 0 (some 31) mz47_1 (any_of HT_.out (by kernel_rfl)) ?_
           refine tk 1 (some 32) mz47_2 hHeld (take_ofW HT_.out HW_.out (by kernel_rfl)) ?_
           refine pu 2 (some 33) mz47_3 (any_of HT_.out (by kernel_rfl)) ?_
           refine pu 3 (some 34) mz47_4 (any_of HT_.out (by kernel_rfl)) ?_
           refine pu 4 (some 35) mz47_5 (any_of HT_.out (by kernel_rfl)) ?_
           refine pu 6 (some 37) mz47_6 (any_of HT_.out (by kernel_rfl)) ?_
           refine tk 5 (some 36) mz47_7 hHeld (take_ofW HT_.out HW_.out (by kernel_rfl)) ?_
           refine tk 7 (some 38) mz47_8 hHeld (take_ofW HT_.out HW_.out (by kernel_rfl)) ?_
           refine pu 8 (some 39) mz47_9 (any_of HT_.out (by kernel_rfl)) ?_
           refine tk 9 (some 40) mz47_10 hHeld (take_ofW HT_.out HW_.out (by kernel_rfl)) ?_
           refine one_ (i := 10) (N := some 41) mz47_11 rfl rfl (one_of HT_.out (by kernel_rfl)) (by decide) (fun K hK => ?_)
           refine goes_ Tryz.func60 (by kernel_rfl) rfl #[.agg #[.slice A0_0 l0_0.length c0_0, .slice A0_1 l0_1.length c0_1], .int .i64 (rd l1_2 0)] (by rfl) rfl rfl (by (try simp only [List.map_toArray, List.map_cons, List.map_nil]); first | done | rfl) ?_
           with_reducible refine (spec_l06Kind.calls kj7 _ _ l0_0 _ _ l0_1 (rd l1_2 0) t186 _ ?side1 ?side2 ?side3 ?side4 A21.out).mono ?_
           (case side1 => exact (Kd.C_below HR0_0.out HB.out))
           (case side2 => exact HC0_0.out)
           (case side3 => exact (Kd.C_below HR0_1.out HB.out))
           (case side4 => exact HC0_1.out)
           rintro e w32 ⟨rfl, hb⟩
           refine ⟨_, rfl, ?_⟩
           have n0_ := Aside0.mk (blk_below (by exact BK181.out) hb)
           have n1_ := Aside0.mk (blk_below (by exact BK182.out) hb)
           have n2_ := Aside0.mk (below_step (by repeat first | exact HB.out | apply pw_below_drewN) hb)
           clear BK181
           clear BK182
           clear HB
           have BK181 := n0_
           have BK182 := n1_
           have HB := n2_
           clear n0_ n1_ n2_
           (try clear hb)
           (try clear hb2)
           (try clear hk)
           (try clear hi)
           refine hK.out _ _ ⟨(blk_cell BK182.out 0).trans rfl, (blk_cell BK182.out 1).trans rfl, (blk_cell BK182.out 2).trans rfl, (blk_cell BK181.out 0).trans rfl, (blk_cell BK181.out 1).trans rfl, ((HB.out.cell (World.block_lt_of_cell? w _ hw185_0)).trans hw185_0)⟩ (fun hHeld => ?_)
           clear hK K
           refine norm_ (a' := ?_) ?_ ?_
           (rotate_left; ·(show Act.put _ (some 41) _ = _; simp only [Act.put, pq_z47]; rfl))
           refine pu 11 (some 42) mz47_12 (any_of HT_.out (by kernel_rfl)) ?_
           refine pu 12 (some 43) mz47_13 (any_of HT_.out (by kernel_rfl)) ?_
           refine po 13 (some 44) mz47_14 (any_of HT_.out (by kernel_rfl)) ?_
           refine po 14 (some 45) mz47_15 (any_of HT_.out (by kernel_rfl)) ?_
           refine po 15 (some 46) mz47_16 (any_of HT_.out (by kernel_rfl)) ?_
           refine po 16 (some 47) mz47_17 (any_of HT_.out (by kernel_rfl)) ?_
           refine po 17 (some 48) mz47_18 (any_of HT_.out (by kernel_rfl)) ?_
           refine po 18 (some 49) mz47_19 (any_of HT_.out (by kernel_rfl)) ?_
           refine pu 19 (some 50) mz47_20 (any_of HT_.out (by kernel_rfl)) ?_
           refine pu 20 (some 51) mz47_21 (any_of HT_.out (by kernel_rfl)) ?_
           refine done_ (done_of HT_.out (by kernel_rfl)) ?_
           try go_wp2
           go_ret
           exact ⟨by first | rfl | (simp [*, errW_none, errW_some] <;> rfl), by repeat first | exact HB.out | apply pw_below_drewN⟩
         ·rw [if_neg c20] at H
          exact absurd H (by simp)
        ·rw [if_neg c19] at H
         have c19b0 : (a1_1 == 3) = false := beq_eq_false_iff_ne.mpr c19
         have c19b1 : (a1_1 != 3) = true := bne_iff_ne.mpr c19
         have H' := Aside0.mk H
         clear H
         try go_wp2
         have n0_ := Aside0.mk (blk_drew BK181.out)
         have n1_ := Aside0.mk (blk_drew BK182.out)
         have n2_ := Aside0.mk (below_drew1 HB.out)
         clear BK181
         clear BK182
         clear HB
         have BK181 := n0_
         have BK182 := n1_
         have HB := n2_
         clear n0_ n1_ n2_
         refine start_ (n := 21) (S := fun w' => w'.cell? ⟨gb182, 0, none⟩ = some (.int .i64 a1_0) ∧ w'.cell? ⟨gb182, 1, none⟩ = some (.int .i64 a1_1) ∧ w'.cell? ⟨gb182, 2, none⟩ = some (.slice (some ad183) l1_2.length c1_2)) (ds := []) mz47_0 (by kernel_rfl) rfl rfl ⟨(blk_cell BK182.out 0).trans rfl, (blk_cell BK182.out 1).trans rfl, (blk_cell BK182.out 2).trans rfl⟩ (fun hHeld => ?_); refine with_tabW spec_l06Fits.tab7 spec_l06Fits.bits7 (fun HT_ HW_ => ?_)
         generalize wc.drew = w33 at BK181 BK182 HB hHeld ⊢
         refine pu 0 (some 31) mz47_1 (any_of HT_.out (by kernel_rfl)) ?_
         refine tk 1 (some 32) mz47_2 hHeld (take_ofW HT_.out HW_.out (by kernel_rfl)) ?_
         refine pu 2 (some 33) mz47_3 (any_of HT_.out (by kernel_rfl)) ?_
         refine pu 3 (some 34) mz47_4 (any_of HT_.out (by kernel_rfl)) ?_
         refine po 4 (some 35) mz47_5 (any_of HT_.out (by kernel_rfl)) ?_
         refine po 5 (some 36) mz47_22 (any_of HT_.out (by kernel_rfl)) ?_
         refine po 6 (some 37) mz47_7 (any_of HT_.out (by kernel_rfl)) ?_
         refine po 7 (some 38) mz47_8 (any_of HT_.out (by kernel_rfl)) ?_
         refine po 8 (some 39) mz47_9 (any_of HT_.out (by kernel_rfl)) ?_
         refine po 9 (some 40) mz47_10 (any_of HT_.out (by kernel_rfl)) ?_
         refine po 10 (some 41) mz47_11 (any_of HT_.out (by kernel_rfl)) ?_
         refine po 11 (some 42) mz47_12 (any_of HT_.out (by kernel_rfl)) ?_
         refine po 12 (some 43) mz47_13 (any_of HT_.out (by kernel_rfl)) ?_
         refine po 13 (some 44) mz47_14 (any_of HT_.out (by kernel_rfl)) ?_
         refine po 14 (some 45) mz47_15 (any_of HT_.out (by kernel_rfl)) ?_
         refine po 15 (some 46) mz47_16 (any_of HT_.out (by kernel_rfl)) ?_
         refine po 16 (some 47) mz47_17 (any_of HT_.out (by kernel_rfl)) ?_
         refine po 17 (some 48) mz47_18 (any_of HT_.out (by kernel_rfl)) ?_
         refine po 18 (some 49) mz47_19 (any_of HT_.out (by kernel_rfl)) ?_
         refine po 19 (some 50) mz47_20 (any_of HT_.out (by kernel_rfl)) ?_
         refine pu 20 (some 51) mz47_21 (any_of HT_.out (by kernel_rfl)) ?_
         refine done_ (done_of HT_.out (by kernel_rfl)) ?_
         try go_wp2
         go_roundg kj7
         case measure => have := HK1.out; have := HJ7.out; omega
         case rel => exact ⟨(wrap64 (x5_1 + 1)), (by first | rfl | (simp; done) | (simp [*]; done)), H', ⟨by have := HK1.out; have := HJ7.out; omega⟩, ⟨by exact BK181.out⟩, ⟨by exact BK182.out⟩, ⟨by repeat first | exact HB.out | apply pw_below_drewN⟩⟩
    ·rw [if_neg c6] at H
     exact absurd H (by simp)
   ·rw [if_neg c5] at H
    have c5b0 : decide (x5_1 < (l1_2.length : Int)) = false := decide_eq_false c5
    clear c5
    obtain rfl := Option.some.inj H
    have hcz35_0 := (blk_cell BK182.out 0).trans rfl
    have hcz35_1 := (blk_cell BK182.out 1).trans rfl
    have hcz35_2 := (blk_cell BK182.out 2).trans rfl
    go_wp2
    go_ret
    exact ⟨by first | rfl | (simp [*, errW_none, errW_some] <;> rfl), by repeat first | exact HB.out | apply pw_below_drewN⟩

end Go.Proofs.YtohjpgcmhihdhaaGreatDoor.Q
