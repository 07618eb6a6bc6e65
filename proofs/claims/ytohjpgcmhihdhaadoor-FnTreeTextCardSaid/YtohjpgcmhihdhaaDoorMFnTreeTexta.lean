/- Walks and plain laws of one claim, several texts in one. -/
import Derived.Test.YtohjpgcmhihdhaaDoorQ0
import Derived.Test.YtohjpgcmhihdhaaDoorOSteps
import Derived.Test.YtohjpgcmhihdhaaDoorQf61
import Derived.Test.YtohjpgcmhihdhaaDoorQf30
import Derived.Test.YtohjpgcmhihdhaaDoorQf31
import Derived.Test.YtohjpgcmhihdhaaDoorQf32
import Derived.Test.YtohjpgcmhihdhaaDoorOTree
import Derived.Test.YtohjpgcmhihdhaaDoorQf19
import Derived.Test.YtohjpgcmhihdhaaDoorQf37
import Derived.Test.YtohjpgcmhihdhaaDoorQf63
namespace Go.Proofs.YtohjpgcmhihdhaaDoor.Q
open Go.RowKit Go.Proofs.YtohjpgcmhihdhaaDoorW.PrintWords Go.Proofs.YtohjpgcmhihdhaaDoorW.PrintLast Go.Proofs.YtohjpgcmhihdhaaDoorW.PrintMore
attribute [local go_sem] max2_int min2_int max_two min_two max_three min_three max_four min_four   -- for this text's walks alone
set_option linter.unusedVariables false
set_option linter.unusedSimpArgs false
/-! ### spec_l06Fits: function 33 -/
mutual
def spec_l06Fits.l0 : Nat → Int → List (S65) → List (S62) → Int → Int → List Int → Option (Bool)
  | 0, _, _, _, _, _, _ => none
  | k + 1, x5, x141000, x141001, x142000, x142001, x142002 => if x5 < (x142002.length : Int) then (if 0 ≤ x5 then ((spec_l06Kind.f k x141000 x141001 (rd x142002 x5)).bind fun t143 => (if x142001 < 3 then (spec_l06Fits.j1 k x5 t143 (t143 != (wrap64 (x142001 - 1))) x141000 x141001 x142000 x142001 x142002) else (spec_l06Fits.j1 k x5 t143 false x141000 x141001 x142000 x142001 x142002))) else (none)) else (some true)
def spec_l06Fits.j1 : Nat → Int → Int → Bool → List (S65) → List (S62) → Int → Int → List Int → Option (Bool)
  | 0, _, _, _, _, _, _, _, _ => none
  | k + 1, x5, x6, x30, x141000, x141001, x142000, x142001, x142002 => if x30 = true then (some false) else (if x142001 = 3 then (if 0 < (x142002.length : Int) then ((spec_l06Kind.f k x141000 x141001 (rd x142002 0)).bind fun t145 => (if x6 = t145 then (if x6 = 1 then (spec_l06Fits.l0 k (wrap64 (x5 + 1)) x141000 x141001 x142000 x142001 x142002) else (if x6 = 2 then (spec_l06Fits.l0 k (wrap64 (x5 + 1)) x141000 x141001 x142000 x142001 x142002) else (some false))) else (some false))) else (none)) else (spec_l06Fits.l0 k (wrap64 (x5 + 1)) x141000 x141001 x142000 x142001 x142002))
end
def spec_l06Fits.f (k : Nat) (l0_0 : List (S65)) (l0_1 : List (S62)) (a1_0 : Int) (a1_1 : Int) (l1_2 : List Int) : Option (Bool) := spec_l06Fits.l0 k 0 l0_0 l0_1 a1_0 a1_1 l1_2
def spec_l06Fits.T4 : Bool × List (List Nat × List Nat) := (true, [([], []), ([], []), ([1], [1]), ([], []), ([2, 3], [2, 3]), ([4], [4]), ([0, 5], [0, 5]), ([6, 6, 0, 1, 2, 3, 4, 5, 6], [6])])
def spec_l06Fits.B4 : List Nat := [0, 0, 2, 0, 14, 30, 63, 127]
theorem spec_l06Fits.tab4 : rtab .any (opsOf Tryd.f33 4) = spec_l06Fits.T4 := by kernel_rfl
theorem spec_l06Fits.bits4 : waitsOk spec_l06Fits.T4.2 spec_l06Fits.B4 = true := by kernel_rfl
def spec_l06Fits.T7 : Bool × List (List Nat × List Nat) := (true, [([], []), ([0], [0]), ([1], [1]), ([2], [2]), ([3], [3]), ([3], [3]), ([3], [3]), ([6, 3], [3, 6]), ([7, 3], [3, 7]), ([8, 3], [3, 8]), ([5, 9, 3, 3], [3, 5, 9]), ([4, 10, 3], [3, 4, 10]), ([11, 10, 3], [3, 11]), ([12], [12]), ([13, 12], [12, 13]), ([14, 12, 12], [12, 14]), ([15], [15]), ([16, 15], [15, 16]), ([15, 17, 12], [12, 15, 17]), ([12, 18, 3], [3, 12, 18]), ([3, 19], [3, 19])])
def spec_l06Fits.B7 : List Nat := [0, 1, 3, 7, 15, 15, 15, 79, 207, 463, 1007, 2047, 4095, 8191, 16383, 32767, 65535, 131071, 262143, 524287, 1048575]
theorem spec_l06Fits.tab7 : rtab .any (opsOf Tryd.f33 7) = spec_l06Fits.T7 := by kernel_rfl
theorem spec_l06Fits.bits7 : waitsOk spec_l06Fits.T7.2 spec_l06Fits.B7 = true := by kernel_rfl
def az_z33 (n m : Nat) : Array Bool := (List.replicate n true ++ List.replicate m false).toArray
def mz33_0 : Array Bool := az_z33 0 21
def mz33_1 : Array Bool := az_z33 1 20
def mz33_2 : Array Bool := az_z33 2 19
def mz33_3 : Array Bool := az_z33 3 18
def mz33_4 : Array Bool := az_z33 4 17
def mz33_5 : Array Bool := az_z33 5 16
def mz33_6 : Array Bool := #[true, true, true, true, true, false, true, false, false, false, false, false, false, false, false, false, false, false, false, false, false]
def mz33_7 : Array Bool := az_z33 7 14
def mz33_8 : Array Bool := az_z33 8 13
def mz33_9 : Array Bool := az_z33 9 12
def mz33_10 : Array Bool := az_z33 10 11
def mz33_11 : Array Bool := az_z33 11 10
def mz33_12 : Array Bool := az_z33 12 9
def mz33_13 : Array Bool := az_z33 13 8
def mz33_14 : Array Bool := az_z33 14 7
def mz33_15 : Array Bool := az_z33 15 6
def mz33_16 : Array Bool := az_z33 16 5
def mz33_17 : Array Bool := az_z33 17 4
def mz33_18 : Array Bool := az_z33 18 3
def mz33_19 : Array Bool := az_z33 19 2
def mz33_20 : Array Bool := az_z33 20 1
def mz33_21 : Array Bool := az_z33 21 0
def mz33_22 : Array Bool := az_z33 6 15
theorem pu_z33 {P : Program} {ops : Array Oper} {Q : Exit → Act → World → Prop} {md : Region.Mode} {S : World → Prop} {ds : List Nat} {oi : Oper} {fuel : Nat} {l : Array Bool} {a : Act} {w : World} (i : Nat) (N : Option Tmp) (v : Value) (l' : Array Bool) (hi : ops[i]? = some oi) (hN : oi.dst = N) (hc : anyB md ops l l' i = true)
    (hQ : ∀ c a w, Q (.panic c) (a.put oi.dst v) w → Q (.panic c) a w) (hy : Yields P ops oi v a) (a' : Act) (ha : a.put N v = a')
    (h : wpAnyLast P md ops Q S ds fuel l' a' w) : wpAnyLast P md ops Q S ds (fuel + 1) l a w := pure_ l' hi hN hc hQ hy ha h
theorem pq_z33 : (∀ (l : List Value) (i : Nat) (v : Value), l.toArray.setIfInBounds i v = (l.set i v).toArray) ∧ (∀ (x v : Value) (xs : List Value), (x :: xs).set 0 v = v :: xs) ∧ (∀ (x v : Value) (xs : List Value) (n : Nat), (x :: xs).set (n + 1) v = x :: xs.set n v) ∧ (∀ n : Int, IntKind.i64.wrap n = Go.RowKit.wrap64 n) ∧ (∀ n : Int, IntKind.i32.wrap n = Go.RowKit.wrap32 n) :=
  ⟨fun l i v => List.setIfInBounds_toArray l i v, fun _ _ _ => rfl, fun _ _ _ _ => rfl, i64_w, i32_w⟩
set_option maxHeartbeats 8000000 in
set_option maxRecDepth 100000 in
theorem spec_l06Fits.calls (k : Nat) (A0_0 : Option Addr) (c0_0 : Nat) (l0_0 : List (S65)) (A0_1 : Option Addr) (c0_1 : Nat) (l0_1 : List (S62)) (a1_0 : Int) (a1_1 : Int) (A1_2 : Option Addr) (c1_2 : Nat) (l1_2 : List Int) (r : Bool) (w : World) (hr0_0 : Kd.C k65 w A0_0 l0_0.length l0_0) (hc0_0 : l0_0.length ≤ c0_0) (hr0_1 : Kd.C k62 w A0_1 l0_1.length l0_1) (hc0_1 : l0_1.length ≤ c0_1) (hr1_2 : Kd.C (Kd.int .i64) w A1_2 l1_2.length l1_2) (hc1_2 : l1_2.length ≤ c1_2) (h : spec_l06Fits.f k l0_0 l0_1 a1_0 a1_1 l1_2 = some r) :
  Calls Tryd.prog 33 #[.agg #[.slice A0_0 l0_0.length c0_0, .slice A0_1 l0_1.length c0_1], .agg #[.int .i64 a1_0, .int .i64 a1_1, .slice A1_2 l1_2.length c1_2]] w fun e w' => e = .returned (.bool r) ∧ Below w.heap.size w w' := by
 have hu32 := Tryd.underlying32
 have hu62 := Tryd.underlying62
 have HR0_0 := Aside0.mk hr0_0
 have HC0_0 := Aside0.mk hc0_0
 clear hr0_0 hc0_0
 have HR0_1 := Aside0.mk hr0_1
 have HC0_1 := Aside0.mk hc0_1
 clear hr0_1 hc0_1
 have HR1_2 := Aside0.mk hr1_2
 have HC1_2 := Aside0.mk hc1_2
 clear hr1_2 hc1_2
 have HB := Aside0.mk (Below.refl w.heap.size w)
 have H : (spec_l06Fits.l0 k 0 l0_0 l0_1 a1_0 a1_1 l1_2) = some r := h
 clear h
 have H' := Aside0.mk H
 clear H
 go_enter Tryd.func33, Tryd.ntmps33
 go_wp2_with (first | ((with_reducible refine gate_dst (N := 2) rfl ?_); refine box_event ?hg (N := 2) ?hd (cs := #[.slice A0_0 l0_0.length c0_0, .slice A0_1 l0_1.length c0_1]) (t := 32) ?hr ?_; (case hd => rfl); (case hg => rfl); (case hr => first | (go_simp; done) | (go_simp; rfl)); intro gb140 hg w3 hbox hb; have n0_ := Aside0.mk (below_step (by repeat first | exact HB.out | apply pw_below_drewN) hb); have n1_ := Aside0.mk (hbox); clear HB; have HB := n0_; have BK140 := n1_; clear n0_ n1_; clear hb hbox hg) | ((with_reducible refine gate_dst (N := 3) rfl ?_); refine box_event ?hg (N := 3) ?hd (cs := #[.int .i64 a1_0, .int .i64 a1_1, .slice A1_2 l1_2.length c1_2]) (t := 62) ?hr ?_; (case hd => rfl); (case hg => rfl); (case hr => first | (go_simp; done) | (go_simp; rfl)); intro gb141 hg w4 hbox hb; have n0_ := Aside0.mk (blk_below (by exact BK140.out) hb); have n1_ := Aside0.mk (below_step (by repeat first | exact HB.out | apply pw_below_drewN) hb); have n2_ := Aside0.mk (hbox); clear BK140; clear HB; have BK140 := n0_; have HB := n1_; have BK141 := n2_; clear n0_ n1_ n2_; clear hb hbox hg))
 go_loopg [5] k (fun kq v5 w' => ∃ (x5_1 : Int), v5 = .int .i64 x5_1 ∧ Aside0 (spec_l06Fits.l0 kq x5_1 l0_0 l0_1 a1_0 a1_1 l1_2 = some r) ∧ Aside0 (kq ≤ k) ∧ Aside0 (w'.heap[gb140]? = some (.cells #[(.slice A0_0 l0_0.length c0_0), (.slice A0_1 l0_1.length c0_1)] 32 (0, 0))) ∧ Aside0 (w'.heap[gb141]? = some (.cells #[.int .i64 a1_0, .int .i64 a1_1, (.slice A1_2 l1_2.length c1_2)] 62 (0, 0))) ∧ Aside0 (Below w.heap.size w w'))
 case atStart => exact ⟨(0), (by first | rfl | (simp; done) | (simp [*]; done)), H', ⟨Nat.le_refl _⟩, ⟨by exact BK140.out⟩, ⟨by exact BK141.out⟩, ⟨by repeat first | exact HB.out | apply pw_below_drewN⟩⟩
 case round =>
  clear H'
  try clear c1
  try clear p2
  try clear c3
  obtain ⟨x5_1, rfl, HA, HK1, BK140, BK141, HB⟩ := hrel
  cases gk with
  | zero => exact absurd HA.out (by simp [spec_l06Fits.l0])
  | succ k1 =>
   have H := HA.out
   clear HA
   simp only [spec_l06Fits.l0] at H
   by_cases c5 : x5_1 < (l1_2.length : Int)
   ·rw [if_pos c5] at H
    have c5b0 : decide (x5_1 < (l1_2.length : Int)) = true := decide_eq_true c5
    clear c5
    by_cases c6 : 0 ≤ x5_1
    ·rw [if_pos c6] at H
     have c6b0 : decide (0 ≤ x5_1) = true := decide_eq_true c6
     clear c6
     replace H := Option.bind_eq_some_iff.mp H
     obtain ⟨t143, A70, H⟩ := H
     set_option simprocs false in try dsimp only at H
     have A7 := Aside0.mk A70
     clear A70
     have HC8 := Aside0.mk H
     clear H
     have hcz10_0 := (blk_cell BK141.out 0).trans rfl
     have hcz10_1 := (blk_cell BK141.out 1).trans rfl
     have hcz10_2 := (blk_cell BK141.out 2).trans rfl
     try go_wp2
     have n0_ := Aside0.mk (blk_drew BK140.out)
     have n1_ := Aside0.mk (blk_drew BK141.out)
     have n2_ := Aside0.mk (below_drew1 HB.out)
     clear BK140
     clear BK141
     clear HB
     have BK140 := n0_
     have BK141 := n1_
     have HB := n2_
     clear n0_ n1_ n2_
     have p142 : 0 ≤ (x5_1 : Int) := of_decide_eq_true (by assumption)
     have q142 : x5_1 < (l1_2.length : Int) := of_decide_eq_true (by assumption)
     obtain ⟨ad142, e142, hx142_0⟩ := Kd.at_int HR1_2.out x5_1 p142 q142
     have hw142_0 := hx142_0
     cases e142
     replace hx142_0 := (HB.out.cell (World.block_lt_of_cell? w _ hx142_0)).trans hx142_0
     replace p142 := eq_true p142
     replace q142 := eq_true q142
     refine start_ (n := 8) (S := fun w' => w'.cell? ⟨gb140, 0, none⟩ = some (.slice A0_0 l0_0.length c0_0) ∧ w'.cell? ⟨gb140, 1, none⟩ = some (.slice A0_1 l0_1.length c0_1) ∧ w'.cell? ⟨gb141, 0, none⟩ = some (.int .i64 a1_0) ∧ w'.cell? ⟨gb141, 1, none⟩ = some (.int .i64 a1_1) ∧ w'.cell? ⟨gb141, 2, none⟩ = some (.slice (some ad142) l1_2.length c1_2) ∧ w'.cell? (ad142.add (x5_1).toNat) = some (.int .i64 (rd l1_2 x5_1))) (ds := []) #[false, false, false, false, false, false, false, false] (by kernel_rfl) rfl rfl ⟨(blk_cell BK140.out 0).trans rfl, (blk_cell BK140.out 1).trans rfl, (blk_cell BK141.out 0).trans rfl, (blk_cell BK141.out 1).trans rfl, (blk_cell BK141.out 2).trans rfl, ((HB.out.cell (World.block_lt_of_cell? w _ hw142_0)).trans hw142_0)⟩ (fun hHeld => ?_); refine with_tabW spec_l06Fits.tab4 spec_l06Fits.bits4 (fun HT_ HW_ => ?_)
     generalize wr.drew = w11 at BK140 BK141 HB hx142_0 hHeld ⊢
     refine pu 1 (some 15) #[false, true, false, false, false, false, false, false] (any_of HT_.out (by kernel_rfl)) ?_
     refine pu 3 (some 17) #[false, true, false, true, false, false, false, false] (any_of HT_.out (by kernel_rfl)) ?_
     refine tk 0 (some 14) #[true, true, false, true, false, false, false, false] hHeld (take_ofW HT_.out HW_.out (by kernel_rfl)) ?_
     refine tk 2 (some 16) #[true, true, true, true, false, false, false, false] hHeld (take_ofW HT_.out HW_.out (by kernel_rfl)) ?_
     refine pu 4 (some 18) #[true, true, true, true, true, false, false, false] (any_of HT_.out (by kernel_rfl)) ?_
     refine tk 5 (some 19) #[true, true, true, true, true, true, false, false] hHeld (take_ofW HT_.out HW_.out (by kernel_rfl)) ?_
     refine one_ (i := 6) (N := some 20) #[true, true, true, true, true, true, true, false] rfl rfl (one_of HT_.out (by kernel_rfl)) (by decide) (fun K hK => ?_)
     refine goes_ Tryd.func61 (by kernel_rfl) rfl #[.agg #[.slice A0_0 l0_0.length c0_0, .slice A0_1 l0_1.length c0_1], .int .i64 (rd l1_2 x5_1)] (by rfl) rfl rfl (by (try simp only [List.map_toArray, List.map_cons, List.map_nil]); first | done | rfl) ?_
     with_reducible refine (spec_l06Kind.calls k1 _ _ l0_0 _ _ l0_1 (rd l1_2 x5_1) t143 _ ?side1 ?side2 ?side3 ?side4 A7.out).mono ?_
     (case side1 => exact (Kd.C_below HR0_0.out HB.out))
     (case side2 => exact HC0_0.out)
     (case side3 => exact (Kd.C_below HR0_1.out HB.out))
     (case side4 => exact HC0_1.out)
     rintro e w12 ⟨rfl, hb⟩
     refine ⟨_, rfl, ?_⟩
     have n0_ := Aside0.mk (blk_below (by exact BK140.out) hb)
     have n1_ := Aside0.mk (blk_below (by exact BK141.out) hb)
     have n2_ := Aside0.mk (below_step (by repeat first | exact HB.out | apply pw_below_drewN) hb)
     clear BK140
     clear BK141
     clear HB
     have BK140 := n0_
     have BK141 := n1_
     have HB := n2_
     clear n0_ n1_ n2_
     (try clear hb)
     (try clear hb2)
     (try clear hk)
     (try clear hi)
     refine hK.out _ _ ⟨(blk_cell BK140.out 0).trans rfl, (blk_cell BK140.out 1).trans rfl, (blk_cell BK141.out 0).trans rfl, (blk_cell BK141.out 1).trans rfl, (blk_cell BK141.out 2).trans rfl, ((HB.out.cell (World.block_lt_of_cell? w _ hw142_0)).trans hw142_0)⟩ (fun hHeld => ?_)
     clear hK K
     refine norm_ (a' := ?_) ?_ ?_
     (rotate_left; ·(show Act.put _ (some 20) _ = _; simp only [Act.put, pq_z33]; rfl))
     refine pu 7 (some 6) #[true, true, true, true, true, true, true, true] (any_of HT_.out (by kernel_rfl)) ?_
     refine done_ (done_of HT_.out (by kernel_rfl)) ?_
     go_upto_region 5 with (fail)
     go_cut [30] (fun v30 wc => ∃ (kq : Nat) (x30_7 : Bool), v30 = .bool x30_7 ∧ Aside0 (spec_l06Fits.j1 kq x5_1 t143 x30_7 l0_0 l0_1 a1_0 a1_1 l1_2 = some r) ∧ Aside0 (kq ≤ k1) ∧ Aside0 (wc.heap[gb140]? = some (.cells #[(.slice A0_0 l0_0.length c0_0), (.slice A0_1 l0_1.length c0_1)] 32 (0, 0))) ∧ Aside0 (wc.heap[gb141]? = some (.cells #[.int .i64 a1_0, .int .i64 a1_1, (.slice (some ad142) l1_2.length c1_2)] 62 (0, 0))) ∧ Aside0 (Below w.heap.size w wc))
     case first =>
      have H := HC8.out
      clear HC8
      by_cases c13 : a1_1 < 3
      ·rw [if_pos c13] at H
       have c13b0 : decide (a1_1 < 3) = true := decide_eq_true c13
       clear c13
       (first | rw [c13b0] | (simp only [i64_w, i32_w]; rw [c13b0]) | skip)
       have H' := Aside0.mk H
       clear H
       have hcz15_0 := (blk_cell BK141.out 0).trans rfl
       have hcz15_1 := (blk_cell BK141.out 1).trans rfl
       have hcz15_2 := (blk_cell BK141.out 2).trans rfl
       go_wp2
       go_meet
       case rel => exact ⟨_, ((t143 != (wrap64 (a1_1 - 1)))), (by first | rfl | (simp; done) | (simp [*]; done)), H', ⟨by have := HK1.out; first | omega | exact Nat.le_refl _⟩, ⟨by exact BK140.out⟩, ⟨by exact BK141.out⟩, ⟨by repeat first | exact HB.out | apply pw_below_drewN⟩⟩
      ·rw [if_neg c13] at H
       have c13b0 : decide (a1_1 < 3) = false := decide_eq_false c13
       clear c13
       (first | rw [c13b0] | (simp only [i64_w, i32_w]; rw [c13b0]) | skip)
       have H' := Aside0.mk H
       clear H
       have hcz17_0 := (blk_cell BK141.out 0).trans rfl
       have hcz17_1 := (blk_cell BK141.out 1).trans rfl
       have hcz17_2 := (blk_cell BK141.out 2).trans rfl
       go_wp2
       go_meet
       case rel => exact ⟨_, (false), (by first | rfl | (simp; done) | (simp [*]; done)), H', ⟨by have := HK1.out; first | omega | exact Nat.le_refl _⟩, ⟨by exact BK140.out⟩, ⟨by exact BK141.out⟩, ⟨by repeat first | exact HB.out | apply pw_below_drewN⟩⟩
     case rest =>
      clear HC8
      try clear c1
      try clear p1
      try clear q1
      try clear hx1
      try clear p2
      try clear c3
      try clear c5
      try clear c5b0
      try clear c6
      try clear c6b0
      try clear p6
      try clear c9
      try clear c13
      try clear c13b0
      try clear c14
      try clear p14
      try clear q14
      try clear hx14
      try clear c16
      try clear hcz10_0
      try clear hcz10_1
      try clear hcz10_2
      try clear hcz15_0
      try clear hcz15_1
      try clear hcz15_2
      try clear hcz17_0
      try clear hcz17_1
      try clear hcz17_2
      try clear hx142_0
      try clear p142
      try clear p2
      try clear q142
      obtain ⟨kq, x30_7, rfl, HA, HJ7, BK140, BK141, HB⟩ := hcut
      cases kq with
      | zero => exact absurd HA.out (by simp [spec_l06Fits.j1])
      | succ kj7 =>
       have H := HA.out
       clear HA
       simp only [spec_l06Fits.j1] at H
       by_cases c18 : x30_7 = true
       ·subst c18
        rw [if_pos rfl] at H
        obtain rfl := Option.some.inj H
        go_wp2
        go_ret
        exact ⟨by first | rfl | (simp [*, errW_none, errW_some] <;> rfl), by repeat first | exact HB.out | apply pw_below_drewN⟩
       ·replace c18 := Bool.eq_false_iff.mpr c18
        subst c18
        rw [if_neg (show ¬ (false = true) by decide)] at H
        by_cases c19 : a1_1 = 3
        ·rw [if_pos c19] at H
         have c19b0 : (a1_1 == 3) = true := beq_iff_eq.mpr c19
         have c19b1 : (a1_1 != 3) = false := bne_eq_false_iff_eq.mpr c19
         clear c19
         by_cases c20 : 0 < (l1_2.length : Int)
         ·rw [if_pos c20] at H
          have c20b0 : decide (0 < (l1_2.length : Int)) = true := decide_eq_true c20
          have c20b1 : decide (0 < l1_2.length) = true := decide_eq_true (by omega)
          clear c20
          replace H := Option.bind_eq_some_iff.mp H
          obtain ⟨t145, A210, H⟩ := H
          set_option simprocs false in try dsimp only at H
          have A21 := Aside0.mk A210
          clear A210
          by_cases c22 : t143 = t145
          ·rw [if_pos c22] at H
           have c22b0 : (t143 == t145) = true := beq_iff_eq.mpr c22
           have c22b1 : (t143 != t145) = false := bne_eq_false_iff_eq.mpr c22
           clear c22
           by_cases c23 : t143 = 1
           ·rw [if_pos c23] at H
            have c23b0 : (t143 == 1) = true := beq_iff_eq.mpr c23
            have c23b1 : (t143 != 1) = false := bne_eq_false_iff_eq.mpr c23
            clear c23
            have H' := Aside0.mk H
            clear H
            try go_wp2
            have n0_ := Aside0.mk (blk_drew BK140.out)
            have n1_ := Aside0.mk (blk_drew BK141.out)
            have n2_ := Aside0.mk (below_drew1 HB.out)
            clear BK140
            clear BK141
            clear HB
            have BK140 := n0_
            have BK141 := n1_
            have HB := n2_
            clear n0_ n1_ n2_
            have p144 : 0 ≤ (0 : Int) := (by omega)
            have q144 : 0 < (l1_2.length : Int) := of_decide_eq_true (by assumption)
            obtain ⟨ad144, e144, hx144_0⟩ := Kd.at_int HR1_2.out 0 p144 q144
            have hw144_0 := hx144_0
            (try rw [show ((0 : Int)).toNat = 0 from rfl] at hw144_0)
            (try rw [show 0 * 1 = 0 from rfl] at hw144_0)
            (try rw [Addr.add_zero'] at hw144_0)
            obtain rfl : ad142 = ad144 := (by injection e144)
            have qi144 : (0 < l1_2.length) = True := eq_true (by omega)
            (try rw [show ((0 : Int)).toNat = 0 from rfl] at hx144_0)
            (try rw [Addr.add_zero'] at hx144_0)
            replace hx144_0 := (HB.out.cell (World.block_lt_of_cell? w _ hx144_0)).trans hx144_0
            replace p144 := eq_true p144
            replace q144 := eq_true q144
            refine start_ (n := 21) (S := fun w' => w'.cell? ⟨gb141, 0, none⟩ = some (.int .i64 a1_0) ∧ w'.cell? ⟨gb141, 1, none⟩ = some (.int .i64 a1_1) ∧ w'.cell? ⟨gb141, 2, none⟩ = some (.slice (some ad142) l1_2.length c1_2) ∧ w'.cell? ⟨gb140, 0, none⟩ = some (.slice A0_0 l0_0.length c0_0) ∧ w'.cell? ⟨gb140, 1, none⟩ = some (.slice A0_1 l0_1.length c0_1) ∧ w'.cell? ad142 = some (.int .i64 (rd l1_2 0))) (ds := []) mz33_0 (by kernel_rfl) rfl rfl ⟨(blk_cell BK141.out 0).trans rfl, (blk_cell BK141.out 1).trans rfl, (blk_cell BK141.out 2).trans rfl, (blk_cell BK140.out 0).trans rfl, (blk_cell BK140.out 1).trans rfl, ((HB.out.cell (World.block_lt_of_cell? w _ hw144_0)).trans hw144_0)⟩ (fun hHeld => ?_); refine with_tabW spec_l06Fits.tab7 spec_l06Fits.bits7 (fun HT_ HW_ => ?_)
            generalize wc.drew = w24 at BK140 BK141 HB hx144_0 hHeld ⊢
            refine pu 0 (some 31) mz33_1 (any_of HT_.out (by kernel_rfl)) ?_
            refine tk 1 (some 32) mz33_2 hHeld (take_ofW HT_.out HW_.out (by kernel_rfl)) ?_
            refine pu 2 (some 33) mz33_3 (any_of HT_.out (by kernel_rfl)) ?_
            refine pu 3 (some 34) mz33_4 (any_of HT_.out (by kernel_rfl)) ?_
            refine pu 4 (some 35) mz33_5 (any_of HT_.out (by kernel_rfl)) ?_
            refine pu 6 (some 37) mz33_6 (any_of HT_.out (by kernel_rfl)) ?_
            refine tk 5 (some 36) mz33_7 hHeld (take_ofW HT_.out HW_.out (by kernel_rfl)) ?_
            refine tk 7 (some 38) mz33_8 hHeld (take_ofW HT_.out HW_.out (by kernel_rfl)) ?_
            refine pu 8 (some 39) mz33_9 (any_of HT_.out (by kernel_rfl)) ?_
            refine tk 9 (some 40) mz33_10 hHeld (take_ofW HT_.out HW_.out (by kernel_rfl)) ?_
            refine one_ (i := 10) (N := some 41) mz33_11 rfl rfl (one_of HT_.out (by kernel_rfl)) (by decide) (fun K hK => ?_)
            refine goes_ Tryd.func61 (by kernel_rfl) rfl #[.agg #[.slice A0_0 l0_0.length c0_0, .slice A0_1 l0_1.length c0_1], .int .i64 (rd l1_2 0)] (by rfl) rfl rfl (by (try simp only [List.map_toArray, List.map_cons, List.map_nil]); first | done | rfl) ?_
            with_reducible refine (spec_l06Kind.calls kj7 _ _ l0_0 _ _ l0_1 (rd l1_2 0) t145 _ ?side1 ?side2 ?side3 ?side4 A21.out).mono ?_
            (case side1 => exact (Kd.C_below HR0_0.out HB.out))
            (case side2 => exact HC0_0.out)
            (case side3 => exact (Kd.C_below HR0_1.out HB.out))
            (case side4 => exact HC0_1.out)
            rintro e w25 ⟨rfl, hb⟩
            refine ⟨_, rfl, ?_⟩
            have n0_ := Aside0.mk (blk_below (by exact BK140.out) hb)
            have n1_ := Aside0.mk (blk_below (by exact BK141.out) hb)
            have n2_ := Aside0.mk (below_step (by repeat first | exact HB.out | apply pw_below_drewN) hb)
            clear BK140
            clear BK141
            clear HB
            have BK140 := n0_
            have BK141 := n1_
            have HB := n2_
            clear n0_ n1_ n2_
            (try clear hb)
            (try clear hb2)
            (try clear hk)
            (try clear hi)
            refine hK.out _ _ ⟨(blk_cell BK141.out 0).trans rfl, (blk_cell BK141.out 1).trans rfl, (blk_cell BK141.out 2).trans rfl, (blk_cell BK140.out 0).trans rfl, (blk_cell BK140.out 1).trans rfl, ((HB.out.cell (World.block_lt_of_cell? w _ hw144_0)).trans hw144_0)⟩ (fun hHeld => ?_)
            clear hK K
            refine norm_ (a' := ?_) ?_ ?_
            (rotate_left; ·(show Act.put _ (some 41) _ = _; simp only [Act.put, pq_z33]; rfl))
            refine pu 11 (some 42) mz33_12 (any_of HT_.out (by kernel_rfl)) ?_
            refine pu 12 (some 43) mz33_13 (any_of HT_.out (by kernel_rfl)) ?_
            refine pu 13 (some 44) mz33_14 (any_of HT_.out (by kernel_rfl)) ?_
            refine pu 14 (some 45) mz33_15 (any_of HT_.out (by kernel_rfl)) ?_
            refine pu 15 (some 46) mz33_16 (any_of HT_.out (by kernel_rfl)) ?_
            refine po 16 (some 47) mz33_17 (any_of HT_.out (by kernel_rfl)) ?_
            refine po 17 (some 48) mz33_18 (any_of HT_.out (by kernel_rfl)) ?_
            refine pu 18 (some 49) mz33_19 (any_of HT_.out (by kernel_rfl)) ?_
            refine pu 19 (some 50) mz33_20 (any_of HT_.out (by kernel_rfl)) ?_
            refine pu 20 (some 51) mz33_21 (any_of HT_.out (by kernel_rfl)) ?_
            refine done_ (done_of HT_.out (by kernel_rfl)) ?_
            try go_wp2
            go_roundg kj7
            case measure => have := HK1.out; have := HJ7.out; omega
            case rel => exact ⟨(wrap64 (x5_1 + 1)), (by first | rfl | (simp; done) | (simp [*]; done)), H', ⟨by have := HK1.out; have := HJ7.out; omega⟩, ⟨by exact BK140.out⟩, ⟨by exact BK141.out⟩, ⟨by repeat first | exact HB.out | apply pw_below_drewN⟩⟩
           ·rw [if_neg c23] at H
            have c23b0 : (t143 == 1) = false := beq_eq_false_iff_ne.mpr c23
            have c23b1 : (t143 != 1) = true := bne_iff_ne.mpr c23
            by_cases c26 : t143 = 2
            ·rw [if_pos c26] at H
             have c26b0 : (t143 == 2) = true := beq_iff_eq.mpr c26
             have c26b1 : (t143 != 2) = false := bne_eq_false_iff_eq.mpr c26
             clear c26
             have H' := Aside0.mk H
             clear H
             try go_wp2
             have n0_ := Aside0.mk (blk_drew BK140.out)
             have n1_ := Aside0.mk (blk_drew BK141.out)
             have n2_ := Aside0.mk (below_drew1 HB.out)
             clear BK140
             clear BK141
             clear HB
             have BK140 := n0_
             have BK141 := n1_
             have HB := n2_
             clear n0_ n1_ n2_
             have p144 : 0 ≤ (0 : Int) := (by omega)
             have q144 : 0 < (l1_2.length : Int) := of_decide_eq_true (by assumption)
             obtain ⟨ad144, e144, hx144_0⟩ := Kd.at_int HR1_2.out 0 p144 q144
             have hw144_0 := hx144_0
             (try rw [show ((0 : Int)).toNat = 0 from rfl] at hw144_0)
             (try rw [show 0 * 1 = 0 from rfl] at hw144_0)
             (try rw [Addr.add_zero'] at hw144_0)
             obtain rfl : ad142 = ad144 := (by injection e144)
             have qi144 : (0 < l1_2.length) = True := eq_true (by omega)
             (try rw [show ((0 : Int)).toNat = 0 from rfl] at hx144_0)
             (try rw [Addr.add_zero'] at hx144_0)
             replace hx144_0 := (HB.out.cell (World.block_lt_of_cell? w _ hx144_0)).trans hx144_0
             replace p144 := eq_true p144
             replace q144 := eq_true q144
             refine start_ (n := 21) (S := fun w' => w'.cell? ⟨gb141, 0, none⟩ = some (.int .i64 a1_0) ∧ w'.cell? ⟨gb141, 1, none⟩ = some (.int .i64 a1_1) ∧ w'.cell? ⟨gb141, 2, none⟩ = some (.slice (some ad142) l1_2.length c1_2) ∧ w'.cell? ⟨gb140, 0, none⟩ = some (.slice A0_0 l0_0.length c0_0) ∧ w'.cell? ⟨gb140, 1, none⟩ = some (.slice A0_1 l0_1.length c0_1) ∧ w'.cell? ad142 = some (.int .i64 (rd l1_2 0))) (ds := []) mz33_0 (by kernel_rfl) rfl rfl ⟨(blk_cell BK141.out 0).trans rfl, (blk_cell BK141.out 1).trans rfl, (blk_cell BK141.out 2).trans rfl, (blk_cell BK140.out 0).trans rfl, (blk_cell BK140.out 1).trans rfl, ((HB.out.cell (World.block_lt_of_cell? w _ hw144_0)).trans hw144_0)⟩ (fun hHeld => ?_); refine with_tabW spec_l06Fits.tab7 spec_l06Fits.bits7 (fun HT_ HW_ => ?_)
             generalize wc.drew = w27 at BK140 BK141 HB hx144_0 hHeld ⊢
             refine pu 0 (some 31) mz33_1 (any_of HT_.out (by kernel_rfl)) ?_
             refine tk 1 (some 32) mz33_2 hHeld (take_ofW HT_.out HW_.out (by kernel_rfl)) ?_
             refine pu 2 (some 33) mz33_3 (any_of HT_.out (by kernel_rfl)) ?_
             refine pu 3 (some 34) mz33_4 (any_of HT_.out (by kernel_rfl)) ?_
             refine pu 4 (some 35) mz33_5 (any_of HT_.out (by kernel_rfl)) ?_
             refine pu 6 (some 37) mz33_6 (any_of HT_.out (by kernel_rfl)) ?_
             refine tk 5 (some 36) mz33_7 hHeld (take_ofW HT_.out HW_.out (by kernel_rfl)) ?_
             refine tk 7 (some 38) mz33_8 hHeld (take_ofW HT_.out HW_.out (by kernel_rfl)) ?_
             refine pu 8 (some 39) mz33_9 (any_of HT_.out (by kernel_rfl)) ?_
             refine tk 9 (some 40) mz33_10 hHeld (take_ofW HT_.out HW_.out (by kernel_rfl)) ?_
             refine one_ (i := 10) (N := some 41) mz33_11 rfl rfl (one_of HT_.out (by kernel_rfl)) (by decide) (fun K hK => ?_)
             refine goes_ Tryd.func61 (by kernel_rfl) rfl #[.agg #[.slice A0_0 l0_0.length c0_0, .slice A0_1 l0_1.length c0_1], .int .i64 (rd l1_2 0)] (by rfl) rfl rfl (by (try simp only [List.map_toArray, List.map_cons, List.map_nil]); first | done | rfl) ?_
             with_reducible refine (spec_l06Kind.calls kj7 _ _ l0_0 _ _ l0_1 (rd l1_2 0) t145 _ ?side1 ?side2 ?side3 ?side4 A21.out).mono ?_
             (case side1 => exact (Kd.C_below HR0_0.out HB.out))
             (case side2 => exact HC0_0.out)
             (case side3 => exact (Kd.C_below HR0_1.out HB.out))
             (case side4 => exact HC0_1.out)
             rintro e w28 ⟨rfl, hb⟩
             refine ⟨_, rfl, ?_⟩
             have n0_ := Aside0.mk (blk_below (by exact BK140.out) hb)
             have n1_ := Aside0.mk (blk_below (by exact BK141.out) hb)
             have n2_ := Aside0.mk (below_step (by repeat first | exact HB.out | apply pw_below_drewN) hb)
             clear BK140
             clear BK141
             clear HB
             have BK140 := n0_
             have BK141 := n1_
             have HB := n2_
             clear n0_ n1_ n2_
             (try clear hb)
             (try clear hb2)
             (try clear hk)
             (try clear hi)
             refine hK.out _ _ ⟨(blk_cell BK141.out 0).trans rfl, (blk_cell BK141.out 1).trans rfl, (blk_cell BK141.out 2).trans rfl, (blk_cell BK140.out 0).trans rfl, (blk_cell BK140.out 1).trans rfl, ((HB.out.cell (World.block_lt_of_cell? w _ hw144_0)).trans hw144_0)⟩ (fun hHeld => ?_)
             clear hK K
             refine norm_ (a' := ?_) ?_ ?_
             (rotate_left; ·(show Act.put _ (some 41) _ = _; simp only [Act.put, pq_z33]; rfl))
             refine pu 11 (some 42) mz33_12 (any_of HT_.out (by kernel_rfl)) ?_
             refine pu 12 (some 43) mz33_13 (any_of HT_.out (by kernel_rfl)) ?_
             refine pu 13 (some 44) mz33_14 (any_of HT_.out (by kernel_rfl)) ?_
             refine pu 14 (some 45) mz33_15 (any_of HT_.out (by kernel_rfl)) ?_
             refine pu 15 (some 46) mz33_16 (any_of HT_.out (by kernel_rfl)) ?_
             refine pu 16 (some 47) mz33_17 (any_of HT_.out (by kernel_rfl)) ?_
             refine pu 17 (some 48) mz33_18 (any_of HT_.out (by kernel_rfl)) ?_
             refine pu 18 (some 49) mz33_19 (any_of HT_.out (by kernel_rfl)) ?_
             refine pu 19 (some 50) mz33_20 (any_of HT_.out (by kernel_rfl)) ?_
             refine pu 20 (some 51) mz33_21 (any_of HT_.out (by kernel_rfl)) ?_
             refine done_ (done_of HT_.out (by kernel_rfl)) ?_
             try go_wp2
             go_roundg kj7
             case measure => have := HK1.out; have := HJ7.out; omega
             case rel => exact ⟨(wrap64 (x5_1 + 1)), (by first | rfl | (simp; done) | (simp [*]; done)), H', ⟨by have := HK1.out; have := HJ7.out; omega⟩, ⟨by exact BK140.out⟩, ⟨by exact BK141.out⟩, ⟨by repeat first | exact HB.out | apply pw_below_drewN⟩⟩
            ·rw [if_neg c26] at H
             have c26b0 : (t143 == 2) = false := beq_eq_false_iff_ne.mpr c26
             have c26b1 : (t143 != 2) = true := bne_iff_ne.mpr c26
             obtain rfl := Option.some.inj H
             try go_wp2
             have n0_ := Aside0.mk (blk_drew BK140.out)
             have n1_ := Aside0.mk (blk_drew BK141.out)
             have n2_ := Aside0.mk (below_drew1 HB.out)
             clear BK140
             clear BK141
             clear HB
             have BK140 := n0_
             have BK141 := n1_
             have HB := n2_
             clear n0_ n1_ n2_
             have p144 : 0 ≤ (0 : Int) := (by omega)
             have q144 : 0 < (l1_2.length : Int) := of_decide_eq_true (by assumption)
             obtain ⟨ad144, e144, hx144_0⟩ := Kd.at_int HR1_2.out 0 p144 q144
             have hw144_0 := hx144_0
             (try rw [show ((0 : Int)).toNat = 0 from rfl] at hw144_0)
             (try rw [show 0 * 1 = 0 from rfl] at hw144_0)
             (try rw [Addr.add_zero'] at hw144_0)
             obtain rfl : ad142 = ad144 := (by injection e144)
             have qi144 : (0 < l1_2.length) = True := eq_true (by omega)
             (try rw [show ((0 : Int)).toNat = 0 from rfl] at hx144_0)
             (try rw [Addr.add_zero'] at hx144_0)
             replace hx144_0 := (HB.out.cell (World.block_lt_of_cell? w _ hx144_0)).trans hx144_0
             replace p144 := eq_true p144
             replace q144 := eq_true q144
             refine start_ (n := 21) (S := fun w' => w'.cell? ⟨gb141, 0, none⟩ = some (.int .i64 a1_0) ∧ w'.cell? ⟨gb141, 1, none⟩ = some (.int .i64 a1_1) ∧ w'.cell? ⟨gb141, 2, none⟩ = some (.slice (some ad142) l1_2.length c1_2) ∧ w'.cell? ⟨gb140, 0, none⟩ = some (.slice A0_0 l0_0.length c0_0) ∧ w'.cell? ⟨gb140, 1, none⟩ = some (.slice A0_1 l0_1.length c0_1) ∧ w'.cell? ad142 = some (.int .i64 (rd l1_2 0))) (ds := []) mz33_0 (by kernel_rfl) rfl rfl ⟨(blk_cell BK141.out 0).trans rfl, (blk_cell BK141.out 1).trans rfl, (blk_cell BK141.out 2).trans rfl, (blk_cell BK140.out 0).trans rfl, (blk_cell BK140.out 1).trans rfl, ((HB.out.cell (World.block_lt_of_cell? w _ hw144_0)).trans hw144_0)⟩ (fun hHeld => ?_); refine with_tabW spec_l06Fits.tab7 spec_l06Fits.bits7 (fun HT_ HW_ => ?_)
             generalize wc.drew = w29 at BK140 BK141 HB hx144_0 hHeld ⊢
             refine pu 0 (some 31) mz33_1 (any_of HT_.out (by kernel_rfl)) ?_
             refine tk 1 (some 32) mz33_2 hHeld (take_ofW HT_.out HW_.out (by kernel_rfl)) ?_
             refine pu 2 (some 33) mz33_3 (any_of HT_.out (by kernel_rfl)) ?_
             refine pu 3 (some 34) mz33_4 (any_of HT_.out (by kernel_rfl)) ?_
             refine pu 4 (some 35) mz33_5 (any_of HT_.out (by kernel_rfl)) ?_
             refine pu 6 (some 37) mz33_6 (any_of HT_.out (by kernel_rfl)) ?_
             refine tk 5 (some 36) mz33_7 hHeld (take_ofW HT_.out HW_.out (by kernel_rfl)) ?_
             refine tk 7 (some 38) mz33_8 hHeld (take_ofW HT_.out HW_.out (by kernel_rfl)) ?_
             refine pu 8 (some 39) mz33_9 (any_of HT_.out (by kernel_rfl)) ?_
             refine tk 9 (some 40) mz33_10 hHeld (take_ofW HT_.out HW_.out (by kernel_rfl)) ?_
             refine one_ (i := 10) (N := some 41) mz33_11 rfl rfl (one_of HT_.out (by kernel_rfl)) (by decide) (fun K hK => ?_)
             refine goes_ Tryd.func61 (by kernel_rfl) rfl #[.agg #[.slice A0_0 l0_0.length c0_0, .slice A0_1 l0_1.length c0_1], .int .i64 (rd l1_2 0)] (by rfl) rfl rfl (by (try simp only [List.map_toArray, List.map_cons, List.map_nil]); first | done | rfl) ?_
             with_reducible refine (spec_l06Kind.calls kj7 _ _ l0_0 _ _ l0_1 (rd l1_2 0) t145 _ ?side1 ?side2 ?side3 ?side4 A21.out).mono ?_
             (case side1 => exact (Kd.C_below HR0_0.out HB.out))
             (case side2 => exact HC0_0.out)
             (case side3 => exact (Kd.C_below HR0_1.out HB.out))
             (case side4 => exact HC0_1.out)
             rintro e w30 ⟨rfl, hb⟩
             refine ⟨_, rfl, ?_⟩
             have n0_ := Aside0.mk (blk_below (by exact BK140.out) hb)
             have n1_ := Aside0.mk (blk_below (by exact BK141.out) hb)
             have n2_ := Aside0.mk (below_step (by repeat first | exact HB.out | apply pw_below_drewN) hb)
             clear BK140
             clear BK141
             clear HB
             have BK140 := n0_
             have BK141 := n1_
             have HB := n2_
             clear n0_ n1_ n2_
             (try clear hb)
             (try clear hb2)
             (try clear hk)
             (try clear hi)
             refine hK.out _ _ ⟨(blk_cell BK141.out 0).trans rfl, (blk_cell BK141.out 1).trans rfl, (blk_cell BK141.out 2).trans rfl, (blk_cell BK140.out 0).trans rfl, (blk_cell BK140.out 1).trans rfl, ((HB.out.cell (World.block_lt_of_cell? w _ hw144_0)).trans hw144_0)⟩ (fun hHeld => ?_)
             clear hK K
             refine norm_ (a' := ?_) ?_ ?_
             (rotate_left; ·(show Act.put _ (some 41) _ = _; simp only [Act.put, pq_z33]; rfl))
             refine pu 11 (some 42) mz33_12 (any_of HT_.out (by kernel_rfl)) ?_
             refine pu 12 (some 43) mz33_13 (any_of HT_.out (by kernel_rfl)) ?_
             refine pu 13 (some 44) mz33_14 (any_of HT_.out (by kernel_rfl)) ?_
             refine pu 14 (some 45) mz33_15 (any_of HT_.out (by kernel_rfl)) ?_
             refine pu 15 (some 46) mz33_16 (any_of HT_.out (by kernel_rfl)) ?_
             refine pu 16 (some 47) mz33_17 (any_of HT_.out (by kernel_rfl)) ?_
             refine pu 17 (some 48) mz33_18 (any_of HT_.out (by kernel_rfl)) ?_
             refine pu 18 (some 49) mz33_19 (any_of HT_.out (by kernel_rfl)) ?_
             refine pu 19 (some 50) mz33_20 (any_of HT_.out (by kernel_rfl)) ?_
             refine pu 20 (some 51) mz33_21 (any_of HT_.out (by kernel_rfl)) ?_
             refine done_ (done_of HT_.out (by kernel_rfl)) ?_
             try go_wp2
             go_ret
             exact ⟨by first | rfl | (simp [*, errW_none, errW_some] <;> rfl), by repeat first | exact HB.out | apply pw_below_drewN⟩
          ·rw [if_neg c22] at H
           have c22b0 : (t143 == t145) = false := beq_eq_false_iff_ne.mpr c22
           have c22b1 : (t143 != t145) = true := bne_iff_ne.mpr c22
           obtain rfl := Option.some.inj H
           try go_wp2
           have n0_ := Aside0.mk (blk_drew BK140.out)
           have n1_ := Aside0.mk (blk_drew BK141.out)
           have n2_ := Aside0.mk (below_drew1 HB.out)
           clear BK140
           clear BK141
           clear HB
           have BK140 := n0_
           have BK141 := n1_
           have HB := n2_
           clear n0_ n1_ n2_
           have p144 : 0 ≤ (0 : Int) := (by omega)
           have q144 : 0 < (l1_2.length : Int) := of_decide_eq_true (by assumption)
           obtain ⟨ad144, e144, hx144_0⟩ := Kd.at_int HR1_2.out 0 p144 q144
           have hw144_0 := hx144_0
           (try rw [show ((0 : Int)).toNat = 0 from rfl] at hw144_0)
           (try rw [show 0 * 1 = 0 from rfl] at hw144_0)
           (try rw [Addr.add_zero'] at hw144_0)
           obtain rfl : ad142 = ad144 := (by injection e144)
           have qi144 : (0 < l1_2.length) = True := eq_true (by omega)
           (try rw [show ((0 : Int)).toNat = 0 from rfl] at hx144_0)
           (try rw [Addr.add_zero'] at hx144_0)
           replace hx144_0 := (HB.out.cell (World.block_lt_of_cell? w _ hx144_0)).trans hx144_0
           replace p144 := eq_true p144
           replace q144 := eq_true q144
           refine start_ (n := 21) (S := fun w' => w'.cell? ⟨gb141, 0, none⟩ = some (.int .i64 a1_0) ∧ w'.cell? ⟨gb141, 1, none⟩ = some (.int .i64 a1_1) ∧ w'.cell? ⟨gb141, 2, none⟩ = some (.slice (some ad142) l1_2.length c1_2) ∧ w'.cell? ⟨gb140, 0, none⟩ = some (.slice A0_0 l0_0.length c0_0) ∧ w'.cell? ⟨gb140, 1, none⟩ = some (.slice A0_1 l0_1.length c0_1) ∧ w'.cell? ad142 = some (.int .i64 (rd l1_2 0))) (ds := []) mz33_0 (by kernel_rfl) rfl rfl ⟨(blk_cell BK141.out 0).trans rfl, (blk_cell BK141.out 1).trans rfl, (blk_cell BK141.out 2).trans rfl, (blk_cell BK140.out 0).trans rfl, (blk_cell BK140.out 1).trans rfl, ((HB.out.cell (World.block_lt_of_cell? w _ hw144_0)).trans hw144_0)⟩ (fun hHeld => ?_); refine with_tabW spec_l06Fits.tab7 spec_l06Fits.bits7 (fun HT_ HW_ => ?_)
           generalize wc.drew = w31 at BK140 BK141 HB hx144_0 hHeld ⊢
           refine pu 0 (some 31) mz33_1 (any_of HT_.out (by kernel_rfl)) ?_
           refine tk 1 (some 32) mz33_2 hHeld (take_ofW HT_.out HW_.out (by kernel_rfl)) ?_
           refine pu 2 (some 33) mz33_3 (any_of HT_.out (by kernel_rfl)) ?_
           refine pu 3 (some 34) mz33_4 (any_of HT_.out (by kernel_rfl)) ?_
           refine pu 4 (some 35) mz33_5 (any_of HT_.out (by kernel_rfl)) ?_
           refine pu 6 (some 37) mz33_6 (any_of HT_.out (by kernel_rfl)) ?_
           refine tk 5 (some 36) mz33_7 hHeld (take_ofW HT_.out HW_.out (by kernel_rfl)) ?_
           refine tk 7 (some 38) mz33_8 hHeld (take_ofW HT_.out HW_.out (by kernel_rfl)) ?_
           refine pu 8 (some 39) mz33_9 (any_of HT_.out (by kernel_rfl)) ?_
           refine tk 9 (some 40) mz33_10 hHeld (take_ofW HT_.out HW_.out (by kernel_rfl)) ?_
           refine one_ (i := 10) (N := some 41) mz33_11 rfl rfl (one_of HT_.out (by kernel_rfl)) (by decide) (fun K hK => ?_)
           refine goes_ Tryd.func61 (by kernel_rfl) rfl #[.agg #[.slice A0_0 l0_0.length c0_0, .slice A0_1 l0_1.length c0_1], .int .i64 (rd l1_2 0)] (by rfl) rfl rfl (by (try simp only [List.map_toArray, List.map_cons, List.map_nil]); first | done | rfl) ?_
           with_reducible refine (spec_l06Kind.calls kj7 _ _ l0_0 _ _ l0_1 (rd l1_2 0) t145 _ ?side1 ?side2 ?side3 ?side4 A21.out).mono ?_
           (case side1 => exact (Kd.C_below HR0_0.out HB.out))
           (case side2 => exact HC0_0.out)
           (case side3 => exact (Kd.C_below HR0_1.out HB.out))
           (case side4 => exact HC0_1.out)
           rintro e w32 ⟨rfl, hb⟩
           refine ⟨_, rfl, ?_⟩
           have n0_ := Aside0.mk (blk_below (by exact BK140.out) hb)
           have n1_ := Aside0.mk (blk_below (by exact BK141.out) hb)
           have n2_ := Aside0.mk (below_step (by repeat first | exact HB.out | apply pw_below_drewN) hb)
           clear BK140
           clear BK141
           clear HB
           have BK140 := n0_
           have BK141 := n1_
           have HB := n2_
           clear n0_ n1_ n2_
           (try clear hb)
           (try clear hb2)
           (try clear hk)
           (try clear hi)
           refine hK.out _ _ ⟨(blk_cell BK141.out 0).trans rfl, (blk_cell BK141.out 1).trans rfl, (blk_cell BK141.out 2).trans rfl, (blk_cell BK140.out 0).trans rfl, (blk_cell BK140.out 1).trans rfl, ((HB.out.cell (World.block_lt_of_cell? w _ hw144_0)).trans hw144_0)⟩ (fun hHeld => ?_)
           clear hK K
           refine norm_ (a' := ?_) ?_ ?_
           (rotate_left; ·(show Act.put _ (some 41) _ = _; simp only [Act.put, pq_z33]; rfl))
           refine pu 11 (some 42) mz33_12 (any_of HT_.out (by kernel_rfl)) ?_
           refine pu 12 (some 43) mz33_13 (any_of HT_.out (by kernel_rfl)) ?_
           refine po 13 (some 44) mz33_14 (any_of HT_.out (by kernel_rfl)) ?_
           refine po 14 (some 45) mz33_15 (any_of HT_.out (by kernel_rfl)) ?_
           refine po 15 (some 46) mz33_16 (any_of HT_.out (by kernel_rfl)) ?_
           refine po 16 (some 47) mz33_17 (any_of HT_.out (by kernel_rfl)) ?_
           refine po 17 (some 48) mz33_18 (any_of HT_.out (by kernel_rfl)) ?_
           refine po 18 (some 49) mz33_19 (any_of HT_.out (by kernel_rfl)) ?_
           refine pu 19 (some 50) mz33_20 (any_of HT_.out (by kernel_rfl)) ?_
           refine pu 20 (some 51) mz33_21 (any_of HT_.out (by kernel_rfl)) ?_
           refine done_ (done_of HT_.out (by kernel_rfl)) ?_
           try go_wp2
           go_ret
           exact ⟨by first | rfl | (simp [*, errW_none, errW_some] <;> rfl), by repeat first | exact HB.out | apply pw_below_drewN⟩
         ·rw [if_neg c20] at H
          exact absurd H (by simp)
        ·rw [if_neg c19] at H
         have c19b0 : (a1_1 == 3) = false := beq_eq_false_iff_ne.mpr c19
         have c19b1 : (a1_1 != 3) = true := bne_iff_ne.mpr c19
         have H' := Aside0.mk H
         clear H
         try go_wp2
         have n0_ := Aside0.mk (blk_drew BK140.out)
         have n1_ := Aside0.mk (blk_drew BK141.out)
         have n2_ := Aside0.mk (below_drew1 HB.out)
         clear BK140
         clear BK141
         clear HB
         have BK140 := n0_
         have BK141 := n1_
         have HB := n2_
         clear n0_ n1_ n2_
         refine start_ (n := 21) (S := fun w' => w'.cell? ⟨gb141, 0, none⟩ = some (.int .i64 a1_0) ∧ w'.cell? ⟨gb141, 1, none⟩ = some (.int .i64 a1_1) ∧ w'.cell? ⟨gb141, 2, none⟩ = some (.slice (some ad142) l1_2.length c1_2)) (ds := []) mz33_0 (by kernel_rfl) rfl rfl ⟨(blk_cell BK141.out 0).trans rfl, (blk_cell BK141.out 1).trans rfl, (blk_cell BK141.out 2).trans rfl⟩ (fun hHeld => ?_); refine with_tabW spec_l06Fits.tab7 spec_l06Fits.bits7 (fun HT_ HW_ => ?_)
         generalize wc.drew = w33 at BK140 BK141 HB hHeld ⊢
         refine pu 0 (some 31) mz33_1 (any_of HT_.out (by kernel_rfl)) ?_
         refine tk 1 (some 32) mz33_2 hHeld (take_ofW HT_.out HW_.out (by kernel_rfl)) ?_
         refine pu 2 (some 33) mz33_3 (any_of HT_.out (by kernel_rfl)) ?_
         refine pu 3 (some 34) mz33_4 (any_of HT_.out (by kernel_rfl)) ?_
         refine po 4 (some 35) mz33_5 (any_of HT_.out (by kernel_rfl)) ?_
         refine po 5 (some 36) mz33_22 (any_of HT_.out (by kernel_rfl)) ?_
         refine po 6 (some 37) mz33_7 (any_of HT_.out (by kernel_rfl)) ?_
         refine po 7 (some 38) mz33_8 (any_of HT_.out (by kernel_rfl)) ?_
         refine po 8 (some 39) mz33_9 (any_of HT_.out (by kernel_rfl)) ?_
         refine po 9 (some 40) mz33_10 (any_of HT_.out (by kernel_rfl)) ?_
         refine po 10 (some 41) mz33_11 (any_of HT_.out (by kernel_rfl)) ?_
         refine po 11 (some 42) mz33_12 (any_of HT_.out (by kernel_rfl)) ?_
         refine po 12 (some 43) mz33_13 (any_of HT_.out (by kernel_rfl)) ?_
         refine po 13 (some 44) mz33_14 (any_of HT_.out (by kernel_rfl)) ?_
         refine po 14 (some 45) mz33_15 (any_of HT_.out (by kernel_rfl)) ?_
         refine po 15 (some 46) mz33_16 (any_of HT_.out (by kernel_rfl)) ?_
         refine po 16 (some 47) mz33_17 (any_of HT_.out (by kernel_rfl)) ?_
         refine po 17 (some 48) mz33_18 (any_of HT_.out (by kernel_rfl)) ?_
         refine po 18 (some 49) mz33_19 (any_of HT_.out (by kernel_rfl)) ?_
         refine po 19 (some 50) mz33_20 (any_of HT_.out (by kernel_rfl)) ?_
         refine pu 20 (some 51) mz33_21 (any_of HT_.out (by kernel_rfl)) ?_
         refine done_ (done_of HT_.out (by kernel_rfl)) ?_
         try go_wp2
         go_roundg kj7
         case measure => have := HK1.out; have := HJ7.out; omega
         case rel => exact ⟨(wrap64 (x5_1 + 1)), (by first | rfl | (simp; done) | (simp [*]; done)), H', ⟨by have := HK1.out; have := HJ7.out; omega⟩, ⟨by exact BK140.out⟩, ⟨by exact BK141.out⟩, ⟨by repeat first | exact HB.out | apply pw_below_drewN⟩⟩
    ·rw [if_neg c6] at H
     exact absurd H (by simp)
   ·rw [if_neg c5] at H
    have c5b0 : decide (x5_1 < (l1_2.length : Int)) = false := decide_eq_false c5
    clear c5
    obtain rfl := Option.some.inj H
    have hcz35_0 := (blk_cell BK141.out 0).trans rfl
    have hcz35_1 := (blk_cell BK141.out 1).trans rfl
    have hcz35_2 := (blk_cell BK141.out 2).trans rfl
    go_wp2
    go_ret
    exact ⟨by first | rfl | (simp [*, errW_none, errW_some] <;> rfl), by repeat first | exact HB.out | apply pw_below_drewN⟩

/-! ### spec_l06OK: function 15 -/
mutual
def spec_l06OK.j0 : Nat → Bool → List (S65) → List (S62) → Option (Bool)
  | 0, _, _, _ => none
  | k + 1, x16, x147000, x147001 => if x16 = true then (some false) else (spec_l06OK.l0 k 0 x147000 x147001)
def spec_l06OK.l0 : Nat → Int → List (S65) → List (S62) → Option (Bool)
  | 0, _, _, _ => none
  | k + 1, x3, x147000, x147001 => if x3 < (x147001.length : Int) then (if 0 ≤ x3 then ((spec_l06Fits.f k x147000 x147001 ((rd_T62 x147001 x3).f0) ((rd_T62 x147001 x3).f1) ((rd_T62 x147001 x3).f2)).bind fun t151 => (if t151 = true then (spec_l06OK.l0 k (wrap64 (x3 + 1)) x147000 x147001) else (some false))) else (none)) else (some true)
end
def spec_l06OK.f (k : Nat) (l0_0 : List (S65)) (l0_1 : List (S62)) : Option (Bool) := (spec_l06Devices.f k l0_0 l0_1).bind fun t147 => (if t147 = true then ((spec_l06Buckets.f k l0_0 l0_1).bind fun t148 => (if t148 = true then ((spec_l06Once.f k l0_0 l0_1).bind fun t149 => (spec_l06OK.j0 k (!t149) l0_0 l0_1)) else (spec_l06OK.j0 k true l0_0 l0_1))) else (spec_l06OK.j0 k true l0_0 l0_1))
def spec_l06OK.T6 : Bool × List (List Nat × List Nat) := (true, [([], []), ([], []), ([1], [1]), ([], []), ([2, 3], [2, 3]), ([4], [4]), ([0, 5], [0, 5]), ([6], [6])])
def spec_l06OK.B6 : List Nat := [0, 0, 2, 0, 14, 30, 63, 127]
theorem spec_l06OK.tab6 : rtab .any (opsOf Tryd.f15 6) = spec_l06OK.T6 := by kernel_rfl
theorem spec_l06OK.bits6 : waitsOk spec_l06OK.T6.2 spec_l06OK.B6 = true := by kernel_rfl
theorem pu_z15 {P : Program} {ops : Array Oper} {Q : Exit → Act → World → Prop} {md : Region.Mode} {S : World → Prop} {ds : List Nat} {oi : Oper} {fuel : Nat} {l : Array Bool} {a : Act} {w : World} (i : Nat) (N : Option Tmp) (v : Value) (l' : Array Bool) (hi : ops[i]? = some oi) (hN : oi.dst = N) (hc : anyB md ops l l' i = true)
    (hQ : ∀ c a w, Q (.panic c) (a.put oi.dst v) w → Q (.panic c) a w) (hy : Yields P ops oi v a) (a' : Act) (ha : a.put N v = a')
    (h : wpAnyLast P md ops Q S ds fuel l' a' w) : wpAnyLast P md ops Q S ds (fuel + 1) l a w := pure_ l' hi hN hc hQ hy ha h
theorem pq_z15 : (∀ (l : List Value) (i : Nat) (v : Value), l.toArray.setIfInBounds i v = (l.set i v).toArray) ∧ (∀ (x v : Value) (xs : List Value), (x :: xs).set 0 v = v :: xs) ∧ (∀ (x v : Value) (xs : List Value) (n : Nat), (x :: xs).set (n + 1) v = x :: xs.set n v) ∧ (∀ n : Int, IntKind.i64.wrap n = Go.RowKit.wrap64 n) ∧ (∀ n : Int, IntKind.i32.wrap n = Go.RowKit.wrap32 n) :=
  ⟨fun l i v => List.setIfInBounds_toArray l i v, fun _ _ _ => rfl, fun _ _ _ _ => rfl, i64_w, i32_w⟩
set_option maxHeartbeats 8000000 in
set_option maxRecDepth 100000 in
theorem spec_l06OK.calls (k : Nat) (A0_0 : Option Addr) (c0_0 : Nat) (l0_0 : List (S65)) (A0_1 : Option Addr) (c0_1 : Nat) (l0_1 : List (S62)) (r : Bool) (w : World) (hr0_0 : Kd.C k65 w A0_0 l0_0.length l0_0) (hc0_0 : l0_0.length ≤ c0_0) (hr0_1 : Kd.C k62 w A0_1 l0_1.length l0_1) (hc0_1 : l0_1.length ≤ c0_1) (h : spec_l06OK.f k l0_0 l0_1 = some r) :
  Calls Tryd.prog 15 #[.agg #[.slice A0_0 l0_0.length c0_0, .slice A0_1 l0_1.length c0_1]] w fun e w' => e = .returned (.bool r) ∧ Below w.heap.size w w' := by
 have hu32 := Tryd.underlying32
 have hu62 := Tryd.underlying62
 have HR0_0 := Aside0.mk hr0_0
 have HC0_0 := Aside0.mk hc0_0
 clear hr0_0 hc0_0
 have HR0_1 := Aside0.mk hr0_1
 have HC0_1 := Aside0.mk hc0_1
 clear hr0_1 hc0_1
 have HB := Aside0.mk (Below.refl w.heap.size w)
 have H : ((spec_l06Devices.f k l0_0 l0_1).bind fun t147 => (if t147 = true then ((spec_l06Buckets.f k l0_0 l0_1).bind fun t148 => (if t148 = true then ((spec_l06Once.f k l0_0 l0_1).bind fun t149 => (spec_l06OK.j0 k (!t149) l0_0 l0_1)) else (spec_l06OK.j0 k true l0_0 l0_1))) else (spec_l06OK.j0 k true l0_0 l0_1))) = some r := h
 clear h
 have HC2 := Aside0.mk H
 clear H
 go_enter Tryd.func15, Tryd.ntmps15
 go_upto_region 1 with (first | ((with_reducible refine gate_dst (N := 1) rfl ?_); refine box_event ?hg (N := 1) ?hd (cs := #[.slice A0_0 l0_0.length c0_0, .slice A0_1 l0_1.length c0_1]) (t := 32) ?hr ?_; (case hd => rfl); (case hg => rfl); (case hr => first | (go_simp; done) | (go_simp; rfl)); intro gb146 hg w3 hbox hb; have n0_ := Aside0.mk (below_step (by repeat first | exact HB.out | apply pw_below_drewN) hb); have n1_ := Aside0.mk (hbox); clear HB; have HB := n0_; have BK146 := n1_; clear n0_ n1_; clear hb hbox hg))
 (try simp only [Act.put, List.setIfInBounds_toArray, List.set_cons_zero, List.set_cons_succ])
 go_cut [16] (fun v16 wc => ∃ (kq : Nat) (x16_1 : Bool), v16 = .bool x16_1 ∧ Aside0 (spec_l06OK.j0 kq x16_1 l0_0 l0_1 = some r) ∧ Aside0 (kq ≤ k) ∧ Aside0 (wc.heap[gb146]? = some (.cells #[(.slice A0_0 l0_0.length c0_0), (.slice A0_1 l0_1.length c0_1)] 32 (0, 0))) ∧ Aside0 (Below w.heap.size w wc))
 case first =>
  have H := HC2.out
  clear HC2
  replace H := Option.bind_eq_some_iff.mp H
  obtain ⟨t147, A40, H⟩ := H
  set_option simprocs false in try dsimp only at H
  have A4 := Aside0.mk A40
  clear A40
  by_cases c5 : t147 = true
  ·subst c5
   rw [if_pos rfl] at H
   replace H := Option.bind_eq_some_iff.mp H
   obtain ⟨t148, A60, H⟩ := H
   set_option simprocs false in try dsimp only at H
   have A6 := Aside0.mk A60
   clear A60
   by_cases c7 : t148 = true
   ·subst c7
    rw [if_pos rfl] at H
    replace H := Option.bind_eq_some_iff.mp H
    obtain ⟨t149, A80, H⟩ := H
    set_option simprocs false in try dsimp only at H
    have A8 := Aside0.mk A80
    clear A80
    have H' := Aside0.mk H
    clear H
    have hcz9_0 := (blk_cell BK146.out 0).trans rfl
    have hcz9_1 := (blk_cell BK146.out 1).trans rfl
    go_wp2_with (first | ((with_reducible refine gate_callee (f := 30) rfl ?_); refine goesL_ (some 5) rfl rfl Tryd.func30 (by kernel_rfl) rfl #[.agg #[.slice A0_0 l0_0.length c0_0, .slice A0_1 l0_1.length c0_1]] rfl (by (try simp only [List.map_toArray, List.map_cons, List.map_nil]); first | done | rfl) ?_; (with_reducible refine (spec_l06Devices.calls k _ _ l0_0 _ _ l0_1 true _ ?side1 ?side2 ?side3 ?side4 A4.out).mono ?_); (case side1 => exact (Kd.C_below HR0_0.out HB.out)); (case side2 => exact HC0_0.out); (case side3 => exact (Kd.C_below HR0_1.out HB.out)); (case side4 => exact HC0_1.out); rintro e w10 ⟨rfl, hb⟩; refine ⟨_, rfl, ?_⟩; have n0_ := Aside0.mk (blk_below (by exact BK146.out) hb); have n1_ := Aside0.mk (below_step (by repeat first | exact HB.out | apply pw_below_drewN) hb); clear BK146; clear HB; have BK146 := n0_; have HB := n1_; clear n0_ n1_; (try clear hb); (try clear hb2); (try clear hk); (try clear hi); have hcz11_0 := (blk_cell BK146.out 0).trans rfl; have hcz11_1 := (blk_cell BK146.out 1).trans rfl) | (go_at_call 31; (with_reducible refine (spec_l06Buckets.calls k _ _ l0_0 _ _ l0_1 true _ ?side1 ?side2 ?side3 ?side4 A6.out).mono ?_); (case side1 => exact (Kd.C_below HR0_0.out HB.out)); (case side2 => exact HC0_0.out); (case side3 => exact (Kd.C_below HR0_1.out HB.out)); (case side4 => exact HC0_1.out); rintro e w12 ⟨rfl, hb⟩; have n0_ := Aside0.mk (blk_below (by exact BK146.out) hb); have n1_ := Aside0.mk (below_step (by repeat first | exact HB.out | apply pw_below_drewN) hb); clear BK146; clear HB; have BK146 := n0_; have HB := n1_; clear n0_ n1_; (try clear hb); (try clear hb2); (try clear hk); (try clear hi); have hcz13_0 := (blk_cell BK146.out 0).trans rfl; have hcz13_1 := (blk_cell BK146.out 1).trans rfl) | (go_at_call 32; (with_reducible refine (spec_l06Once.calls k _ _ l0_0 _ _ l0_1 t149 _ ?side1 ?side2 ?side3 ?side4 A8.out).mono ?_); (case side1 => exact (Kd.C_below HR0_0.out HB.out)); (case side2 => exact HC0_0.out); (case side3 => exact (Kd.C_below HR0_1.out HB.out)); (case side4 => exact HC0_1.out); rintro e w14 ⟨rfl, hb⟩; have n0_ := Aside0.mk (blk_below (by exact BK146.out) hb); have n1_ := Aside0.mk (below_step (by repeat first | exact HB.out | apply pw_below_drewN) hb); clear BK146; clear HB; have BK146 := n0_; have HB := n1_; clear n0_ n1_; (try clear hb); (try clear hb2); (try clear hk); (try clear hi)))
    go_meet
    case rel => exact ⟨_, (!t149), (by first | rfl | (simp; done) | (simp [*]; done)), H', ⟨by first | omega | exact Nat.le_refl _⟩, ⟨by exact BK146.out⟩, ⟨by repeat first | exact HB.out | apply pw_below_drewN⟩⟩
   ·replace c7 := Bool.eq_false_iff.mpr c7
    subst c7
    rw [if_neg (show ¬ (false = true) by decide)] at H
    have H' := Aside0.mk H
    clear H
    have hcz15_0 := (blk_cell BK146.out 0).trans rfl
    have hcz15_1 := (blk_cell BK146.out 1).trans rfl
    go_wp2_with (first | ((with_reducible refine gate_callee (f := 30) rfl ?_); refine goesL_ (some 5) rfl rfl Tryd.func30 (by kernel_rfl) rfl #[.agg #[.slice A0_0 l0_0.length c0_0, .slice A0_1 l0_1.length c0_1]] rfl (by (try simp only [List.map_toArray, List.map_cons, List.map_nil]); first | done | rfl) ?_; (with_reducible refine (spec_l06Devices.calls k _ _ l0_0 _ _ l0_1 true _ ?side1 ?side2 ?side3 ?side4 A4.out).mono ?_); (case side1 => exact (Kd.C_below HR0_0.out HB.out)); (case side2 => exact HC0_0.out); (case side3 => exact (Kd.C_below HR0_1.out HB.out)); (case side4 => exact HC0_1.out); rintro e w16 ⟨rfl, hb⟩; refine ⟨_, rfl, ?_⟩; have n0_ := Aside0.mk (blk_below (by exact BK146.out) hb); have n1_ := Aside0.mk (below_step (by repeat first | exact HB.out | apply pw_below_drewN) hb); clear BK146; clear HB; have BK146 := n0_; have HB := n1_; clear n0_ n1_; (try clear hb); (try clear hb2); (try clear hk); (try clear hi); have hcz17_0 := (blk_cell BK146.out 0).trans rfl; have hcz17_1 := (blk_cell BK146.out 1).trans rfl) | (go_at_call 31; (with_reducible refine (spec_l06Buckets.calls k _ _ l0_0 _ _ l0_1 false _ ?side1 ?side2 ?side3 ?side4 A6.out).mono ?_); (case side1 => exact (Kd.C_below HR0_0.out HB.out)); (case side2 => exact HC0_0.out); (case side3 => exact (Kd.C_below HR0_1.out HB.out)); (case side4 => exact HC0_1.out); rintro e w18 ⟨rfl, hb⟩; have n0_ := Aside0.mk (blk_below (by exact BK146.out) hb); have n1_ := Aside0.mk (below_step (by repeat first | exact HB.out | apply pw_below_drewN) hb); clear BK146; clear HB; have BK146 := n0_; have HB := n1_; clear n0_ n1_; (try clear hb); (try clear hb2); (try clear hk); (try clear hi)))
    go_meet
    case rel => exact ⟨_, (true), (by first | rfl | (simp; done) | (simp [*]; done)), H', ⟨by first | omega | exact Nat.le_refl _⟩, ⟨by exact BK146.out⟩, ⟨by repeat first | exact HB.out | apply pw_below_drewN⟩⟩
  ·replace c5 := Bool.eq_false_iff.mpr c5
   subst c5
   rw [if_neg (show ¬ (false = true) by decide)] at H
   have H' := Aside0.mk H
   clear H
   have hcz19_0 := (blk_cell BK146.out 0).trans rfl
   have hcz19_1 := (blk_cell BK146.out 1).trans rfl
   go_wp2_with (first | ((with_reducible refine gate_callee (f := 30) rfl ?_); refine goesL_ (some 5) rfl rfl Tryd.func30 (by kernel_rfl) rfl #[.agg #[.slice A0_0 l0_0.length c0_0, .slice A0_1 l0_1.length c0_1]] rfl (by (try simp only [List.map_toArray, List.map_cons, List.map_nil]); first | done | rfl) ?_; (with_reducible refine (spec_l06Devices.calls k _ _ l0_0 _ _ l0_1 false _ ?side1 ?side2 ?side3 ?side4 A4.out).mono ?_); (case side1 => exact (Kd.C_below HR0_0.out HB.out)); (case side2 => exact HC0_0.out); (case side3 => exact (Kd.C_below HR0_1.out HB.out)); (case side4 => exact HC0_1.out); rintro e w20 ⟨rfl, hb⟩; refine ⟨_, rfl, ?_⟩; have n0_ := Aside0.mk (blk_below (by exact BK146.out) hb); have n1_ := Aside0.mk (below_step (by repeat first | exact HB.out | apply pw_below_drewN) hb); clear BK146; clear HB; have BK146 := n0_; have HB := n1_; clear n0_ n1_; (try clear hb); (try clear hb2); (try clear hk); (try clear hi)))
   go_meet
   case rel => exact ⟨_, (true), (by first | rfl | (simp; done) | (simp [*]; done)), H', ⟨by first | omega | exact Nat.le_refl _⟩, ⟨by exact BK146.out⟩, ⟨by repeat first | exact HB.out | apply pw_below_drewN⟩⟩
 case rest =>
  clear HC2
  try clear c1
  try clear p2
  try clear c3
  try clear c5
  try clear c7
  try clear c15
  try clear hcz11_0
  try clear hcz11_1
  try clear hcz13_0
  try clear hcz13_1
  try clear hcz15_0
  try clear hcz15_1
  try clear hcz17_0
  try clear hcz17_1
  try clear hcz19_0
  try clear hcz19_1
  try clear hcz9_0
  try clear hcz9_1
  obtain ⟨kq, x16_1, rfl, HA, HJ1, BK146, HB⟩ := hcut
  cases kq with
  | zero => exact absurd HA.out (by simp [spec_l06OK.j0])
  | succ kj1 =>
   have H := HA.out
   clear HA
   simp only [spec_l06OK.j0] at H
   by_cases c21 : x16_1 = true
   ·subst c21
    rw [if_pos rfl] at H
    obtain rfl := Option.some.inj H
    go_wp2
    go_ret
    exact ⟨by first | rfl | (simp [*, errW_none, errW_some] <;> rfl), by repeat first | exact HB.out | apply pw_below_drewN⟩
   ·replace c21 := Bool.eq_false_iff.mpr c21
    subst c21
    rw [if_neg (show ¬ (false = true) by decide)] at H
    have H' := Aside0.mk H
    clear H
    go_wp2
    go_loopg [3] kj1 (fun kq v3 w' => ∃ (x3_2 : Int), v3 = .int .i64 x3_2 ∧ Aside0 (spec_l06OK.l0 kq x3_2 l0_0 l0_1 = some r) ∧ Aside0 (kq ≤ kj1) ∧ Aside0 (w'.heap[gb146]? = some (.cells #[(.slice A0_0 l0_0.length c0_0), (.slice A0_1 l0_1.length c0_1)] 32 (0, 0))) ∧ Aside0 (Below w.heap.size w w'))
    case atStart => exact ⟨(0), (by first | rfl | (simp; done) | (simp [*]; done)), H', ⟨Nat.le_refl _⟩, ⟨by exact BK146.out⟩, ⟨by repeat first | exact HB.out | apply pw_below_drewN⟩⟩
    case round =>
     clear H'
     try clear c1
     try clear c2
     try clear p2
     try clear c3
     try clear c5
     try clear c7
     try clear c15
     try clear c21
     try clear hcz11_0
     try clear hcz11_1
     try clear hcz13_0
     try clear hcz13_1
     try clear hcz15_0
     try clear hcz15_1
     try clear hcz17_0
     try clear hcz17_1
     try clear hcz19_0
     try clear hcz19_1
     try clear hcz9_0
     try clear hcz9_1
     try clear p2
     obtain ⟨x3_2, rfl, HA, HK2, BK146, HB⟩ := hrel
     cases gk with
     | zero => exact absurd HA.out (by simp [spec_l06OK.l0])
     | succ k2 =>
      have H := HA.out
      clear HA
      simp only [spec_l06OK.l0] at H
      by_cases c22 : x3_2 < (l0_1.length : Int)
      ·rw [if_pos c22] at H
       have c22b0 : decide (x3_2 < (l0_1.length : Int)) = true := decide_eq_true c22
       clear c22
       by_cases c23 : 0 ≤ x3_2
       ·rw [if_pos c23] at H
        have c23b0 : decide (0 ≤ x3_2) = true := decide_eq_true c23
        clear c23
        replace H := Option.bind_eq_some_iff.mp H
        obtain ⟨t151, A240, H⟩ := H
        set_option simprocs false in try dsimp only at H
        have A24 := Aside0.mk A240
        clear A240
        by_cases c25 : t151 = true
        ·subst c25
         rw [if_pos rfl] at H
         have H' := Aside0.mk H
         clear H
         have hcz26_0 := (blk_cell BK146.out 0).trans rfl
         have hcz26_1 := (blk_cell BK146.out 1).trans rfl
         try go_wp2
         have n0_ := Aside0.mk (blk_drew BK146.out)
         have n1_ := Aside0.mk (below_drew1 HB.out)
         clear BK146
         clear HB
         have BK146 := n0_
         have HB := n1_
         clear n0_ n1_
         have p150 : 0 ≤ (x3_2 : Int) := of_decide_eq_true (by assumption)
         have q150 : x3_2 < (l0_1.length : Int) := of_decide_eq_true (by assumption)
         obtain ⟨ad150, A150_2, c150_2, e150, hx150_0, hx150_1, hx150_2, hl150_2, hi150_2⟩ := at_T62 HR0_1.out x3_2 p150 q150
         have hw150_2 := hx150_2
         have hw150_1 := hx150_1
         have hw150_0 := hx150_0
         cases e150
         replace hx150_0 := (HB.out.cell (World.block_lt_of_cell? w _ hx150_0)).trans hx150_0
         replace hx150_1 := (HB.out.cell (World.block_lt_of_cell? w _ hx150_1)).trans hx150_1
         replace hx150_2 := (HB.out.cell (World.block_lt_of_cell? w _ hx150_2)).trans hx150_2
         have HR150_2 := Aside0.mk hi150_2
         have HC150_2 := Aside0.mk hl150_2
         clear hi150_2 hl150_2
         replace p150 := eq_true p150
         replace q150 := eq_true q150
         refine start_ (n := 8) (S := fun w' => w'.cell? ⟨gb146, 0, none⟩ = some (.slice A0_0 l0_0.length c0_0) ∧ w'.cell? ⟨gb146, 1, none⟩ = some (.slice (some ad150) l0_1.length c0_1) ∧ w'.cell? (ad150.add ((x3_2).toNat * 3)) = some (.int .i64 ((rd_T62 l0_1 x3_2).f0)) ∧ w'.cell? ⟨(ad150.add ((x3_2).toNat * 3)).block, (ad150.add ((x3_2).toNat * 3)).off + 1, none⟩ = some (.int .i64 ((rd_T62 l0_1 x3_2).f1)) ∧ w'.cell? ⟨(ad150.add ((x3_2).toNat * 3)).block, (ad150.add ((x3_2).toNat * 3)).off + 2, none⟩ = some (.slice A150_2 ((rd_T62 l0_1 x3_2).f2).length c150_2)) (ds := []) #[false, false, false, false, false, false, false, false] (by kernel_rfl) rfl rfl ⟨(blk_cell BK146.out 0).trans rfl, (blk_cell BK146.out 1).trans rfl, ((HB.out.cell (World.block_lt_of_cell? w _ hw150_0)).trans hw150_0), ((HB.out.cell (World.block_lt_of_cell? w _ hw150_1)).trans hw150_1), ((HB.out.cell (World.block_lt_of_cell? w _ hw150_2)).trans hw150_2)⟩ (fun hHeld => ?_); refine with_tabW spec_l06OK.tab6 spec_l06OK.bits6 (fun HT_ HW_ => ?_)
         generalize wr.drew = w27 at BK146 HB HR150_2 hx150_0 hx150_1 hx150_2 hHeld ⊢
         refine pu 1 (some 25) #[false, true, false, false, false, false, false, false] (any_of HT_.out (by kernel_rfl)) ?_
         refine pu 3 (some 27) #[false, true, false, true, false, false, false, false] (any_of HT_.out (by kernel_rfl)) ?_
         refine tk 0 (some 24) #[true, true, false, true, false, false, false, false] hHeld (take_ofW HT_.out HW_.out (by kernel_rfl)) ?_
         refine tk 2 (some 26) #[true, true, true, true, false, false, false, false] hHeld (take_ofW HT_.out HW_.out (by kernel_rfl)) ?_
         refine pu 4 (some 28) #[true, true, true, true, true, false, false, false] (any_of HT_.out (by kernel_rfl)) ?_
         refine tk 5 (some 29) #[true, true, true, true, true, true, false, false] hHeld (take_ofW HT_.out HW_.out (by kernel_rfl)) ?_
         refine one_ (i := 6) (N := some 30) #[true, true, true, true, true, true, true, false] rfl rfl (one_of HT_.out (by kernel_rfl)) (by decide) (fun K hK => ?_)
         refine goes_ Tryd.func33 (by kernel_rfl) rfl #[.agg #[.slice A0_0 l0_0.length c0_0, .slice (some ad150) l0_1.length c0_1], .agg #[.int .i64 ((rd_T62 l0_1 x3_2).f0), .int .i64 ((rd_T62 l0_1 x3_2).f1), .slice A150_2 ((rd_T62 l0_1 x3_2).f2).length c150_2]] (by rfl) rfl rfl (by (try simp only [List.map_toArray, List.map_cons, List.map_nil]); first | done | rfl) ?_
         with_reducible refine (spec_l06Fits.calls k2 _ _ l0_0 _ _ l0_1 ((rd_T62 l0_1 x3_2).f0) ((rd_T62 l0_1 x3_2).f1) _ _ ((rd_T62 l0_1 x3_2).f2) true _ ?side1 ?side2 ?side3 ?side4 ?side5 ?side6 A24.out).mono ?_
         (case side1 => exact (Kd.C_below HR0_0.out HB.out))
         (case side2 => exact HC0_0.out)
         (case side3 => exact (Kd.C_below HR0_1.out HB.out))
         (case side4 => exact HC0_1.out)
         (case side5 => exact (Kd.C_below HR150_2.out HB.out))
         (case side6 => exact HC150_2.out)
         rintro e w28 ⟨rfl, hb⟩
         refine ⟨_, rfl, ?_⟩
         have n0_ := Aside0.mk (blk_below (by exact BK146.out) hb)
         have n1_ := Aside0.mk (below_step (by repeat first | exact HB.out | apply pw_below_drewN) hb)
         clear BK146
         clear HB
         have BK146 := n0_
         have HB := n1_
         clear n0_ n1_
         (try clear hb)
         (try clear hb2)
         (try clear hk)
         (try clear hi)
         refine hK.out _ _ ⟨(blk_cell BK146.out 0).trans rfl, (blk_cell BK146.out 1).trans rfl, ((HB.out.cell (World.block_lt_of_cell? w _ hw150_0)).trans hw150_0), ((HB.out.cell (World.block_lt_of_cell? w _ hw150_1)).trans hw150_1), ((HB.out.cell (World.block_lt_of_cell? w _ hw150_2)).trans hw150_2)⟩ (fun hHeld => ?_)
         clear hK K
         refine norm_ (a' := ?_) ?_ ?_
         (rotate_left; ·(show Act.put _ (some 30) _ = _; simp only [Act.put, pq_z15]; rfl))
         refine pu 7 (some 31) #[true, true, true, true, true, true, true, true] (any_of HT_.out (by kernel_rfl)) ?_
         refine done_ (done_of HT_.out (by kernel_rfl)) ?_
         try go_wp2
         go_roundg k2
         case measure => have := HJ1.out; have := HK2.out; omega
         case rel => exact ⟨(wrap64 (x3_2 + 1)), (by first | rfl | (simp; done) | (simp [*]; done)), H', ⟨by have := HJ1.out; have := HK2.out; omega⟩, ⟨by exact BK146.out⟩, ⟨by repeat first | exact HB.out | apply pw_below_drewN⟩⟩
        ·replace c25 := Bool.eq_false_iff.mpr c25
         subst c25
         rw [if_neg (show ¬ (false = true) by decide)] at H
         obtain rfl := Option.some.inj H
         have hcz29_0 := (blk_cell BK146.out 0).trans rfl
         have hcz29_1 := (blk_cell BK146.out 1).trans rfl
         try go_wp2
         have n0_ := Aside0.mk (blk_drew BK146.out)
         have n1_ := Aside0.mk (below_drew1 HB.out)
         clear BK146
         clear HB
         have BK146 := n0_
         have HB := n1_
         clear n0_ n1_
         have p150 : 0 ≤ (x3_2 : Int) := of_decide_eq_true (by assumption)
         have q150 : x3_2 < (l0_1.length : Int) := of_decide_eq_true (by assumption)
         obtain ⟨ad150, A150_2, c150_2, e150, hx150_0, hx150_1, hx150_2, hl150_2, hi150_2⟩ := at_T62 HR0_1.out x3_2 p150 q150
         have hw150_2 := hx150_2
         have hw150_1 := hx150_1
         have hw150_0 := hx150_0
         cases e150
         replace hx150_0 := (HB.out.cell (World.block_lt_of_cell? w _ hx150_0)).trans hx150_0
         replace hx150_1 := (HB.out.cell (World.block_lt_of_cell? w _ hx150_1)).trans hx150_1
         replace hx150_2 := (HB.out.cell (World.block_lt_of_cell? w _ hx150_2)).trans hx150_2
         have HR150_2 := Aside0.mk hi150_2
         have HC150_2 := Aside0.mk hl150_2
         clear hi150_2 hl150_2
         replace p150 := eq_true p150
         replace q150 := eq_true q150
         refine start_ (n := 8) (S := fun w' => w'.cell? ⟨gb146, 0, none⟩ = some (.slice A0_0 l0_0.length c0_0) ∧ w'.cell? ⟨gb146, 1, none⟩ = some (.slice (some ad150) l0_1.length c0_1) ∧ w'.cell? (ad150.add ((x3_2).toNat * 3)) = some (.int .i64 ((rd_T62 l0_1 x3_2).f0)) ∧ w'.cell? ⟨(ad150.add ((x3_2).toNat * 3)).block, (ad150.add ((x3_2).toNat * 3)).off + 1, none⟩ = some (.int .i64 ((rd_T62 l0_1 x3_2).f1)) ∧ w'.cell? ⟨(ad150.add ((x3_2).toNat * 3)).block, (ad150.add ((x3_2).toNat * 3)).off + 2, none⟩ = some (.slice A150_2 ((rd_T62 l0_1 x3_2).f2).length c150_2)) (ds := []) #[false, false, false, false, false, false, false, false] (by kernel_rfl) rfl rfl ⟨(blk_cell BK146.out 0).trans rfl, (blk_cell BK146.out 1).trans rfl, ((HB.out.cell (World.block_lt_of_cell? w _ hw150_0)).trans hw150_0), ((HB.out.cell (World.block_lt_of_cell? w _ hw150_1)).trans hw150_1), ((HB.out.cell (World.block_lt_of_cell? w _ hw150_2)).trans hw150_2)⟩ (fun hHeld => ?_); refine with_tabW spec_l06OK.tab6 spec_l06OK.bits6 (fun HT_ HW_ => ?_)
         generalize wr.drew = w30 at BK146 HB HR150_2 hx150_0 hx150_1 hx150_2 hHeld ⊢
         refine pu 1 (some 25) #[false, true, false, false, false, false, false, false] (any_of HT_.out (by kernel_rfl)) ?_
         refine pu 3 (some 27) #[false, true, false, true, false, false, false, false] (any_of HT_.out (by kernel_rfl)) ?_
         refine tk 0 (some 24) #[true, true, false, true, false, false, false, false] hHeld (take_ofW HT_.out HW_.out (by kernel_rfl)) ?_
         refine tk 2 (some 26) #[true, true, true, true, false, false, false, false] hHeld (take_ofW HT_.out HW_.out (by kernel_rfl)) ?_
         refine pu 4 (some 28) #[true, true, true, true, true, false, false, false] (any_of HT_.out (by kernel_rfl)) ?_
         refine tk 5 (some 29) #[true, true, true, true, true, true, false, false] hHeld (take_ofW HT_.out HW_.out (by kernel_rfl)) ?_
         refine one_ (i := 6) (N := some 30) #[true, true, true, true, true, true, true, false] rfl rfl (one_of HT_.out (by kernel_rfl)) (by decide) (fun K hK => ?_)
         refine goes_ Tryd.func33 (by kernel_rfl) rfl #[.agg #[.slice A0_0 l0_0.length c0_0, .slice (some ad150) l0_1.length c0_1], .agg #[.int .i64 ((rd_T62 l0_1 x3_2).f0), .int .i64 ((rd_T62 l0_1 x3_2).f1), .slice A150_2 ((rd_T62 l0_1 x3_2).f2).length c150_2]] (by rfl) rfl rfl (by (try simp only [List.map_toArray, List.map_cons, List.map_nil]); first | done | rfl) ?_
         with_reducible refine (spec_l06Fits.calls k2 _ _ l0_0 _ _ l0_1 ((rd_T62 l0_1 x3_2).f0) ((rd_T62 l0_1 x3_2).f1) _ _ ((rd_T62 l0_1 x3_2).f2) false _ ?side1 ?side2 ?side3 ?side4 ?side5 ?side6 A24.out).mono ?_
         (case side1 => exact (Kd.C_below HR0_0.out HB.out))
         (case side2 => exact HC0_0.out)
         (case side3 => exact (Kd.C_below HR0_1.out HB.out))
         (case side4 => exact HC0_1.out)
         (case side5 => exact (Kd.C_below HR150_2.out HB.out))
         (case side6 => exact HC150_2.out)
         rintro e w31 ⟨rfl, hb⟩
         refine ⟨_, rfl, ?_⟩
         have n0_ := Aside0.mk (blk_below (by exact BK146.out) hb)
         have n1_ := Aside0.mk (below_step (by repeat first | exact HB.out | apply pw_below_drewN) hb)
         clear BK146
         clear HB
         have BK146 := n0_
         have HB := n1_
         clear n0_ n1_
         (try clear hb)
         (try clear hb2)
         (try clear hk)
         (try clear hi)
         refine hK.out _ _ ⟨(blk_cell BK146.out 0).trans rfl, (blk_cell BK146.out 1).trans rfl, ((HB.out.cell (World.block_lt_of_cell? w _ hw150_0)).trans hw150_0), ((HB.out.cell (World.block_lt_of_cell? w _ hw150_1)).trans hw150_1), ((HB.out.cell (World.block_lt_of_cell? w _ hw150_2)).trans hw150_2)⟩ (fun hHeld => ?_)
         clear hK K
         refine norm_ (a' := ?_) ?_ ?_
         (rotate_left; ·(show Act.put _ (some 30) _ = _; simp only [Act.put, pq_z15]; rfl))
         refine pu 7 (some 31) #[true, true, true, true, true, true, true, true] (any_of HT_.out (by kernel_rfl)) ?_
         refine done_ (done_of HT_.out (by kernel_rfl)) ?_
         try go_wp2
         go_ret
         exact ⟨by first | rfl | (simp [*, errW_none, errW_some] <;> rfl), by repeat first | exact HB.out | apply pw_below_drewN⟩
       ·rw [if_neg c23] at H
        exact absurd H (by simp)
      ·rw [if_neg c22] at H
       have c22b0 : decide (x3_2 < (l0_1.length : Int)) = false := decide_eq_false c22
       clear c22
       obtain rfl := Option.some.inj H
       have hcz32_0 := (blk_cell BK146.out 0).trans rfl
       have hcz32_1 := (blk_cell BK146.out 1).trans rfl
       go_wp2
       go_ret
       exact ⟨by first | rfl | (simp [*, errW_none, errW_some] <;> rfl), by repeat first | exact HB.out | apply pw_below_drewN⟩

end Go.Proofs.YtohjpgcmhihdhaaDoor.Q

namespace Go.Proofs.YtohjpgcmhihdhaaDoor.Pure
open Go.RowKit Go.Proofs.YtohjpgcmhihdhaaDoor.Q Go.Proofs.YtohjpgcmhihdhaaDoorW.PrintWords Go.Proofs.YtohjpgcmhihdhaaDoorW.PrintLast Go.Proofs.YtohjpgcmhihdhaaDoorW.PrintMore
set_option linter.unusedVariables false
set_option linter.unusedSimpArgs false
/-! devices -/
def devStep (D : List S65) (i : Nat) : Bool := inB (rd_T65 D i).f0 0 15 && inB (rd_T65 D i).f1 0 8 && !(decide (0 < i) && decide ((rd_T65 D i).f0 ≤ (rd_T65 D ((i : Int) - 1)).f0))
def devsB (D : List S65) : Bool := (List.range D.length).all (devStep D) && decide (D.length ≤ 16)
theorem wrap_down (i : Nat) (h : 0 < i) (hn : i ≤ 9223372036854775807) : wrap64 ((i : Int) - 1) = (i : Int) - 1 := by unfold wrap64; omega
theorem spec_devs_ev (D : List S65) (B : List S62) : Ev (fun k => spec_l06Devices.f k D B) (devsB D) := by
  unfold spec_l06Devices.f devsB
  by_cases h : (D.length : Int) > 16
  · simp only [if_pos h, decide_eq_false (show ¬ (D.length ≤ 16) by omega), Bool.and_false]
    exact Ev.now _
  · simp only [if_neg h, decide_eq_true (show D.length ≤ 16 by omega), Bool.and_true]
    have hu : ∀ (i : Nat), i < D.length → ∀ k, spec_l06Devices.l0 (k + 1) i D B = if devStep D i = true then spec_l06Devices.l0 k ((i + 1 : Nat) : Int) D B else some false := fun i hi k => by
      simp only [spec_l06Devices.l0]
      rw [if_pos (by omega), if_pos (by omega), in_inB, in_inB, up64 i D.length hi (by omega)]
      simp only [Option.bind_some]
      unfold devStep
      cases inB (rd_T65 D i).f0 0 15 with
      | false => simp
      | true =>
        cases inB (rd_T65 D i).f1 0 8 with
        | false => simp
        | true =>
          by_cases c : 0 < i
          · rw [if_pos rfl, if_pos rfl, if_pos (by omega), wrap_down i c (by omega), if_pos (by omega), if_pos (by omega)]
            by_cases c2 : (rd_T65 D i).f0 ≤ (rd_T65 D ((i : Int) - 1)).f0 <;> simp [c, c2]
          · rw [if_pos rfl, if_pos rfl, if_neg (by omega)]
            simp [c]
    exact all_loop D.length (fun k i => spec_l06Devices.l0 k i D B) (devStep D) (fun i hi hc => ev_next (fun k => by rw [hu i hi k, if_pos hc])) (fun i hi hc => ev_end (fun k => by rw [hu i hi k, if_neg (by rw [hc]; decide)])) (fun k => by simp only [spec_l06Devices.l0]; rw [if_neg (by omega)])
theorem isNode_inB (a : Int) : impl_isNode.f a = some (inB a 0 15) := by
  unfold impl_isNode.f
  rw [between_inB]; rfl
theorem impl_devs_ev (D : List S65) (B : List S62) (hD : D.length ≤ 9223372036854775807) : Ev (fun k => impl_Tree_devicesOk.f k D B) (devsB D) := by
  have hu : ∀ (i : Nat), i < D.length → ∀ k, impl_Tree_devicesOk.l0 (k + 1) D D.length i D B = if devStep D i = true then impl_Tree_devicesOk.l0 k D D.length ((i + 1 : Nat) : Int) D B else some false := fun i hi k => by
    simp only [impl_Tree_devicesOk.l0]
    rw [if_pos (by omega), if_pos (by omega), if_pos (by omega), isNode_inB, up64 i D.length hi hD]
    simp only [Option.bind_some, between_inB]
    unfold devStep
    cases inB (rd_T65 D i).f0 0 15 with
    | false => simp
    | true =>
      by_cases c : 0 < i
      · rw [if_pos rfl, if_pos (by omega), wrap_down i c (by omega), if_pos (by omega), if_pos (by omega)]
        by_cases c2 : (rd_T65 D i).f0 ≤ (rd_T65 D ((i : Int) - 1)).f0
        · simp [c, c2]
        · cases inB (rd_T65 D i).f1 0 8 <;> simp [c, c2]
      · rw [if_pos rfl, if_neg (by omega)]
        cases inB (rd_T65 D i).f1 0 8 <;> simp [c]
  refine loop_is D.length (fun k (_ : Unit) i => impl_Tree_devicesOk.l0 k D D.length i D B) (fun i _ => ∀ j, j < i → devStep D j = true) _ ?_ ?_ () (fun j hj => absurd hj (Nat.not_lt_zero j))
  · intro i _ hi hI
    cases hc : devStep D i with
    | true =>
      refine .inr ⟨(), fun j hj => ?_, ev_next (fun k => by rw [hu i hi k, if_pos hc])⟩
      rcases Nat.lt_succ_iff_lt_or_eq.1 hj with h | h
      · exact hI j h
      · rw [h]; exact hc
    | false =>
      left
      have e : devsB D = false := by
        unfold devsB
        have : (List.range D.length).all (devStep D) = false := by
          rw [List.all_eq_false]
          exact ⟨i, by simpa using hi, by simp [hc]⟩
        rw [this, Bool.false_and]
      rw [e]
      exact ev_end (fun k => by rw [hu i hi k, if_neg (by rw [hc]; decide)])
  · intro _ hI
    have e : devsB D = decide ((D.length : Int) ≤ 16) := by
      unfold devsB
      have : (List.range D.length).all (devStep D) = true := by
        rw [List.all_eq_true]
        intro j hj
        exact hI j (by simpa using hj)
      rw [this, Bool.true_and]
      exact decide_eq_decide.2 (by omega)
    rw [e]
    exact ev_end (fun k => by simp only [impl_Tree_devicesOk.l0]; rw [if_neg (by omega)])
/-! buckets -/
def bktStep (B : List S62) (i : Nat) : Bool := inB (rd_T62 B i).f0 (-12) (-1) && inB (rd_T62 B i).f1 1 3 && decide ((rd_T62 B i).f2.length ≤ 8) && !(decide (0 < i) && decide ((rd_T62 B ((i : Int) - 1)).f0 ≤ (rd_T62 B i).f0))
def bktsB (B : List S62) : Bool := (List.range B.length).all (bktStep B) && decide (B.length ≤ 12)
theorem spec_bkts_ev (D : List S65) (B : List S62) : Ev (fun k => spec_l06Buckets.f k D B) (bktsB B) := by
  unfold spec_l06Buckets.f bktsB
  by_cases h : (B.length : Int) > 12
  · simp only [if_pos h, decide_eq_false (show ¬ (B.length ≤ 12) by omega), Bool.and_false]
    exact Ev.now _
  · simp only [if_neg h, decide_eq_true (show B.length ≤ 12 by omega), Bool.and_true]
    have hu : ∀ (i : Nat), i < B.length → ∀ k, spec_l06Buckets.l0 (k + 1) i D B = if bktStep B i = true then spec_l06Buckets.l0 k ((i + 1 : Nat) : Int) D B else some false := fun i hi k => by
      simp only [spec_l06Buckets.l0]
      rw [if_pos (by omega), if_pos (by omega), in_inB, in_inB, up64 i B.length hi (by omega)]
      simp only [Option.bind_some]
      unfold bktStep
      cases inB (rd_T62 B i).f0 (-12) (-1) with
      | false => simp
      | true =>
        cases inB (rd_T62 B i).f1 1 3 with
        | false => simp
        | true =>
          rw [if_pos rfl, if_pos rfl]
          by_cases c8 : (rd_T62 B i).f2.length ≤ 8
          · rw [if_neg (by omega)]
            by_cases c : 0 < i
            · rw [if_pos (by omega), wrap_down i c (by omega), if_pos (by omega), if_pos (by omega)]
              by_cases c2 : (rd_T62 B ((i : Int) - 1)).f0 ≤ (rd_T62 B i).f0 <;> simp [c, c2, c8]
            · rw [if_neg (by omega)]
              simp [c, c8]
          · rw [if_pos (by omega)]
            simp [c8]
    exact all_loop B.length (fun k i => spec_l06Buckets.l0 k i D B) (bktStep B) (fun i hi hc => ev_next (fun k => by rw [hu i hi k, if_pos hc])) (fun i hi hc => ev_end (fun k => by rw [hu i hi k, if_neg (by rw [hc]; decide)])) (fun k => by simp only [spec_l06Buckets.l0]; rw [if_neg (by omega)])
/-! nothing twice -/
def onceGo (B : List S62) : Nat → Int → List Int → Bool
  | 0, _, _ => true
  | d + 1, i, u => match useGo u (rd_T62 B i).f2 with | some u' => onceGo B d (i + 1) u' | none => false
def onceTail (B : List S62) (d : Nat) (i : Int) (u items : List Int) : Bool := match useGo u items with | some u' => onceGo B d (i + 1) u' | none => false
def onceB (B : List S62) : Bool := onceGo B B.length 0 []
theorem useGo_cons (u : List Int) (x : Int) (xs : List Int) : useGo u (x :: xs) = if (u.any fun y => y == x) = true then none else useGo (u ++ [x]) xs := rfl
theorem useGo_length : ∀ (items u u' : List Int), useGo u items = some u' → u' = u ++ items
  | [], u, u', h => by simp only [useGo, Option.some.injEq] at h; simp [h]
  | x :: xs, u, u', h => by
    unfold useGo at h
    split at h
    · cases h
    · rw [useGo_length xs _ _ h]; simp
theorem spec_once_ev (D : List S65) (B : List S62) (hB : B.length ≤ 12) (hI : ∀ x ∈ B, x.f2.length ≤ 8) : Ev (fun k => spec_l06Once.f k D B) (onceB B) := by
  refine loop_is B.length (fun k (u : List Int) i => spec_l06Once.l0 k u i D B) (fun i u => u.length ≤ 8 * i ∧ onceB B = onceGo B (B.length - i) i u) _ ?_ ?_ [] ⟨by simp, rfl⟩
  · rintro i u hi ⟨hu, hT⟩
    have hx := hI B[i] (List.getElem_mem hi)
    have hT1 : onceB B = onceTail B (B.length - (i + 1)) i u B[i].f2 := by
      rw [hT, show B.length - i = (B.length - (i + 1)) + 1 from by omega]
      unfold onceTail
      rw [← rd_bkt B i hi]
      rfl
    -- the inner loop
    have hinner : ∀ (r : Bool), (∀ u', useGo u B[i].f2 = some u' → Ev (fun k => spec_l06Once.l0 k u' ((i + 1 : Nat) : Int) D B) r) → (useGo u B[i].f2 = none → r = false) → Ev (fun k => spec_l06Once.l1 k u i 0 D B) r := by
      intro r hgood hbad
      refine loop_is B[i].f2.length (fun k (v : List Int) j => spec_l06Once.l1 k v i j D B) (fun j v => v.length = u.length + j ∧ useGo u B[i].f2 = useGo v (B[i].f2.drop j)) _ ?_ ?_ u ⟨by simp, by simp⟩
      · rintro j v hj ⟨hv, hG⟩
        have hd : B[i].f2.drop j = B[i].f2[j] :: B[i].f2.drop (j + 1) := List.drop_eq_getElem_cons hj
        have hstep : ∀ q, Ev (fun k => if (v.any fun y => y == B[i].f2[j]) = true then some false else (if v.length < 17592186044416 then spec_l06Once.l1 k (v ++ [B[i].f2[j]]) i ((j + 1 : Nat) : Int) D B else none)) q → Ev (fun k => spec_l06Once.l1 k v i j D B) q := fun q hq => by
          refine Ev.step (f := ?f) (fun k => ?_) ?_
          rotate_left
          · simp only [spec_l06Once.l1]
            rw [if_pos (by omega), if_pos (by omega), rd_bkt B i hi, if_pos (by omega), if_pos (by omega), rd_get _ j hj, up64 j B[i].f2.length hj (by omega)]
            all_goals exact rfl
          · exact Ev.bind (has_ev v _ (by omega)) hq
        rw [hd] at hG
        rw [useGo_cons] at hG
        by_cases c : (v.any fun y => y == B[i].f2[j]) = true
        · left
          rw [if_pos c] at hG
          rw [hbad hG]
          exact hstep _ (ev_some fun k => if_pos c)
        · rw [if_neg c] at hG
          exact .inr ⟨v ++ [B[i].f2[j]], ⟨by simp; omega, hG⟩, fun q hq => hstep q (Ev.congr (fun k => by rw [if_neg c, if_pos (by omega)]) hq)⟩
      · rintro v ⟨hv, hG⟩
        rw [List.drop_length] at hG
        refine Ev.step (fun k => ?_) (hgood v hG)
        simp only [spec_l06Once.l1]
        rw [if_pos (by omega), if_pos (by omega), rd_bkt B i hi, if_neg (by omega), up64 i B.length hi (by omega)]
    have hout : ∀ q, Ev (fun k => spec_l06Once.l1 k u i 0 D B) q → Ev (fun k => spec_l06Once.l0 k u i D B) q := fun q hq => Ev.step (fun k => by
      simp only [spec_l06Once.l0]
      rw [if_pos (by omega)]) hq
    cases hc : useGo u B[i].f2 with
    | none =>
      left
      have e : onceB B = false := by rw [hT1]; unfold onceTail; rw [hc]
      rw [e]
      refine hout _ (hinner false (fun u' h => ?_) (fun _ => rfl))
      rw [hc] at h; cases h
    | some u' =>
      have hl := useGo_length _ _ _ hc
      refine .inr ⟨u', ⟨by rw [hl, List.length_append]; omega, ?_⟩, fun q hq => hout q (hinner q (fun v h => ?_) (fun h => ?_))⟩
      · rw [hT1]; unfold onceTail; rw [hc]; rfl
      · rw [hc] at h
        obtain rfl := Option.some.inj h
        exact hq
      · rw [hc] at h; cases h
  · rintro u ⟨hu, hT⟩
    rw [hT, Nat.sub_self]
    exact ev_end (fun k => by simp only [spec_l06Once.l0]; rw [if_neg (by omega)]; rfl)

/-! what lies in a bucket -/
def fitOne (D : List S65) (B : List S62) (kd : Int) (items : List Int) (x : Int) : Bool := if kd < 3 then kindAt D B x == kd - 1 else kindAt D B x == kindAt D B (rd items 0) && (kindAt D B x == 1 || kindAt D B x == 2)
def fitsB (D : List S65) (B : List S62) (kd : Int) (items : List Int) : Bool := (List.range items.length).all fun j => fitOne D B kd items (rd items j)
theorem spec_fits_ev (D : List S65) (B : List S62) (hD : D.length ≤ 9223372036854775807) (hB : B.length ≤ 9223372036854775807) (id kd : Int) (items : List Int) (h1 : 1 ≤ kd) (h3 : kd ≤ 3) (hl : items.length ≤ 9223372036854775807) : Ev (fun k => spec_l06Fits.f k D B id kd items) (fitsB D B kd items) := by
  have hmain : ∀ (j : Nat), j < items.length → ∀ r, (fitOne D B kd items (rd items j) = true → Ev (fun k => spec_l06Fits.l0 k ((j + 1 : Nat) : Int) D B id kd items) r) → (fitOne D B kd items (rd items j) = false → r = false) → Ev (fun k => spec_l06Fits.l0 k j D B id kd items) r := by
    intro j hj r hgood hbad
    have hw : wrap64 (kd - 1) = kd - 1 := by unfold wrap64; omega
    refine Ev.step (f := ?f) (fun k => ?_) ?_
    rotate_left
    · simp only [spec_l06Fits.l0]
      rw [if_pos (by omega), if_pos (by omega)]
      all_goals exact rfl
    · refine Ev.bind (specKind_ev D B _ hD hB) ?_
      by_cases ck : kd < 3
      · simp only [if_pos ck, hw]
        refine Ev.step (f := ?g) (fun k => ?_) ?_
        rotate_left
        · simp only [spec_l06Fits.j1]
          exact rfl
        · unfold fitOne at hgood hbad
          rw [if_pos ck] at hgood hbad
          by_cases c : kindAt D B (rd items j) = kd - 1
          · refine Ev.congr (fun k => ?_) (hgood (by simpa using c))
            rw [if_neg (by simp [c]), if_neg (by omega), up64 j items.length hj hl]
          · have e := hbad (by simpa using c)
            subst e
            refine ev_some (fun k => ?_)
            rw [if_pos (by simpa using c)]
      · simp only [if_neg ck]
        refine Ev.step (f := ?g2) (fun k => ?_) ?_
        rotate_left
        · simp only [spec_l06Fits.j1]
          exact rfl
        · simp only [Bool.false_eq_true, if_false, show kd = 3 by omega, if_true, show (0 : Int) < (items.length : Int) by omega]
          unfold fitOne at hgood hbad
          rw [if_neg ck] at hgood hbad
          refine Ev.bind (specKind_ev D B _ hD hB) ?_
          by_cases c0 : kindAt D B (rd items j) = kindAt D B (rd items 0)
          · by_cases c1 : kindAt D B (rd items j) = 1
            · refine Ev.congr (fun k => ?_) (hgood (by simp [← c0, c1]))
              rw [if_pos c0, if_pos c1, up64 j items.length hj hl, show kd = 3 by omega]
            · by_cases c2 : kindAt D B (rd items j) = 2
              · refine Ev.congr (fun k => ?_) (hgood (by simp [← c0, c2]))
                rw [if_pos c0, if_neg c1, if_pos c2, up64 j items.length hj hl, show kd = 3 by omega]
              · have e := hbad (by simp [c1, c2])
                subst e
                exact ev_some fun k => by rw [if_pos c0, if_neg c1, if_neg c2]
          · have e := hbad (by simp [c0])
            subst e
            exact ev_some fun k => by rw [if_neg c0]
  exact all_loop items.length (fun k j => spec_l06Fits.l0 k j D B id kd items) (fun j => fitOne D B kd items (rd items j)) (fun j hj hc r hr => hmain j hj r (fun _ => hr) (fun h => by rw [hc] at h; cases h)) (fun j hj hc => hmain j hj false (fun h => by rw [hc] at h; cases h) (fun _ => rfl)) (fun k => by simp only [spec_l06Fits.l0]; rw [if_neg (by omega)])
theorem range_all (items : List Int) (p : Int → Bool) : ((List.range items.length).all fun j => p (rd items j)) = items.all p := by
  rw [Bool.eq_iff_iff, List.all_eq_true, List.all_eq_true]
  constructor
  · intro h x hx
    obtain ⟨j, hj, rfl⟩ := List.mem_iff_getElem.1 hx
    have := h j (by simpa using hj)
    rwa [rd_get items j hj] at this
  · intro h j hj
    have hj' : j < items.length := by simpa using hj
    rw [rd_get items j hj']
    exact h _ (List.getElem_mem hj')
theorem fits_items (D : List S65) (B : List S62) (kd : Int) (items : List Int) (h1 : 1 ≤ kd) (h3 : kd ≤ 3) : fitsB D B kd items = itemsOkB D B kd items := by
  unfold fitsB itemsOkB
  rw [range_all items (fitOne D B kd items)]
  have hw : wrap64 (kd - 1) = kd - 1 := by unfold wrap64; omega
  rw [hw]
  match items with
  | [] => simp
  | x :: xs =>
    rw [if_neg (by simp)]
    have ho := once_one ((x :: xs).map (kindAt D B))
    have hhead : rd (x :: xs) 0 = x := rfl
    unfold fitOne
    rw [hhead]
    have hm : ∀ y, y ∈ (x :: xs).map (kindAt D B) ↔ ∃ z ∈ x :: xs, kindAt D B z = y := fun y => List.mem_map
    generalize hS : (x :: xs).map (kindAt D B) = S at ho hm
    by_cases c1 : 1 < (onceOf S).length
    · rw [if_pos c1]
      rw [Bool.eq_false_iff]
      intro hall
      rw [List.all_eq_true] at hall
      refine absurd (ho.2 ?_) (by omega)
      intro a ha b hb
      obtain ⟨p, hp, rfl⟩ := (hm a).1 ha
      obtain ⟨q, hq, rfl⟩ := (hm b).1 hb
      have h1 := hall p hp
      have h2 := hall q hq
      by_cases ck : kd < 3
      · rw [if_pos ck] at h1 h2
        rw [eq_of_beq h1, eq_of_beq h2]
      · rw [if_neg ck, Bool.and_eq_true] at h1 h2
        rw [eq_of_beq h1.1, eq_of_beq h2.1]
    · rw [if_neg c1]
      have hsame := ho.1 (by omega)
      have hx : kindAt D B x ∈ S := (hm _).2 ⟨x, by simp, rfl⟩
      have hall : ∀ z ∈ x :: xs, kindAt D B z = kindAt D B x := fun z hz => hsame _ ((hm _).2 ⟨z, hz, rfl⟩) _ hx
      have hany : ∀ v : Int, (S.any fun y => y == v) = (kindAt D B x == v) := fun v => by
        rw [Bool.eq_iff_iff, List.any_eq_true]
        constructor
        · rintro ⟨y, hy, e⟩
          rw [hsame _ hx y hy]; exact e
        · intro e
          exact ⟨_, hx, e⟩
      rw [hany, hany, hany]
      by_cases ck : kd < 3
      · rw [if_neg (show ¬ kd = 3 by omega), Bool.eq_iff_iff, List.all_eq_true]
        constructor
        · intro h
          have := h x (by simp)
          rwa [if_pos ck] at this
        · intro h z hz
          rw [if_pos ck, hall z hz]; exact h
      · rw [if_pos (show kd = 3 by omega), Bool.eq_iff_iff, List.all_eq_true]
        constructor
        · intro h
          have := h x (by simp)
          rw [if_neg ck, Bool.and_eq_true] at this
          exact this.2
        · intro h z hz
          rw [if_neg ck, hall z hz, Bool.and_eq_true]
          exact ⟨by simp, h⟩
/-! the whole -/
def allB (D : List S65) (B : List S62) : Nat → Int → Bool
  | 0, _ => true
  | d + 1, i => bktB D B i && allB D B d (i + 1)
theorem treeGo_parts (D : List S65) (B : List S62) : ∀ (d : Nat) (i : Int) (u : List Int), treeGo D B d i u = (allB D B d i && onceGo B d i u)
  | 0, _, _ => rfl
  | d + 1, i, u => by
    have ht : treeGo D B (d + 1) i u = if bktB D B i = true then (match useGo u (rd_T62 B i).f2 with | some u' => treeGo D B d (i + 1) u' | none => false) else false := rfl
    have ho : onceGo B (d + 1) i u = match useGo u (rd_T62 B i).f2 with | some u' => onceGo B d (i + 1) u' | none => false := rfl
    have ha : allB D B (d + 1) i = (bktB D B i && allB D B d (i + 1)) := rfl
    rw [ht, ho, ha]
    cases bktB D B i with
    | false => rfl
    | true =>
      cases useGo u (rd_T62 B i).f2 with
      | none => simp
      | some u' => simp [treeGo_parts D B d (i + 1) u']
theorem allB_all (D : List S65) (B : List S62) : ∀ (d i : Nat), allB D B d i = true ↔ ∀ j, i ≤ j → j < i + d → bktB D B j = true
  | 0, i => by simp [allB]; intro j h1 h2; omega
  | d + 1, i => by
    have ha : allB D B (d + 1) i = (bktB D B i && allB D B d ((i + 1 : Nat) : Int)) := rfl
    rw [ha, Bool.and_eq_true, allB_all D B d (i + 1)]
    constructor
    · rintro ⟨h1, h2⟩ j hj1 hj2
      by_cases e : j = i
      · subst e; exact h1
      · exact h2 j (by omega) (by omega)
    · intro h
      exact ⟨h i (by omega) (by omega), fun j h1 h2 => h j (by omega) (by omega)⟩
theorem bktB_parts (D : List S65) (B : List S62) (i : Nat) : bktB D B i = (bktStep B i && itemsOkB D B (rd_T62 B i).f1 (rd_T62 B i).f2) := by
  unfold bktB bktStep
  have e : decide ((0 : Int) < (i : Int)) = decide (0 < i) := decide_eq_decide.2 (by omega)
  rw [e]
  cases inB (rd_T62 B i).f0 (-12) (-1) <;> cases inB (rd_T62 B i).f1 1 3 <;> cases decide (0 < i) <;> cases decide ((rd_T62 B ((i : Int) - 1)).f0 ≤ (rd_T62 B i).f0) <;> cases decide ((rd_T62 B i).f2.length ≤ 8) <;> rfl
/-- is a topology valid? -/
def treeOkB (D : List S65) (B : List S62) : Bool := devsB D && (decide (B.length ≤ 12) && treeB D B)
theorem fits_all_ev (D : List S65) (B : List S62) (hD : D.length ≤ 16) (hB : B.length ≤ 12) (hS : ∀ j, j < B.length → bktStep B j = true) : Ev (fun k => spec_l06OK.l0 k 0 D B) ((List.range B.length).all fun i => fitsB D B (rd_T62 B i).f1 (rd_T62 B i).f2) := by
  have hst : ∀ (i : Nat), i < B.length → (1 ≤ (rd_T62 B i).f1 ∧ (rd_T62 B i).f1 ≤ 3) ∧ (rd_T62 B i).f2.length ≤ 8 := fun i hi => by
    have := hS i hi
    unfold bktStep inB at this
    simp only [Bool.and_eq_true, decide_eq_true_eq] at this
    exact ⟨this.1.1.2, this.1.2⟩
  have hu : ∀ (i : Nat), i < B.length → ∀ r, Ev (fun k => if fitsB D B (rd_T62 B i).f1 (rd_T62 B i).f2 = true then spec_l06OK.l0 k ((i + 1 : Nat) : Int) D B else some false) r → Ev (fun k => spec_l06OK.l0 k i D B) r := fun i hi r hr => by
    obtain ⟨⟨h1, h3⟩, h8⟩ := hst i hi
    refine Ev.step (f := ?f) (fun k => ?_) ?_
    rotate_left
    · simp only [spec_l06OK.l0]
      rw [if_pos (by omega), if_pos (by omega), up64 i B.length hi (by omega)]
      all_goals exact rfl
    · exact Ev.bind (spec_fits_ev D B (by omega) (by omega) _ _ _ h1 h3 (by omega)) hr
  exact all_loop B.length (fun k i => spec_l06OK.l0 k i D B) _ (fun i hi hc r hr => hu i hi r (Ev.congr (fun k => by rw [if_pos hc]) hr)) (fun i hi hc => hu i hi false (ev_some fun k => by rw [if_neg (by rw [hc]; decide)])) (fun k => by simp only [spec_l06OK.l0]; rw [if_neg (by omega)])
theorem spec_ok_ev (D : List S65) (B : List S62) : Ev (fun k => spec_l06OK.f k D B) (treeOkB D B) := by
  unfold spec_l06OK.f
  refine Ev.bind (spec_devs_ev D B) ?_
  have hj : ∀ r, r = false → Ev (fun k => spec_l06OK.j0 k true D B) r := fun r hr => by
    subst hr
    exact ev_end fun k => by simp only [spec_l06OK.j0]; rw [if_pos trivial]
  unfold treeOkB
  cases hd : devsB D with
  | false =>
    simp only [Bool.false_eq_true, if_false, Bool.false_and]
    exact hj _ rfl
  | true =>
    simp only [if_true, Bool.true_and]
    refine Ev.bind (spec_bkts_ev D B) ?_
    have hparts : treeB D B = (allB D B B.length 0 && onceB B) := treeGo_parts D B B.length 0 []
    have hall := allB_all D B B.length 0
    rw [show ((0 : Nat) : Int) = 0 from rfl] at hall
    have hD : D.length ≤ 16 := by
      unfold devsB at hd
      rw [Bool.and_eq_true] at hd
      exact of_decide_eq_true hd.2
    cases hb : bktsB B with
    | false =>
      simp only [Bool.false_eq_true, if_false]
      refine hj _ ?_
      by_cases c : B.length ≤ 12
      · have : allB D B B.length 0 = false := by
          rw [Bool.eq_false_iff]
          intro h
          have h2 := hall.1 h
          have : bktsB B = true := by
            unfold bktsB
            rw [decide_eq_true c, Bool.and_true, List.all_eq_true]
            intro j hj
            have := h2 j (by omega) (by simpa using hj)
            rw [bktB_parts, Bool.and_eq_true] at this
            exact this.1
          rw [this] at hb; cases hb
        rw [hparts, this]; simp
      · rw [decide_eq_false c, Bool.false_and]
    | true =>
      unfold bktsB at hb
      rw [Bool.and_eq_true, List.all_eq_true] at hb
      have h12 := of_decide_eq_true hb.2
      have hS : ∀ j, j < B.length → bktStep B j = true := fun j hj => hb.1 j (by simpa using hj)
      have h8 : ∀ x ∈ B, x.f2.length ≤ 8 := fun x hx => by
        obtain ⟨j, hj, rfl⟩ := List.mem_iff_getElem.1 hx
        have := hS j hj
        unfold bktStep at this
        simp only [Bool.and_eq_true, decide_eq_true_eq] at this
        rw [rd_bkt B j hj] at this
        exact this.1.2
      simp only [if_true]
      refine Ev.bind (spec_once_ev D B h12 h8) ?_
      rw [decide_eq_true h12, Bool.true_and, hparts]
      cases onceB B with
      | false =>
        rw [Bool.and_false]
        exact hj _ rfl
      | true =>
        rw [Bool.and_true]
        refine Ev.step (f := ?f) (fun k => ?_) ?_
        rotate_left
        · simp only [spec_l06OK.j0]
          exact rfl
        · simp only [Bool.not_true, Bool.false_eq_true, if_false]
          have hf := fits_all_ev D B hD h12 hS
          have e : ((List.range B.length).all fun i => fitsB D B (rd_T62 B i).f1 (rd_T62 B i).f2) = allB D B B.length 0 := by
            rw [Bool.eq_iff_iff, hall, List.all_eq_true]
            have hk : ∀ j, j < B.length → (fitsB D B (rd_T62 B j).f1 (rd_T62 B j).f2 = true ↔ bktB D B j = true) := fun j hj => by
              have hs := hS j hj
              rw [bktB_parts, hs, Bool.true_and]
              unfold bktStep inB at hs
              simp only [Bool.and_eq_true, decide_eq_true_eq] at hs
              rw [fits_items D B _ _ hs.1.1.2.1 hs.1.1.2.2]
            constructor
            · intro h j _ hj
              exact (hk j (by omega)).1 (h j (by simp; omega))
            · intro h j hj
              have hj' : j < B.length := by simpa using hj
              exact (hk j hj').2 (h j (by omega) (by omega))
          rw [e] at hf
          exact hf
theorem impl_ok_ev (D : List S65) (B : List S62) (hD : D.length ≤ 9223372036854775807) (hw : wfTree D B = true) : Ev (fun k => impl_TreeOk.f k D B) (treeOkB D B) := by
  unfold impl_TreeOk.f treeOkB
  simp only [if_pos hw]
  refine Ev.bind (impl_devs_ev D B hD) ?_
  cases devsB D <;> simp <;> first | exact Ev.now _ | exact ev_some fun k => rfl

end Go.Proofs.YtohjpgcmhihdhaaDoor.Pure
