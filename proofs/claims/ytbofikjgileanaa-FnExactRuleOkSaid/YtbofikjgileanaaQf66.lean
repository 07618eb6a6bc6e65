/- Walks of the Go functions that the laws call: each returns what a plain Lean function says. Written by a program for these claims. -/
import Derived.Test.YtbofikjgileanaaQ0
import Derived.Test.YtbofikjgileanaaQf110
namespace Go.Proofs.Ytbofikjgileanaa.Q
open Go.RowKit Go.Proofs.YtbofikjgileanaaW.PrintWords Go.Proofs.YtbofikjgileanaaW.PrintLast Go.Proofs.YtbofikjgileanaaW.PrintMore
attribute [local go_sem] max2_int min2_int max_two min_two max_three min_three max_four min_four   -- for this text's walks alone
set_option linter.unusedVariables false
set_option linter.unusedSimpArgs false

/-! ### laws_eqDeviceS: function 66 -/
def laws_eqDeviceS.l0 : Nat → List (S58) → List (S58) → Int → Option (Bool)
  | 0, _, _, _ => none
  | k + 1, x0, x1, x5 => if x5 < (x0.length : Int) then (if 0 ≤ x5 then (if x5 < (x1.length : Int) then ((laws_eqDevice.f ((rd_T58 x0 x5).f0) ((rd_T58 x0 x5).f1) ((rd_T58 x1 x5).f0) ((rd_T58 x1 x5).f1)).bind fun t206 => (if t206 = true then (laws_eqDeviceS.l0 k x0 x1 (wrap64 (x5 + 1))) else (some false))) else (none)) else (none)) else (some true)
def laws_eqDeviceS.f (k : Nat) (l0 : List (S58)) (l1 : List (S58)) : Option (Bool) := if (l0.length : Int) = (l1.length : Int) then (laws_eqDeviceS.l0 k l0 l1 0) else (some false)
def laws_eqDeviceS.T6 : Bool × List (List Nat × List Nat) := (true, [([], []), ([], []), ([0, 1], [0, 1]), ([2], [2]), ([], []), ([], []), ([4, 5], [4, 5]), ([6], [6]), ([3, 7], [3, 7]), ([8], [8])])
def laws_eqDeviceS.B6 : List Nat := [0, 0, 3, 7, 0, 0, 48, 112, 255, 511]
theorem laws_eqDeviceS.tab6 : rtab .any (opsOf Try.f66 6) = laws_eqDeviceS.T6 := by kernel_rfl
theorem laws_eqDeviceS.bits6 : waitsOk laws_eqDeviceS.T6.2 laws_eqDeviceS.B6 = true := by kernel_rfl
def az_z66 (n m : Nat) : Array Bool := (List.replicate n true ++ List.replicate m false).toArray
def mz66_0 : Array Bool := az_z66 0 10
def mz66_1 : Array Bool := az_z66 1 9
def mz66_2 : Array Bool := az_z66 2 8
def mz66_3 : Array Bool := az_z66 3 7
def mz66_4 : Array Bool := #[true, true, true, false, true, false, false, false, false, false]
def mz66_5 : Array Bool := #[true, true, true, false, true, true, false, false, false, false]
def mz66_6 : Array Bool := #[true, true, true, false, true, true, true, false, false, false]
def mz66_7 : Array Bool := az_z66 7 3
def mz66_8 : Array Bool := az_z66 8 2
def mz66_9 : Array Bool := az_z66 9 1
def mz66_10 : Array Bool := az_z66 10 0
theorem pu_z66 {P : Program} {ops : Array Oper} {Q : Exit → Act → World → Prop} {md : Region.Mode} {S : World → Prop} {ds : List Nat} {oi : Oper} {fuel : Nat} {l : Array Bool} {a : Act} {w : World} (i : Nat) (N : Option Tmp) (v : Value) (l' : Array Bool) (hi : ops[i]? = some oi) (hN : oi.dst = N) (hc : anyB md ops l l' i = true)
    (hQ : ∀ c a w, Q (.panic c) (a.put oi.dst v) w → Q (.panic c) a w) (hy : Yields P ops oi v a) (a' : Act) (ha : a.put N v = a')
    (h : wpAnyLast P md ops Q S ds fuel l' a' w) : wpAnyLast P md ops Q S ds (fuel + 1) l a w := pure_ l' hi hN hc hQ hy ha h
theorem pq_z66 : (∀ (l : List Value) (i : Nat) (v : Value), l.toArray.setIfInBounds i v = (l.set i v).toArray) ∧ (∀ (x v : Value) (xs : List Value), (x :: xs).set 0 v = v :: xs) ∧ (∀ (x v : Value) (xs : List Value) (n : Nat), (x :: xs).set (n + 1) v = x :: xs.set n v) ∧ (∀ n : Int, IntKind.i64.wrap n = Go.RowKit.wrap64 n) ∧ (∀ n : Int, IntKind.i32.wrap n = Go.RowKit.wrap32 n) :=
  ⟨fun l i v => List.setIfInBounds_toArray l i v, fun _ _ _ => rfl, fun _ _ _ _ => rfl, i64_w, i32_w⟩
set_option maxHeartbeats 8000000 in
set_option maxRecDepth 100000 in
theorem laws_eqDeviceS.calls (k : Nat) (A0 : Option Addr) (c0 : Nat) (l0 : List (S58)) (A1 : Option Addr) (c1 : Nat) (l1 : List (S58)) (r : Bool) (w : World) (hr0 : Kd.C k58 w A0 l0.length l0) (hc0 : l0.length ≤ c0) (hr1 : Kd.C k58 w A1 l1.length l1) (hc1 : l1.length ≤ c1) (h : laws_eqDeviceS.f k l0 l1 = some r) :
  Calls Try.prog 66 #[.slice A0 l0.length c0, .slice A1 l1.length c1] w fun e w' => e = .returned (.bool r) ∧ Below w.heap.size w w' := by
 have hu58 := Try.underlying58
 have HR0 := Aside0.mk hr0
 have HC0 := Aside0.mk hc0
 clear hr0 hc0
 have HR1 := Aside0.mk hr1
 have HC1 := Aside0.mk hc1
 clear hr1 hc1
 have HB := Aside0.mk (Below.refl w.heap.size w)
 have H : (if (l0.length : Int) = (l1.length : Int) then (laws_eqDeviceS.l0 k l0 l1 0) else (some false)) = some r := h
 clear h
 by_cases c3 : (l0.length : Int) = (l1.length : Int)
 ·rw [if_pos c3] at H
  have c3b0 : ((l0.length : Int) == (l1.length : Int)) = true := beq_iff_eq.mpr c3
  have c3b1 : ((l0.length : Int) != (l1.length : Int)) = false := bne_eq_false_iff_eq.mpr c3
  have c3b2 : (l0.length == l1.length) = true := by first | simpa using c3 | (simp at c3 ⊢; omega)
  clear c3
  have H' := Aside0.mk H
  clear H
  go_enter Try.func66, Try.ntmps66
  go_wp2
  go_loopg [5] k (fun kq v5 w' => ∃ (x5_1 : Int), v5 = .int .i64 x5_1 ∧ Aside0 (laws_eqDeviceS.l0 kq l0 l1 x5_1 = some r) ∧ Aside0 (kq ≤ k) ∧ Aside0 (Below w.heap.size w w'))
  case atStart => exact ⟨(0), (by first | rfl | (simp; done) | (simp [*]; done)), H', ⟨Nat.le_refl _⟩, ⟨by repeat first | exact HB.out | apply below_alloc | apply pw_below_drewN | apply below_drew1⟩⟩
  case round =>
   clear H'
   try clear c1
   try clear p2
   try clear c3
   try clear c3b0
   try clear c3b1
   try clear c3b2
   obtain ⟨x5_1, rfl, HA, HK1, HB⟩ := hrel
   cases gk with
   | zero => exact absurd HA.out (by simp [laws_eqDeviceS.l0])
   | succ k1 =>
    have H := HA.out
    clear HA
    simp only [laws_eqDeviceS.l0] at H
    by_cases c4 : x5_1 < (l0.length : Int)
    ·rw [if_pos c4] at H
     have c4b0 : decide (x5_1 < (l0.length : Int)) = true := decide_eq_true c4
     clear c4
     by_cases c5 : 0 ≤ x5_1
     ·rw [if_pos c5] at H
      have c5b0 : decide (0 ≤ x5_1) = true := decide_eq_true c5
      clear c5
      by_cases c6 : x5_1 < (l1.length : Int)
      ·rw [if_pos c6] at H
       have c6b0 : decide (x5_1 < (l1.length : Int)) = true := decide_eq_true c6
       clear c6
       replace H := Option.bind_eq_some_iff.mp H
       obtain ⟨t206, A70, H⟩ := H
       replace H : (if t206 = true then (laws_eqDeviceS.l0 k1 l0 l1 (wrap64 (x5_1 + 1))) else (some false)) = some r := H
       have A7 := Aside0.mk A70
       clear A70
       by_cases c8 : t206 = true
       ·subst c8
        have H1 : (laws_eqDeviceS.l0 k1 l0 l1 (wrap64 (x5_1 + 1))) = some r := by rw [if_pos rfl] at H; exact H
        clear H
        have H := H1
        clear H1
        have H' := Aside0.mk H
        clear H
        try go_wp2
        have n0_ := Aside0.mk (below_drew1 HB.out)
        clear HB
        have HB := n0_
        clear n0_
        have p204 : 0 ≤ (x5_1 : Int) := of_decide_eq_true (by assumption)
        have q204 : x5_1 < (l0.length : Int) := of_decide_eq_true (by assumption)
        obtain ⟨ad204, e204, hx204_0, hx204_1⟩ := at_T58 HR0.out x5_1 p204 q204
        have hw204_1 := hx204_1
        have hw204_0 := hx204_0
        cases e204
        replace hx204_0 := (HB.out.cell (World.block_lt_of_cell? w _ hx204_0)).trans hx204_0
        replace hx204_1 := (HB.out.cell (World.block_lt_of_cell? w _ hx204_1)).trans hx204_1
        replace p204 := eq_true p204
        replace q204 := eq_true q204
        have p205 : 0 ≤ (x5_1 : Int) := of_decide_eq_true (by assumption)
        have q205 : x5_1 < (l1.length : Int) := of_decide_eq_true (by assumption)
        obtain ⟨ad205, e205, hx205_0, hx205_1⟩ := at_T58 HR1.out x5_1 p205 q205
        have hw205_1 := hx205_1
        have hw205_0 := hx205_0
        cases e205
        replace hx205_0 := (HB.out.cell (World.block_lt_of_cell? w _ hx205_0)).trans hx205_0
        replace hx205_1 := (HB.out.cell (World.block_lt_of_cell? w _ hx205_1)).trans hx205_1
        replace p205 := eq_true p205
        replace q205 := eq_true q205
        refine start_ (n := 10) (S := fun w' => w'.cell? (ad204.add ((x5_1).toNat * 2)) = some (.int .i64 ((rd_T58 l0 x5_1).f0)) ∧ w'.cell? ⟨(ad204.add ((x5_1).toNat * 2)).block, (ad204.add ((x5_1).toNat * 2)).off + 1, none⟩ = some (.int .i64 ((rd_T58 l0 x5_1).f1)) ∧ w'.cell? (ad205.add ((x5_1).toNat * 2)) = some (.int .i64 ((rd_T58 l1 x5_1).f0)) ∧ w'.cell? ⟨(ad205.add ((x5_1).toNat * 2)).block, (ad205.add ((x5_1).toNat * 2)).off + 1, none⟩ = some (.int .i64 ((rd_T58 l1 x5_1).f1))) (ds := []) mz66_0 (by kernel_rfl) rfl rfl ⟨((HB.out.cell (World.block_lt_of_cell? w _ hw204_0)).trans hw204_0), ((HB.out.cell (World.block_lt_of_cell? w _ hw204_1)).trans hw204_1), ((HB.out.cell (World.block_lt_of_cell? w _ hw205_0)).trans hw205_0), ((HB.out.cell (World.block_lt_of_cell? w _ hw205_1)).trans hw205_1)⟩ (fun hHeld => ?_); refine with_tabW laws_eqDeviceS.tab6 laws_eqDeviceS.bits6 (fun HT_ HW_ => ?_)
        generalize wr.drew = w9 at HB hx204_0 hx204_1 hx205_0 hx205_1 hHeld ⊢
        refine pu_z66 0 (some 17) ?_ mz66_1 rfl rfl (any_of HT_.out (by kernel_rfl)) (fun _ _ _ h => h) (Or.inl ⟨by rfl, ?_⟩) ?_ ?_ ?_
        (rotate_left; ·(intro w'; go_simp; with_reducible rfl)); (rotate_left; ·(simp only [Act.put, pq_z66]; rfl))
        refine pu_z66 1 (some 18) ?_ mz66_2 rfl rfl (any_of HT_.out (by kernel_rfl)) (fun _ _ _ h => h) (Or.inl ⟨by rfl, ?_⟩) ?_ ?_ ?_
        (rotate_left; ·(intro w'; go_simp; with_reducible rfl)); (rotate_left; ·(simp only [Act.put, pq_z66]; rfl))
        refine pu_z66 2 (some 19) ?_ mz66_3 rfl rfl (any_of HT_.out (by kernel_rfl)) (fun _ _ _ h => h) (Or.inl ⟨by rfl, ?_⟩) ?_ ?_ ?_
        (rotate_left; ·(intro w'; go_simp; with_reducible rfl)); (rotate_left; ·(simp only [Act.put, pq_z66]; rfl))
        refine pu_z66 4 (some 21) ?_ mz66_4 rfl rfl (any_of HT_.out (by kernel_rfl)) (fun _ _ _ h => h) (Or.inl ⟨by rfl, ?_⟩) ?_ ?_ ?_
        (rotate_left; ·(intro w'; go_simp; with_reducible rfl)); (rotate_left; ·(simp only [Act.put, pq_z66]; rfl))
        refine pu_z66 5 (some 22) ?_ mz66_5 rfl rfl (any_of HT_.out (by kernel_rfl)) (fun _ _ _ h => h) (Or.inl ⟨by rfl, ?_⟩) ?_ ?_ ?_
        (rotate_left; ·(intro w'; go_simp; with_reducible rfl)); (rotate_left; ·(simp only [Act.put, pq_z66]; rfl))
        refine pu_z66 6 (some 23) ?_ mz66_6 rfl rfl (any_of HT_.out (by kernel_rfl)) (fun _ _ _ h => h) (Or.inl ⟨by rfl, ?_⟩) ?_ ?_ ?_
        (rotate_left; ·(intro w'; go_simp; with_reducible rfl)); (rotate_left; ·(simp only [Act.put, pq_z66]; rfl))
        refine take_ (i := 3) (N := some 20) (v := ?_) (a' := ?_) mz66_7 rfl rfl (take_ofW HT_.out HW_.out (by kernel_rfl)) (fun _ _ _ h => h) (Or.inl ⟨by rfl, ?_⟩) hHeld ?_ ?_
        (rotate_left; ·(rintro w' ⟨s0, s1, s2, s3⟩; go_simp; with_reducible rfl)); (rotate_left; ·(simp only [Act.put, pq_z66]; rfl))
        refine take_ (i := 7) (N := some 24) (v := ?_) (a' := ?_) mz66_8 rfl rfl (take_ofW HT_.out HW_.out (by kernel_rfl)) (fun _ _ _ h => h) (Or.inl ⟨by rfl, ?_⟩) hHeld ?_ ?_
        (rotate_left; ·(rintro w' ⟨s0, s1, s2, s3⟩; go_simp; with_reducible rfl)); (rotate_left; ·(simp only [Act.put, pq_z66]; rfl))
        refine one_ (i := 8) (N := some 25) mz66_9 rfl rfl (one_of HT_.out (by kernel_rfl)) (by decide) (fun K hK => ?_)
        refine goes_ Try.func110 (by kernel_rfl) rfl #[.agg #[.int .i64 ((rd_T58 l0 x5_1).f0), .int .i64 ((rd_T58 l0 x5_1).f1)], .agg #[.int .i64 ((rd_T58 l1 x5_1).f0), .int .i64 ((rd_T58 l1 x5_1).f1)]] (by rfl) rfl rfl (by (try simp only [List.map_toArray, List.map_cons, List.map_nil]); first | done | rfl | (simp only [List.length_drop, List.length_take]; rfl)) ?_
        with_reducible refine (laws_eqDevice.calls ((rd_T58 l0 x5_1).f0) ((rd_T58 l0 x5_1).f1) ((rd_T58 l1 x5_1).f0) ((rd_T58 l1 x5_1).f1) true _ A7.out).mono ?_
        rintro e w10 ⟨rfl, hb⟩
        refine ⟨_, rfl, ?_⟩
        have n0_ := Aside0.mk (below_step (by repeat first | exact HB.out | apply below_alloc | apply pw_below_drewN | apply below_drew1) hb)
        clear HB
        have HB := n0_
        clear n0_
        (try clear hb)
        (try clear hb2)
        (try clear hk)
        (try clear hi)
        refine hK.out _ _ ⟨((HB.out.cell (World.block_lt_of_cell? w _ hw204_0)).trans hw204_0), ((HB.out.cell (World.block_lt_of_cell? w _ hw204_1)).trans hw204_1), ((HB.out.cell (World.block_lt_of_cell? w _ hw205_0)).trans hw205_0), ((HB.out.cell (World.block_lt_of_cell? w _ hw205_1)).trans hw205_1)⟩ (fun hHeld => ?_)
        clear hK K
        refine norm_ (a' := ?_) ?_ ?_
        (rotate_left; ·(show Act.put _ (some 25) _ = _; simp only [Act.put, pq_z66]; rfl))
        refine pu_z66 9 (some 26) ?_ mz66_10 rfl rfl (any_of HT_.out (by kernel_rfl)) (fun _ _ _ h => h) (Or.inl ⟨by rfl, ?_⟩) ?_ ?_ ?_
        (rotate_left; ·(intro w'; go_simp; with_reducible rfl)); (rotate_left; ·(simp only [Act.put, pq_z66]; rfl))
        refine done_ (done_of HT_.out (by kernel_rfl)) ?_
        try go_wp2
        go_roundg k1
        case measure => have := HK1.out; omega
        case rel => exact ⟨(wrap64 (x5_1 + 1)), (by first | rfl | (simp; done) | (simp [*]; done)), H', ⟨by have := HK1.out; omega⟩, ⟨by repeat first | exact HB.out | apply below_alloc | apply pw_below_drewN | apply below_drew1⟩⟩
       ·replace c8 := Bool.eq_false_iff.mpr c8
        subst c8
        have H1 : (some false) = some r := by rw [if_neg (show ¬ (false = true) by decide)] at H; exact H
        clear H
        have H := H1
        clear H1
        obtain rfl := Option.some.inj H
        try go_wp2
        have n0_ := Aside0.mk (below_drew1 HB.out)
        clear HB
        have HB := n0_
        clear n0_
        have p204 : 0 ≤ (x5_1 : Int) := of_decide_eq_true (by assumption)
        have q204 : x5_1 < (l0.length : Int) := of_decide_eq_true (by assumption)
        obtain ⟨ad204, e204, hx204_0, hx204_1⟩ := at_T58 HR0.out x5_1 p204 q204
        have hw204_1 := hx204_1
        have hw204_0 := hx204_0
        cases e204
        replace hx204_0 := (HB.out.cell (World.block_lt_of_cell? w _ hx204_0)).trans hx204_0
        replace hx204_1 := (HB.out.cell (World.block_lt_of_cell? w _ hx204_1)).trans hx204_1
        replace p204 := eq_true p204
        replace q204 := eq_true q204
        have p205 : 0 ≤ (x5_1 : Int) := of_decide_eq_true (by assumption)
        have q205 : x5_1 < (l1.length : Int) := of_decide_eq_true (by assumption)
        obtain ⟨ad205, e205, hx205_0, hx205_1⟩ := at_T58 HR1.out x5_1 p205 q205
        have hw205_1 := hx205_1
        have hw205_0 := hx205_0
        cases e205
        replace hx205_0 := (HB.out.cell (World.block_lt_of_cell? w _ hx205_0)).trans hx205_0
        replace hx205_1 := (HB.out.cell (World.block_lt_of_cell? w _ hx205_1)).trans hx205_1
        replace p205 := eq_true p205
        replace q205 := eq_true q205
        refine start_ (n := 10) (S := fun w' => w'.cell? (ad204.add ((x5_1).toNat * 2)) = some (.int .i64 ((rd_T58 l0 x5_1).f0)) ∧ w'.cell? ⟨(ad204.add ((x5_1).toNat * 2)).block, (ad204.add ((x5_1).toNat * 2)).off + 1, none⟩ = some (.int .i64 ((rd_T58 l0 x5_1).f1)) ∧ w'.cell? (ad205.add ((x5_1).toNat * 2)) = some (.int .i64 ((rd_T58 l1 x5_1).f0)) ∧ w'.cell? ⟨(ad205.add ((x5_1).toNat * 2)).block, (ad205.add ((x5_1).toNat * 2)).off + 1, none⟩ = some (.int .i64 ((rd_T58 l1 x5_1).f1))) (ds := []) mz66_0 (by kernel_rfl) rfl rfl ⟨((HB.out.cell (World.block_lt_of_cell? w _ hw204_0)).trans hw204_0), ((HB.out.cell (World.block_lt_of_cell? w _ hw204_1)).trans hw204_1), ((HB.out.cell (World.block_lt_of_cell? w _ hw205_0)).trans hw205_0), ((HB.out.cell (World.block_lt_of_cell? w _ hw205_1)).trans hw205_1)⟩ (fun hHeld => ?_); refine with_tabW laws_eqDeviceS.tab6 laws_eqDeviceS.bits6 (fun HT_ HW_ => ?_)
        generalize wr.drew = w11 at HB hx204_0 hx204_1 hx205_0 hx205_1 hHeld ⊢
        refine pu_z66 0 (some 17) ?_ mz66_1 rfl rfl (any_of HT_.out (by kernel_rfl)) (fun _ _ _ h => h) (Or.inl ⟨by rfl, ?_⟩) ?_ ?_ ?_
        (rotate_left; ·(intro w'; go_simp; with_reducible rfl)); (rotate_left; ·(simp only [Act.put, pq_z66]; rfl))
        refine pu_z66 1 (some 18) ?_ mz66_2 rfl rfl (any_of HT_.out (by kernel_rfl)) (fun _ _ _ h => h) (Or.inl ⟨by rfl, ?_⟩) ?_ ?_ ?_
        (rotate_left; ·(intro w'; go_simp; with_reducible rfl)); (rotate_left; ·(simp only [Act.put, pq_z66]; rfl))
        refine pu_z66 2 (some 19) ?_ mz66_3 rfl rfl (any_of HT_.out (by kernel_rfl)) (fun _ _ _ h => h) (Or.inl ⟨by rfl, ?_⟩) ?_ ?_ ?_
        (rotate_left; ·(intro w'; go_simp; with_reducible rfl)); (rotate_left; ·(simp only [Act.put, pq_z66]; rfl))
        refine pu_z66 4 (some 21) ?_ mz66_4 rfl rfl (any_of HT_.out (by kernel_rfl)) (fun _ _ _ h => h) (Or.inl ⟨by rfl, ?_⟩) ?_ ?_ ?_
        (rotate_left; ·(intro w'; go_simp; with_reducible rfl)); (rotate_left; ·(simp only [Act.put, pq_z66]; rfl))
        refine pu_z66 5 (some 22) ?_ mz66_5 rfl rfl (any_of HT_.out (by kernel_rfl)) (fun _ _ _ h => h) (Or.inl ⟨by rfl, ?_⟩) ?_ ?_ ?_
        (rotate_left; ·(intro w'; go_simp; with_reducible rfl)); (rotate_left; ·(simp only [Act.put, pq_z66]; rfl))
        refine pu_z66 6 (some 23) ?_ mz66_6 rfl rfl (any_of HT_.out (by kernel_rfl)) (fun _ _ _ h => h) (Or.inl ⟨by rfl, ?_⟩) ?_ ?_ ?_
        (rotate_left; ·(intro w'; go_simp; with_reducible rfl)); (rotate_left; ·(simp only [Act.put, pq_z66]; rfl))
        refine take_ (i := 3) (N := some 20) (v := ?_) (a' := ?_) mz66_7 rfl rfl (take_ofW HT_.out HW_.out (by kernel_rfl)) (fun _ _ _ h => h) (Or.inl ⟨by rfl, ?_⟩) hHeld ?_ ?_
        (rotate_left; ·(rintro w' ⟨s0, s1, s2, s3⟩; go_simp; with_reducible rfl)); (rotate_left; ·(simp only [Act.put, pq_z66]; rfl))
        refine take_ (i := 7) (N := some 24) (v := ?_) (a' := ?_) mz66_8 rfl rfl (take_ofW HT_.out HW_.out (by kernel_rfl)) (fun _ _ _ h => h) (Or.inl ⟨by rfl, ?_⟩) hHeld ?_ ?_
        (rotate_left; ·(rintro w' ⟨s0, s1, s2, s3⟩; go_simp; with_reducible rfl)); (rotate_left; ·(simp only [Act.put, pq_z66]; rfl))
        refine one_ (i := 8) (N := some 25) mz66_9 rfl rfl (one_of HT_.out (by kernel_rfl)) (by decide) (fun K hK => ?_)
        refine goes_ Try.func110 (by kernel_rfl) rfl #[.agg #[.int .i64 ((rd_T58 l0 x5_1).f0), .int .i64 ((rd_T58 l0 x5_1).f1)], .agg #[.int .i64 ((rd_T58 l1 x5_1).f0), .int .i64 ((rd_T58 l1 x5_1).f1)]] (by rfl) rfl rfl (by (try simp only [List.map_toArray, List.map_cons, List.map_nil]); first | done | rfl | (simp only [List.length_drop, List.length_take]; rfl)) ?_
        with_reducible refine (laws_eqDevice.calls ((rd_T58 l0 x5_1).f0) ((rd_T58 l0 x5_1).f1) ((rd_T58 l1 x5_1).f0) ((rd_T58 l1 x5_1).f1) false _ A7.out).mono ?_
        rintro e w12 ⟨rfl, hb⟩
        refine ⟨_, rfl, ?_⟩
        have n0_ := Aside0.mk (below_step (by repeat first | exact HB.out | apply below_alloc | apply pw_below_drewN | apply below_drew1) hb)
        clear HB
        have HB := n0_
        clear n0_
        (try clear hb)
        (try clear hb2)
        (try clear hk)
        (try clear hi)
        refine hK.out _ _ ⟨((HB.out.cell (World.block_lt_of_cell? w _ hw204_0)).trans hw204_0), ((HB.out.cell (World.block_lt_of_cell? w _ hw204_1)).trans hw204_1), ((HB.out.cell (World.block_lt_of_cell? w _ hw205_0)).trans hw205_0), ((HB.out.cell (World.block_lt_of_cell? w _ hw205_1)).trans hw205_1)⟩ (fun hHeld => ?_)
        clear hK K
        refine norm_ (a' := ?_) ?_ ?_
        (rotate_left; ·(show Act.put _ (some 25) _ = _; simp only [Act.put, pq_z66]; rfl))
        refine pu_z66 9 (some 26) ?_ mz66_10 rfl rfl (any_of HT_.out (by kernel_rfl)) (fun _ _ _ h => h) (Or.inl ⟨by rfl, ?_⟩) ?_ ?_ ?_
        (rotate_left; ·(intro w'; go_simp; with_reducible rfl)); (rotate_left; ·(simp only [Act.put, pq_z66]; rfl))
        refine done_ (done_of HT_.out (by kernel_rfl)) ?_
        try go_wp2
        go_ret
        exact ⟨by first | rfl | (simp [*, errW_none, errW_some] <;> rfl), by repeat first | exact HB.out | apply below_alloc | apply pw_below_drewN | apply below_drew1⟩
      ·rw [if_neg c6] at H
       exact absurd H (by simp)
     ·rw [if_neg c5] at H
      exact absurd H (by simp)
    ·rw [if_neg c4] at H
     have c4b0 : decide (x5_1 < (l0.length : Int)) = false := decide_eq_false c4
     clear c4
     obtain rfl := Option.some.inj H
     go_wp2
     go_ret
     exact ⟨by first | rfl | (simp [*, errW_none, errW_some] <;> rfl), by repeat first | exact HB.out | apply below_alloc | apply pw_below_drewN | apply below_drew1⟩
 ·rw [if_neg c3] at H
  have c3b0 : ((l0.length : Int) == (l1.length : Int)) = false := beq_eq_false_iff_ne.mpr c3
  have c3b1 : ((l0.length : Int) != (l1.length : Int)) = true := bne_iff_ne.mpr c3
  have c3b2 : (l0.length == l1.length) = false := by first | simpa using c3 | (simp at c3 ⊢; omega)
  obtain rfl := Option.some.inj H
  go_enter Try.func66, Try.ntmps66
  go_wp2
  go_ret
  exact ⟨by first | rfl | (simp [*, errW_none, errW_some] <;> rfl), by repeat first | exact HB.out | apply below_alloc | apply pw_below_drewN | apply below_drew1⟩

end Go.Proofs.Ytbofikjgileanaa.Q
