/- Walks of the Go functions that the laws call: each returns what a plain Lean function says. Written by a program for these claims. -/
import Derived.Test.YtohjpgcmhihdhaaGreatDoorQ0
import Derived.Test.YtohjpgcmhihdhaaGreatDoorOSteps
import Derived.Test.YtohjpgcmhihdhaaGreatDoorQf44
import Derived.Test.YtohjpgcmhihdhaaGreatDoorQf45
import Derived.Test.YtohjpgcmhihdhaaGreatDoorQf46
import Derived.Test.YtohjpgcmhihdhaaGreatDoorQf47
namespace Go.Proofs.YtohjpgcmhihdhaaGreatDoor.Q
open Go.RowKit Go.Proofs.YtohjpgcmhihdhaaGreatDoorW.PrintWords Go.Proofs.YtohjpgcmhihdhaaGreatDoorW.PrintLast Go.Proofs.YtohjpgcmhihdhaaGreatDoorW.PrintMore
attribute [local go_sem] max2_int min2_int max_two min_two max_three min_three max_four min_four   -- for this text's walks alone
set_option linter.unusedVariables false
set_option linter.unusedSimpArgs false

/-! ### spec_l06OK: function 24 -/
mutual
def spec_l06OK.j0 : Nat → Bool → List (S57) → List (S49) → Option (Bool)
  | 0, _, _, _ => none
  | k + 1, x16, x188000, x188001 => if x16 = true then (some false) else (spec_l06OK.l0 k 0 x188000 x188001)
def spec_l06OK.l0 : Nat → Int → List (S57) → List (S49) → Option (Bool)
  | 0, _, _, _ => none
  | k + 1, x3, x188000, x188001 => if x3 < (x188001.length : Int) then (if 0 ≤ x3 then ((spec_l06Fits.f k x188000 x188001 ((rd_T49 x188001 x3).f0) ((rd_T49 x188001 x3).f1) ((rd_T49 x188001 x3).f2)).bind fun t192 => (if t192 = true then (spec_l06OK.l0 k (wrap64 (x3 + 1)) x188000 x188001) else (some false))) else (none)) else (some true)
end
def spec_l06OK.f (k : Nat) (l0_0 : List (S57)) (l0_1 : List (S49)) : Option (Bool) := (spec_l06Devices.f k l0_0 l0_1).bind fun t188 => (if t188 = true then ((spec_l06Buckets.f k l0_0 l0_1).bind fun t189 => (if t189 = true then ((spec_l06Once.f k l0_0 l0_1).bind fun t190 => (spec_l06OK.j0 k (!t190) l0_0 l0_1)) else (spec_l06OK.j0 k true l0_0 l0_1))) else (spec_l06OK.j0 k true l0_0 l0_1))
def spec_l06OK.T6 : Bool × List (List Nat × List Nat) := (true, [([], []), ([], []), ([1], [1]), ([], []), ([2, 3], [2, 3]), ([4], [4]), ([0, 5], [0, 5]), ([6], [6])])
def spec_l06OK.B6 : List Nat := [0, 0, 2, 0, 14, 30, 63, 127]
theorem spec_l06OK.tab6 : rtab .any (opsOf Tryz.f24 6) = spec_l06OK.T6 := by kernel_rfl
theorem spec_l06OK.bits6 : waitsOk spec_l06OK.T6.2 spec_l06OK.B6 = true := by kernel_rfl
theorem pu_z24 {P : Program} {ops : Array Oper} {Q : Exit → Act → World → Prop} {md : Region.Mode} {S : World → Prop} {ds : List Nat} {oi : Oper} {fuel : Nat} {l : Array Bool} {a : Act} {w : World} (i : Nat) (N : Option Tmp) (v : Value) (l' : Array Bool) (hi : ops[i]? = some oi) (hN : oi.dst = N) (hc : anyB md ops l l' i = true)
    (hQ : ∀ c a w, Q (.panic c) (a.put oi.dst v) w → Q (.panic c) a w) (hy : Yields P ops oi v a) (a' : Act) (ha : a.put N v = a')
    (h : wpAnyLast P md ops Q S ds fuel l' a' w) : wpAnyLast P md ops Q S ds (fuel + 1) l a w := pure_ l' hi hN hc hQ hy ha h
theorem pq_z24 : (∀ (l : List Value) (i : Nat) (v : Value), l.toArray.setIfInBounds i v = (l.set i v).toArray) ∧ (∀ (x v : Value) (xs : List Value), (x :: xs).set 0 v = v :: xs) ∧ (∀ (x v : Value) (xs : List Value) (n : Nat), (x :: xs).set (n + 1) v = x :: xs.set n v) ∧ (∀ n : Int, IntKind.i64.wrap n = Go.RowKit.wrap64 n) ∧ (∀ n : Int, IntKind.i32.wrap n = Go.RowKit.wrap32 n) :=
  ⟨fun l i v => List.setIfInBounds_toArray l i v, fun _ _ _ => rfl, fun _ _ _ _ => rfl, i64_w, i32_w⟩
set_option maxHeartbeats 8000000 in
set_option maxRecDepth 100000 in
theorem spec_l06OK.calls (k : Nat) (A0_0 : Option Addr) (c0_0 : Nat) (l0_0 : List (S57)) (A0_1 : Option Addr) (c0_1 : Nat) (l0_1 : List (S49)) (r : Bool) (w : World) (hr0_0 : Kd.C k57 w A0_0 l0_0.length l0_0) (hc0_0 : l0_0.length ≤ c0_0) (hr0_1 : Kd.C k49 w A0_1 l0_1.length l0_1) (hc0_1 : l0_1.length ≤ c0_1) (h : spec_l06OK.f k l0_0 l0_1 = some r) :
  Calls Tryz.prog 24 #[.agg #[.slice A0_0 l0_0.length c0_0, .slice A0_1 l0_1.length c0_1]] w fun e w' => e = .returned (.bool r) ∧ Below w.heap.size w w' := by
 have hu25 := Tryz.underlying25
 have hu49 := Tryz.underlying49
 have HR0_0 := Aside0.mk hr0_0
 have HC0_0 := Aside0.mk hc0_0
 clear hr0_0 hc0_0
 have HR0_1 := Aside0.mk hr0_1
 have HC0_1 := Aside0.mk hc0_1
 clear hr0_1 hc0_1
 have HB := Aside0.mk (Below.refl w.heap.size w)
 have H : ((spec_l06Devices.f k l0_0 l0_1).bind fun t188 => (if t188 = true then ((spec_l06Buckets.f k l0_0 l0_1).bind fun t189 => (if t189 = true then ((spec_l06Once.f k l0_0 l0_1).bind fun t190 => (spec_l06OK.j0 k (!t190) l0_0 l0_1)) else (spec_l06OK.j0 k true l0_0 l0_1))) else (spec_l06OK.j0 k true l0_0 l0_1))) = some r := h
 clear h
 have HC2 := Aside0.mk H
 clear H
 go_enter Tryz.func24, Tryz.ntmps24
 go_upto_region 1 with (first | ((with_reducible refine gate_dst (N := 1) rfl ?_); refine box_event ?hg (N := 1) ?hd (cs := #[.slice A0_0 l0_0.length c0_0, .slice A0_1 l0_1.length c0_1]) (t := 25) ?hr ?_; (case hd => rfl); (case hg => rfl); (case hr => first | (go_simp; done) | (go_simp; rfl)); intro gb187 hg w3 hbox hb; have n0_ := Aside0.mk (below_step (by repeat first | exact HB.out | apply pw_below_drewN) hb); have n1_ := Aside0.mk (hbox); clear HB; have HB := n0_; have BK187 := n1_; clear n0_ n1_; clear hb hbox hg))
 (try simp only [Act.put, List.setIfInBounds_toArray, List.set_cons_zero, List.set_cons_succ])
 go_cut [16] (fun v16 wc => ∃ (kq : Nat) (x16_1 : Bool), v16 = .bool x16_1 ∧ Aside0 (spec_l06OK.j0 kq x16_1 l0_0 l0_1 = some r) ∧ Aside0 (kq ≤ k) ∧ Aside0 (wc.heap[gb187]? = some (.cells #[(.slice A0_0 l0_0.length c0_0), (.slice A0_1 l0_1.length c0_1)] 25 (0, 0))) ∧ Aside0 (Below w.heap.size w wc))
 case first =>
  have H := HC2.out
  clear HC2
  replace H := Option.bind_eq_some_iff.mp H
  obtain ⟨t188, A40, H⟩ := H
  set_option simprocs false in try dsimp only at H
  have A4 := Aside0.mk A40
  clear A40
  by_cases c5 : t188 = true
  ·subst c5
   rw [if_pos rfl] at H
   replace H := Option.bind_eq_some_iff.mp H
   obtain ⟨t189, A60, H⟩ := H
   set_option simprocs false in try dsimp only at H
   have A6 := Aside0.mk A60
   clear A60
   by_cases c7 : t189 = true
   ·subst c7
    rw [if_pos rfl] at H
    replace H := Option.bind_eq_some_iff.mp H
    obtain ⟨t190, A80, H⟩ := H
    set_option simprocs false in try dsimp only at H
    have A8 := Aside0.mk A80
    clear A80
    have H' := Aside0.mk H
    clear H
    have hcz9_0 := (blk_cell BK187.out 0).trans rfl
    have hcz9_1 := (blk_cell BK187.out 1).trans rfl
    go_wp2_with (first | ((with_reducible refine gate_callee (f := 44) rfl ?_); refine goesL_ (some 5) rfl rfl Tryz.func44 (by kernel_rfl) rfl #[.agg #[.slice A0_0 l0_0.length c0_0, .slice A0_1 l0_1.length c0_1]] rfl (by (try simp only [List.map_toArray, List.map_cons, List.map_nil]); first | done | rfl) ?_; (with_reducible refine (spec_l06Devices.calls k _ _ l0_0 _ _ l0_1 true _ ?side1 ?side2 ?side3 ?side4 A4.out).mono ?_); (case side1 => exact (Kd.C_below HR0_0.out HB.out)); (case side2 => exact HC0_0.out); (case side3 => exact (Kd.C_below HR0_1.out HB.out)); (case side4 => exact HC0_1.out); rintro e w10 ⟨rfl, hb⟩; refine ⟨_, rfl, ?_⟩; have n0_ := Aside0.mk (blk_below (by exact BK187.out) hb); have n1_ := Aside0.mk (below_step (by repeat first | exact HB.out | apply pw_below_drewN) hb); clear BK187; clear HB; have BK187 := n0_; have HB := n1_; clear n0_ n1_; (try clear hb); (try clear hb2); (try clear hk); (try clear hi); have hcz11_0 := (blk_cell BK187.out 0).trans rfl; have hcz11_1 := (blk_cell BK187.out 1).trans rfl) | (go_at_call 45; (with_reducible refine (spec_l06Buckets.calls k _ _ l0_0 _ _ l0_1 true _ ?side1 ?side2 ?side3 ?side4 A6.out).mono ?_); (case side1 => exact (Kd.C_below HR0_0.out HB.out)); (case side2 => exact HC0_0.out); (case side3 => exact (Kd.C_below HR0_1.out HB.out)); (case side4 => exact HC0_1.out); rintro e w12 ⟨rfl, hb⟩; have n0_ := Aside0.mk (blk_below (by exact BK187.out) hb); have n1_ := Aside0.mk (below_step (by repeat first | exact HB.out | apply pw_below_drewN) hb); clear BK187; clear HB; have BK187 := n0_; have HB := n1_; clear n0_ n1_; (try clear hb); (try clear hb2); (try clear hk); (try clear hi); have hcz13_0 := (blk_cell BK187.out 0).trans rfl; have hcz13_1 := (blk_cell BK187.out 1).trans rfl) | (go_at_call 46; (with_reducible refine (spec_l06Once.calls k _ _ l0_0 _ _ l0_1 t190 _ ?side1 ?side2 ?side3 ?side4 A8.out).mono ?_); (case side1 => exact (Kd.C_below HR0_0.out HB.out)); (case side2 => exact HC0_0.out); (case side3 => exact (Kd.C_below HR0_1.out HB.out)); (case side4 => exact HC0_1.out); rintro e w14 ⟨rfl, hb⟩; have n0_ := Aside0.mk (blk_below (by exact BK187.out) hb); have n1_ := Aside0.mk (below_step (by repeat first | exact HB.out | apply pw_below_drewN) hb); clear BK187; clear HB; have BK187 := n0_; have HB := n1_; clear n0_ n1_; (try clear hb); (try clear hb2); (try clear hk); (try clear hi)))
    go_meet
    case rel => exact ⟨_, (!t190), (by first | rfl | (simp; done) | (simp [*]; done)), H', ⟨by first | omega | exact Nat.le_refl _⟩, ⟨by exact BK187.out⟩, ⟨by repeat first | exact HB.out | apply pw_below_drewN⟩⟩
   ·replace c7 := Bool.eq_false_iff.mpr c7
    subst c7
    rw [if_neg (show ¬ (false = true) by decide)] at H
    have H' := Aside0.mk H
    clear H
    have hcz15_0 := (blk_cell BK187.out 0).trans rfl
    have hcz15_1 := (blk_cell BK187.out 1).trans rfl
    go_wp2_with (first | ((with_reducible refine gate_callee (f := 44) rfl ?_); refine goesL_ (some 5) rfl rfl Tryz.func44 (by kernel_rfl) rfl #[.agg #[.slice A0_0 l0_0.length c0_0, .slice A0_1 l0_1.length c0_1]] rfl (by (try simp only [List.map_toArray, List.map_cons, List.map_nil]); first | done | rfl) ?_; (with_reducible refine (spec_l06Devices.calls k _ _ l0_0 _ _ l0_1 true _ ?side1 ?side2 ?side3 ?side4 A4.out).mono ?_); (case side1 => exact (Kd.C_below HR0_0.out HB.out)); (case side2 => exact HC0_0.out); (case side3 => exact (Kd.C_below HR0_1.out HB.out)); (case side4 => exact HC0_1.out); rintro e w16 ⟨rfl, hb⟩; refine ⟨_, rfl, ?_⟩; have n0_ := Aside0.mk (blk_below (by exact BK187.out) hb); have n1_ := Aside0.mk (below_step (by repeat first | exact HB.out | apply pw_below_drewN) hb); clear BK187; clear HB; have BK187 := n0_; have HB := n1_; clear n0_ n1_; (try clear hb); (try clear hb2); (try clear hk); (try clear hi); have hcz17_0 := (blk_cell BK187.out 0).trans rfl; have hcz17_1 := (blk_cell BK187.out 1).trans rfl) | (go_at_call 45; (with_reducible refine (spec_l06Buckets.calls k _ _ l0_0 _ _ l0_1 false _ ?side1 ?side2 ?side3 ?side4 A6.out).mono ?_); (case side1 => exact (Kd.C_below HR0_0.out HB.out)); (case side2 => exact HC0_0.out); (case side3 => exact (Kd.C_below HR0_1.out HB.out)); (case side4 => exact HC0_1.out); rintro e w18 ⟨rfl, hb⟩; have n0_ := Aside0.mk (blk_below (by exact BK187.out) hb); have n1_ := Aside0.mk (below_step (by repeat first | exact HB.out | apply pw_below_drewN) hb); clear BK187; clear HB; have BK187 := n0_; have HB := n1_; clear n0_ n1_; (try clear hb); (try clear hb2); (try clear hk); (try clear hi)))
    go_meet
    case rel => exact ⟨_, (true), (by first | rfl | (simp; done) | (simp [*]; done)), H', ⟨by first | omega | exact Nat.le_refl _⟩, ⟨by exact BK187.out⟩, ⟨by repeat first | exact HB.out | apply pw_below_drewN⟩⟩
  ·replace c5 := Bool.eq_false_iff.mpr c5
   subst c5
   rw [if_neg (show ¬ (false = true) by decide)] at H
   have H' := Aside0.mk H
   clear H
   have hcz19_0 := (blk_cell BK187.out 0).trans rfl
   have hcz19_1 := (blk_cell BK187.out 1).trans rfl
   go_wp2_with (first | ((with_reducible refine gate_callee (f := 44) rfl ?_); refine goesL_ (some 5) rfl rfl Tryz.func44 (by kernel_rfl) rfl #[.agg #[.slice A0_0 l0_0.length c0_0, .slice A0_1 l0_1.length c0_1]] rfl (by (try simp only [List.map_toArray, List.map_cons, List.map_nil]); first | done | rfl) ?_; (with_reducible refine (spec_l06Devices.calls k _ _ l0_0 _ _ l0_1 false _ ?side1 ?side2 ?side3 ?side4 A4.out).mono ?_); (case side1 => exact (Kd.C_below HR0_0.out HB.out)); (case side2 => exact HC0_0.out); (case side3 => exact (Kd.C_below HR0_1.out HB.out)); (case side4 => exact HC0_1.out); rintro e w20 ⟨rfl, hb⟩; refine ⟨_, rfl, ?_⟩; have n0_ := Aside0.mk (blk_below (by exact BK187.out) hb); have n1_ := Aside0.mk (below_step (by repeat first | exact HB.out | apply pw_below_drewN) hb); clear BK187; clear HB; have BK187 := n0_; have HB := n1_; clear n0_ n1_; (try clear hb); (try clear hb2); (try clear hk); (try clear hi)))
   go_meet
   case rel => exact ⟨_, (true), (by first | rfl | (simp; done) | (simp [*]; done)), H', ⟨by first | omega | exact Nat.le_refl _⟩, ⟨by exact BK187.out⟩, ⟨by repeat first | exact HB.out | apply pw_below_drewN⟩⟩
 case rest =>
  clear HC2
  try clear c2
  try clear p2
  try clear c4
  try clear c5
  try clear c7
  try clear hcz11_0
  try clear hcz11_1
  try clear hcz13_0
  try clear hcz13_1
  try clear hcz15_0
  try clear hcz15_1
  try clear hcz17_0
  try clear hcz17_1
  try clear hcz19_0
  try clear hcz19_1
  try clear hcz9_0
  try clear hcz9_1
  obtain ⟨kq, x16_1, rfl, HA, HJ1, BK187, HB⟩ := hcut
  cases kq with
  | zero => exact absurd HA.out (by simp [spec_l06OK.j0])
  | succ kj1 =>
   have H := HA.out
   clear HA
   simp only [spec_l06OK.j0] at H
   by_cases c21 : x16_1 = true
   ·subst c21
    rw [if_pos rfl] at H
    obtain rfl := Option.some.inj H
    go_wp2
    go_ret
    exact ⟨by first | rfl | (simp [*, errW_none, errW_some] <;> rfl), by repeat first | exact HB.out | apply pw_below_drewN⟩
   ·replace c21 := Bool.eq_false_iff.mpr c21
    subst c21
    rw [if_neg (show ¬ (false = true) by decide)] at H
    have H' := Aside0.mk H
    clear H
    go_wp2
    go_loopg [3] kj1 (fun kq v3 w' => ∃ (x3_2 : Int), v3 = .int .i64 x3_2 ∧ Aside0 (spec_l06OK.l0 kq x3_2 l0_0 l0_1 = some r) ∧ Aside0 (kq ≤ kj1) ∧ Aside0 (w'.heap[gb187]? = some (.cells #[(.slice A0_0 l0_0.length c0_0), (.slice A0_1 l0_1.length c0_1)] 25 (0, 0))) ∧ Aside0 (Below w.heap.size w w'))
    case atStart => exact ⟨(0), (by first | rfl | (simp; done) | (simp [*]; done)), H', ⟨Nat.le_refl _⟩, ⟨by exact BK187.out⟩, ⟨by repeat first | exact HB.out | apply pw_below_drewN⟩⟩
    case round =>
     clear H'
     try clear c2
     try clear p2
     try clear c4
     try clear c5
     try clear c7
     try clear c21
     try clear hcz11_0
     try clear hcz11_1
     try clear hcz13_0
     try clear hcz13_1
     try clear hcz15_0
     try clear hcz15_1
     try clear hcz17_0
     try clear hcz17_1
     try clear hcz19_0
     try clear hcz19_1
     try clear hcz9_0
     try clear hcz9_1
     try clear p2
     obtain ⟨x3_2, rfl, HA, HK2, BK187, HB⟩ := hrel
     cases gk with
     | zero => exact absurd HA.out (by simp [spec_l06OK.l0])
     | succ k2 =>
      have H := HA.out
      clear HA
      simp only [spec_l06OK.l0] at H
      by_cases c22 : x3_2 < (l0_1.length : Int)
      ·rw [if_pos c22] at H
       have c22b0 : decide (x3_2 < (l0_1.length : Int)) = true := decide_eq_true c22
       clear c22
       by_cases c23 : 0 ≤ x3_2
       ·rw [if_pos c23] at H
        have c23b0 : decide (0 ≤ x3_2) = true := decide_eq_true c23
        clear c23
        replace H := Option.bind_eq_some_iff.mp H
        obtain ⟨t192, A240, H⟩ := H
        set_option simprocs false in try dsimp only at H
        have A24 := Aside0.mk A240
        clear A240
        by_cases c25 : t192 = true
        ·subst c25
         rw [if_pos rfl] at H
         have H' := Aside0.mk H
         clear H
         have hcz26_0 := (blk_cell BK187.out 0).trans rfl
         have hcz26_1 := (blk_cell BK187.out 1).trans rfl
         try go_wp2
         have n0_ := Aside0.mk (blk_drew BK187.out)
         have n1_ := Aside0.mk (below_drew1 HB.out)
         clear BK187
         clear HB
         have BK187 := n0_
         have HB := n1_
         clear n0_ n1_
         have p191 : 0 ≤ (x3_2 : Int) := of_decide_eq_true (by assumption)
         have q191 : x3_2 < (l0_1.length : Int) := of_decide_eq_true (by assumption)
         obtain ⟨ad191, A191_2, c191_2, e191, hx191_0, hx191_1, hx191_2, hl191_2, hi191_2⟩ := at_T49 HR0_1.out x3_2 p191 q191
         have hw191_2 := hx191_2
         have hw191_1 := hx191_1
         have hw191_0 := hx191_0
         cases e191
         replace hx191_0 := (HB.out.cell (World.block_lt_of_cell? w _ hx191_0)).trans hx191_0
         replace hx191_1 := (HB.out.cell (World.block_lt_of_cell? w _ hx191_1)).trans hx191_1
         replace hx191_2 := (HB.out.cell (World.block_lt_of_cell? w _ hx191_2)).trans hx191_2
         have HR191_2 := Aside0.mk hi191_2
         have HC191_2 := Aside0.mk hl191_2
         clear hi191_2 hl191_2
         replace p191 := eq_true p191
         replace q191 := eq_true q191
         refine start_ (n := 8) (S := fun w' => w'.cell? ⟨gb187, 0, none⟩ = some (.slice A0_0 l0_0.length c0_0) ∧ w'.cell? ⟨gb187, 1, none⟩ = some (.slice (some ad191) l0_1.length c0_1) ∧ w'.cell? (ad191.add ((x3_2).toNat * 3)) = some (.int .i64 ((rd_T49 l0_1 x3_2).f0)) ∧ w'.cell? ⟨(ad191.add ((x3_2).toNat * 3)).block, (ad191.add ((x3_2).toNat * 3)).off + 1, none⟩ = some (.int .i64 ((rd_T49 l0_1 x3_2).f1)) ∧ w'.cell? ⟨(ad191.add ((x3_2).toNat * 3)).block, (ad191.add ((x3_2).toNat * 3)).off + 2, none⟩ = some (.slice A191_2 ((rd_T49 l0_1 x3_2).f2).length c191_2)) (ds := []) #[false, false, false, false, false, false, false, false] (by kernel_rfl) rfl rfl ⟨(blk_cell BK187.out 0).trans rfl, (blk_cell BK187.out 1).trans rfl, ((HB.out.cell (World.block_lt_of_cell? w _ hw191_0)).trans hw191_0), ((HB.out.cell (World.block_lt_of_cell? w _ hw191_1)).trans hw191_1), ((HB.out.cell (World.block_lt_of_cell? w _ hw191_2)).trans hw191_2)⟩ (fun hHeld => ?_); refine with_tabW spec_l06OK.tab6 spec_l06OK.bits6 (fun HT_ HW_ => ?_)
         generalize wr.drew = w27 at BK187 HB HR191_2 hx191_0 hx191_1 hx191_2 hHeld ⊢
         refine pu 1 (some 25) #[false, true, false, false, false, false, false, false] (any_of HT_.out (by kernel_rfl)) ?_
         refine pu 3 (some 27) #[false, true, false, true, false, false, false, false] (any_of HT_.out (by kernel_rfl)) ?_
         refine tk 0 (some 24) #[true, true, false, true, false, false, false, false] hHeld (take_ofW HT_.out HW_.out (by kernel_rfl)) ?_
         refine tk 2 (some 26) #[true, true, true, true, false, false, false, false] hHeld (take_ofW HT_.out HW_.out (by kernel_rfl)) ?_
         refine pu 4 (some 28) #[true, true, true, true, true, false, false, false] (any_of HT_.out (by kernel_rfl)) ?_
         refine tk 5 (some 29) #[true, true, true, true, true, true, false, false] hHeld (take_ofW HT_.out HW_.out (by kernel_rfl)) ?_
         refine one_ (i := 6) (N := some 30) #[true, true, true, true, true, true, true, false] rfl rfl (one_of HT_.out (by kernel_rfl)) (by decide) (fun K hK => ?_)
         refine goes_ Tryz.func47 (by kernel_rfl) rfl #[.agg #[.slice A0_0 l0_0.length c0_0, .slice (some ad191) l0_1.length c0_1], .agg #[.int .i64 ((rd_T49 l0_1 x3_2).f0), .int .i64 ((rd_T49 l0_1 x3_2).f1), .slice A191_2 ((rd_T49 l0_1 x3_2).f2).length c191_2]] (by rfl) rfl rfl (by (try simp only [List.map_toArray, List.map_cons, List.map_nil]); first | done | rfl) ?_
         with_reducible refine (spec_l06Fits.calls k2 _ _ l0_0 _ _ l0_1 ((rd_T49 l0_1 x3_2).f0) ((rd_T49 l0_1 x3_2).f1) _ _ ((rd_T49 l0_1 x3_2).f2) true _ ?side1 ?side2 ?side3 ?side4 ?side5 ?side6 A24.out).mono ?_
         (case side1 => exact (Kd.C_below HR0_0.out HB.out))
         (case side2 => exact HC0_0.out)
         (case side3 => exact (Kd.C_below HR0_1.out HB.out))
         (case side4 => exact HC0_1.out)
         (case side5 => exact (Kd.C_below HR191_2.out HB.out))
         (case side6 => exact HC191_2.out)
         rintro e w28 ⟨rfl, hb⟩
         refine ⟨_, rfl, ?_⟩
         have n0_ := Aside0.mk (blk_below (by exact BK187.out) hb)
         have n1_ := Aside0.mk (below_step (by repeat first | exact HB.out | apply pw_below_drewN) hb)
         clear BK187
         clear HB
         have BK187 := n0_
         have HB := n1_
         clear n0_ n1_
         (try clear hb)
         (try clear hb2)
         (try clear hk)
         (try clear hi)
         refine hK.out _ _ ⟨(blk_cell BK187.out 0).trans rfl, (blk_cell BK187.out 1).trans rfl, ((HB.out.cell (World.block_lt_of_cell? w _ hw191_0)).trans hw191_0), ((HB.out.cell (World.block_lt_of_cell? w _ hw191_1)).trans hw191_1), ((HB.out.cell (World.block_lt_of_cell? w _ hw191_2)).trans hw191_2)⟩ (fun hHeld => ?_)
         clear hK K
         refine norm_ (a' := ?_) ?_ ?_
         (rotate_left; ·(show Act.put _ (some 30) _ = _; simp only [Act.put, pq_z24]; rfl))
         refine pu 7 (some 31) #[true, true, true, true, true, true, true, true] (any_of HT_.out (by kernel_rfl)) ?_
         refine done_ (done_of HT_.out (by kernel_rfl)) ?_
         try go_wp2
         go_roundg k2
         case measure => have := HJ1.out; have := HK2.out; omega
         case rel => exact ⟨(wrap64 (x3_2 + 1)), (by first | rfl | (simp; done) | (simp [*]; done)), H', ⟨by have := HJ1.out; have := HK2.out; omega⟩, ⟨by exact BK187.out⟩, ⟨by repeat first | exact HB.out | apply pw_below_drewN⟩⟩
        ·replace c25 := Bool.eq_false_iff.mpr c25
         subst c25
         rw [if_neg (show ¬ (false = true) by decide)] at H
         obtain rfl := Option.some.inj H
         have hcz29_0 := (blk_cell BK187.out 0).trans rfl
         have hcz29_1 := (blk_cell BK187.out 1).trans rfl
         try go_wp2
         have n0_ := Aside0.mk (blk_drew BK187.out)
         have n1_ := Aside0.mk (below_drew1 HB.out)
         clear BK187
         clear HB
         have BK187 := n0_
         have HB := n1_
         clear n0_ n1_
         have p191 : 0 ≤ (x3_2 : Int) := of_decide_eq_true (by assumption)
         have q191 : x3_2 < (l0_1.length : Int) := of_decide_eq_true (by assumption)
         obtain ⟨ad191, A191_2, c191_2, e191, hx191_0, hx191_1, hx191_2, hl191_2, hi191_2⟩ := at_T49 HR0_1.out x3_2 p191 q191
         have hw191_2 := hx191_2
         have hw191_1 := hx191_1
         have hw191_0 := hx191_0
         cases e191
         replace hx191_0 := (HB.out.cell (World.block_lt_of_cell? w _ hx191_0)).trans hx191_0
         replace hx191_1 := (HB.out.cell (World.block_lt_of_cell? w _ hx191_1)).trans hx191_1
         replace hx191_2 := (HB.out.cell (World.block_lt_of_cell? w _ hx191_2)).trans hx191_2
         have HR191_2 := Aside0.mk hi191_2
         have HC191_2 := Aside0.mk hl191_2
         clear hi191_2 hl191_2
         replace p191 := eq_true p191
         replace q191 := eq_true q191
         refine start_ (n := 8) (S := fun w' => w'.cell? ⟨gb187, 0, none⟩ = some (.slice A0_0 l0_0.length c0_0) ∧ w'.cell? ⟨gb187, 1, none⟩ = some (.slice (some ad191) l0_1.length c0_1) ∧ w'.cell? (ad191.add ((x3_2).toNat * 3)) = some (.int .i64 ((rd_T49 l0_1 x3_2).f0)) ∧ w'.cell? ⟨(ad191.add ((x3_2).toNat * 3)).block, (ad191.add ((x3_2).toNat * 3)).off + 1, none⟩ = some (.int .i64 ((rd_T49 l0_1 x3_2).f1)) ∧ w'.cell? ⟨(ad191.add ((x3_2).toNat * 3)).block, (ad191.add ((x3_2).toNat * 3)).off + 2, none⟩ = some (.slice A191_2 ((rd_T49 l0_1 x3_2).f2).length c191_2)) (ds := []) #[false, false, false, false, false, false, false, false] (by kernel_rfl) rfl rfl ⟨(blk_cell BK187.out 0).trans rfl, (blk_cell BK187.out 1).trans rfl, ((HB.out.cell (World.block_lt_of_cell? w _ hw191_0)).trans hw191_0), ((HB.out.cell (World.block_lt_of_cell? w _ hw191_1)).trans hw191_1), ((HB.out.cell (World.block_lt_of_cell? w _ hw191_2)).trans hw191_2)⟩ (fun hHeld => ?_); refine with_tabW spec_l06OK.tab6 spec_l06OK.bits6 (fun HT_ HW_ => ?_)
         generalize wr.drew = w30 at BK187 HB HR191_2 hx191_0 hx191_1 hx191_2 hHeld ⊢
         refine pu 1 (some 25) #[false, true, false, false, false, false, false, false] (any_of HT_.out (by kernel_rfl)) ?_
         refine pu 3 (some 27) #[false, true, false, true, false, false, false, false] (any_of HT_.out (by kernel_rfl)) ?_
         refine tk 0 (some 24) #[true, true, false, true, false, false, false, false] hHeld (take_ofW HT_.out HW_.out (by kernel_rfl)) ?_
         refine tk 2 (some 26) #[true, true, true, true, false, false, false, false] hHeld (take_ofW HT_.out HW_.out (by kernel_rfl)) ?_
         refine pu 4 (some 28) #[true, true, true, true, true, false, false, false] (any_of HT_.out (by kernel_rfl)) ?_
         refine tk 5 (some 29) #[true, true, true, true, true, true, false, false] hHeld (take_ofW HT_.out HW_.out (by kernel_rfl)) ?_
         refine one_ (i := 6) (N := some 30) #[true, true, true, true, true, true, true, false] rfl rfl (one_of HT_.out (by kernel_rfl)) (by decide) (fun K hK => ?_)
         refine goes_ Tryz.func47 (by kernel_rfl) rfl #[.agg #[.slice A0_0 l0_0.length c0_0, .slice (some ad191) l0_1.length c0_1], .agg #[.int .i64 ((rd_T49 l0_1 x3_2).f0), .int .i64 ((rd_T49 l0_1 x3_2).f1), .slice A191_2 ((rd_T49 l0_1 x3_2).f2).length c191_2]] (by rfl) rfl rfl (by (try simp only [List.map_toArray, List.map_cons, List.map_nil]); first | done | rfl) ?_
         with_reducible refine (spec_l06Fits.calls k2 _ _ l0_0 _ _ l0_1 ((rd_T49 l0_1 x3_2).f0) ((rd_T49 l0_1 x3_2).f1) _ _ ((rd_T49 l0_1 x3_2).f2) false _ ?side1 ?side2 ?side3 ?side4 ?side5 ?side6 A24.out).mono ?_
         (case side1 => exact (Kd.C_below HR0_0.out HB.out))
         (case side2 => exact HC0_0.out)
         (case side3 => exact (Kd.C_below HR0_1.out HB.out))
         (case side4 => exact HC0_1.out)
         (case side5 => exact (Kd.C_below HR191_2.out HB.out))
         (case side6 => exact HC191_2.out)
         rintro e w31 ⟨rfl, hb⟩
         refine ⟨_, rfl, ?_⟩
         have n0_ := Aside0.mk (blk_below (by exact BK187.out) hb)
         have n1_ := Aside0.mk (below_step (by repeat first | exact HB.out | apply pw_below_drewN) hb)
         clear BK187
         clear HB
         have BK187 := n0_
         have HB := n1_
         clear n0_ n1_
         (try clear hb)
         (try clear hb2)
         (try clear hk)
         (try clear hi)
         refine hK.out _ _ ⟨(blk_cell BK187.out 0).trans rfl, (blk_cell BK187.out 1).trans rfl, ((HB.out.cell (World.block_lt_of_cell? w _ hw191_0)).trans hw191_0), ((HB.out.cell (World.block_lt_of_cell? w _ hw191_1)).trans hw191_1), ((HB.out.cell (World.block_lt_of_cell? w _ hw191_2)).trans hw191_2)⟩ (fun hHeld => ?_)
         clear hK K
         refine norm_ (a' := ?_) ?_ ?_
         (rotate_left; ·(show Act.put _ (some 30) _ = _; simp only [Act.put, pq_z24]; rfl))
         refine pu 7 (some 31) #[true, true, true, true, true, true, true, true] (any_of HT_.out (by kernel_rfl)) ?_
         refine done_ (done_of HT_.out (by kernel_rfl)) ?_
         try go_wp2
         go_ret
         exact ⟨by first | rfl | (simp [*, errW_none, errW_some] <;> rfl), by repeat first | exact HB.out | apply pw_below_drewN⟩
       ·rw [if_neg c23] at H
        exact absurd H (by simp)
      ·rw [if_neg c22] at H
       have c22b0 : decide (x3_2 < (l0_1.length : Int)) = false := decide_eq_false c22
       clear c22
       obtain rfl := Option.some.inj H
       have hcz32_0 := (blk_cell BK187.out 0).trans rfl
       have hcz32_1 := (blk_cell BK187.out 1).trans rfl
       go_wp2
       go_ret
       exact ⟨by first | rfl | (simp [*, errW_none, errW_some] <;> rfl), by repeat first | exact HB.out | apply pw_below_drewN⟩

end Go.Proofs.YtohjpgcmhihdhaaGreatDoor.Q
