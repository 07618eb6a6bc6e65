/- Walks of the Go functions that the laws call: each returns what a plain Lean function says. Written by a program for these claims. -/
import Derived.Test.YtlocignlkigojaaQ0
import Derived.Test.YtlocignlkigojaaQf159
import Derived.Test.YtlocignlkigojaaQf160
import Derived.Test.YtlocignlkigojaaQf96
namespace Go.Proofs.Ytlocignlkigojaa.Q
open Go.RowKit Go.Proofs.YtlocignlkigojaaW.PrintWords Go.Proofs.YtlocignlkigojaaW.PrintLast Go.Proofs.YtlocignlkigojaaW.PrintMore
attribute [local go_sem] max2_int min2_int max_two min_two max_three min_three max_four min_four   -- for this text's walks alone
set_option linter.unusedVariables false
set_option linter.unusedSimpArgs false

/-! ### spec_l10OK: function 126 -/
def spec_l10OK.l0 : Nat → List (S144) → Int → Option (Bool)
  | 0, _, _ => none
  | k + 1, x0, x3 => if x3 < (x0.length : Int) then (if 0 ≤ x3 then ((spec_l00In.f ((rd_T144 x0 x3).f0.f0) 1 4).bind fun t670 => (if t670 = true then ((spec_l00In.f ((rd_T144 x0 x3).f0.f1) 0 15).bind fun t671 => (if t671 = true then ((spec_l00In.f ((rd_T144 x0 x3).f1) 0 15).bind fun t672 => (if t672 = true then ((spec_l00In.f ((rd_T144 x0 x3).f2) 0 15).bind fun t673 => (if t673 = true then (if ((rd_T144 x0 x3).f1) = ((rd_T144 x0 x3).f2) then (some false) else (if x3 > 0 then (if 0 ≤ (wrap64 (x3 - 1)) then (if (wrap64 (x3 - 1)) < (x0.length : Int) then ((spec_l10Less.f ((rd_T144 x0 x3).f0.f0) ((rd_T144 x0 x3).f0.f1) ((rd_T144 x0 (wrap64 (x3 - 1))).f0.f0) ((rd_T144 x0 (wrap64 (x3 - 1))).f0.f1)).bind fun t675 => (if t675 = true then (some false) else (if x3 ≤ (x0.length : Int) then ((spec_l10Known.f k (x0.take (x3 : Int).toNat) ((rd_T144 x0 x3).f0.f0) ((rd_T144 x0 x3).f0.f1) ((rd_T144 x0 x3).f1)).bind fun t680 => (if t680 = true then (some false) else (spec_l10OK.l0 k x0 (wrap64 (x3 + 1))))) else (none)))) else (none)) else (none)) else (if x3 ≤ (x0.length : Int) then ((spec_l10Known.f k (x0.take (x3 : Int).toNat) ((rd_T144 x0 x3).f0.f0) ((rd_T144 x0 x3).f0.f1) ((rd_T144 x0 x3).f1)).bind fun t685 => (if t685 = true then (some false) else (spec_l10OK.l0 k x0 (wrap64 (x3 + 1))))) else (none)))) else (some false))) else (some false))) else (some false))) else (some false))) else (none)) else (some true)
def spec_l10OK.f (k : Nat) (l0 : List (S144)) : Option (Bool) := if (l0.length : Int) > 16 then (some false) else (spec_l10OK.l0 k l0 0)
theorem spec_l10OK.mono_l : ∀ k, (∀ y0 y1, LeO (spec_l10OK.l0 k y0 y1) (spec_l10OK.l0 (k + 1) y0 y1))
  | 0 => fun _ _ r h => by simp [spec_l10OK.l0] at h
  | k + 1 => by
    have ih0 := spec_l10OK.mono_l k
    · intro y0 y1
      unfold spec_l10OK.l0
      repeat' first
      | (with_reducible exact ih0 _ _)
      | (with_reducible exact spec_l10Known.mono _ _ _ _ _)
      | (with_reducible exact LeO.refl _)
      | (with_reducible exact LeO.none _)
      | (with_reducible refine LeO.ite ?_ ?_)
      | (with_reducible refine LeO.bind ?_ (fun _ => ?_))
      | exact ih0 _ _
      | exact spec_l10Known.mono _ _ _ _ _
      | exact LeO.none _
      | refine LeO.ite ?_ ?_
      | refine LeO.bind ?_ (fun _ => ?_)
theorem spec_l10OK.mono : ∀ a0 k, LeO (spec_l10OK.f k a0) (spec_l10OK.f (k + 1) a0) := by
  intro a0 k
  have ih0 := spec_l10OK.mono_l k
  unfold spec_l10OK.f
  repeat' first
      | (with_reducible exact ih0 _ _)
      | (with_reducible exact spec_l10Known.mono _ _ _ _ _)
      | (with_reducible exact LeO.refl _)
      | (with_reducible exact LeO.none _)
      | (with_reducible refine LeO.ite ?_ ?_)
      | (with_reducible refine LeO.bind ?_ (fun _ => ?_))
      | exact ih0 _ _
      | exact spec_l10Known.mono _ _ _ _ _
      | exact LeO.none _
      | refine LeO.ite ?_ ?_
      | refine LeO.bind ?_ (fun _ => ?_)
def spec_l10OK.T7 : Bool × List (List Nat × List Nat) := (true, [([], []), ([0], [0]), ([1], [1]), ([2], [2]), ([3], [3]), ([4, 3], [4]), ([5], [5]), ([6, 5], [5, 6]), ([7, 5], [5, 7]), ([8, 5, 5], [5, 8]), ([9, 5], [5, 9]), ([5, 10], [5, 10]), ([11, 9], [11]), ([12], [12]), ([13, 12], [12, 13]), ([14, 12, 12], [12, 14]), ([15, 12], [12, 15]), ([12, 16], [12, 16]), ([17, 15], [17]), ([18], [18]), ([19, 18], [18, 19]), ([20, 18, 18], [18, 20]), ([21, 18], [18, 21]), ([18, 22], [18, 22]), ([23, 21], [23]), ([24], [24]), ([25, 24], [24, 25]), ([24], [24]), ([27, 24], [24, 27]), ([26, 28, 24], [24, 26, 28]), ([24, 29], [24, 29]), ([30, 24], [30]), ([31], [31]), ([32, 31], [31, 32]), ([33, 31, 31], [31, 33]), ([34], [34]), ([35, 34], [34, 35]), ([34], [34]), ([34], [34]), ([38, 34], [34, 38]), ([37, 39, 34], [34, 37, 39]), ([40, 34], [34, 40]), ([41, 34], [34, 41]), ([36, 42, 34, 34], [34, 36, 42]), ([34, 43, 31], [31, 34, 43]), ([31, 44], [31, 44]), ([45, 43], [45]), ([46], [46]), ([46], [46]), ([47, 48, 46], [46, 47, 48]), ([46], [46]), ([50, 46], [46, 50]), ([46], [46]), ([52, 46], [46, 52]), ([49, 51, 53, 46, 46], [46, 49, 51, 53]), ([46, 54], [46, 54])])
def spec_l10OK.B7 : List Nat := [0, 1, 3, 7, 15, 31, 63, 127, 255, 511, 1023, 2047, 4095, 8191, 16383, 32767, 65535, 131071, 262143, 524287, 1048575, 2097151, 4194303, 8388607, 16777215, 33554431, 67108863, 33554431, 167772159, 536870911, 1073741823, 2147483647, 4294967295, 8589934591, 17179869183, 34359738367, 68719476735, 34359738367, 34359738367, 309237645311, 996432412671, 2095944040447, 4294967295999, 8796093022207, 17592186044415, 35184372088831, 70368744177663, 140737488355327, 140737488355327, 562949953421311, 140737488355327, 1266637395197951, 140737488355327, 4644337115725823, 18014398509481983, 36028797018963967]
theorem spec_l10OK.tab7 : rtab .any (opsOf Try.f126 7) = spec_l10OK.T7 := by kernel_rfl
theorem spec_l10OK.bits7 : waitsOk spec_l10OK.T7.2 spec_l10OK.B7 = true := by kernel_rfl
def az_z126 (n m : Nat) : Array Bool := (List.replicate n true ++ List.replicate m false).toArray
def mz126_0 : Array Bool := az_z126 0 56
def mz126_1 : Array Bool := az_z126 1 55
def mz126_2 : Array Bool := az_z126 2 54
def mz126_3 : Array Bool := az_z126 3 53
def mz126_4 : Array Bool := az_z126 4 52
def mz126_5 : Array Bool := az_z126 5 51
def mz126_6 : Array Bool := az_z126 6 50
def mz126_7 : Array Bool := az_z126 7 49
def mz126_8 : Array Bool := az_z126 8 48
def mz126_9 : Array Bool := az_z126 9 47
def mz126_10 : Array Bool := az_z126 10 46
def mz126_11 : Array Bool := az_z126 11 45
def mz126_12 : Array Bool := az_z126 12 44
def mz126_13 : Array Bool := az_z126 13 43
def mz126_14 : Array Bool := az_z126 14 42
def mz126_15 : Array Bool := az_z126 15 41
def mz126_16 : Array Bool := az_z126 16 40
def mz126_17 : Array Bool := az_z126 17 39
def mz126_18 : Array Bool := az_z126 18 38
def mz126_19 : Array Bool := az_z126 19 37
def mz126_20 : Array Bool := az_z126 20 36
def mz126_21 : Array Bool := az_z126 21 35
def mz126_22 : Array Bool := az_z126 22 34
def mz126_23 : Array Bool := az_z126 23 33
def mz126_24 : Array Bool := az_z126 24 32
def mz126_25 : Array Bool := az_z126 25 31
def mz126_26 : Array Bool := az_z126 26 30
def mz126_27 : Array Bool := #[true, true, true, true, true, true, true, true, true, true, true, true, true, true, true, true, true, true, true, true, true, true, true, true, true, true, false, true, false, false, false, false, false, false, false, false, false, false, false, false, false, false, false, false, false, false, false, false, false, false, false, false, false, false, false, false]
def mz126_28 : Array Bool := az_z126 28 28
def mz126_29 : Array Bool := az_z126 29 27
def mz126_30 : Array Bool := az_z126 30 26
def mz126_31 : Array Bool := az_z126 31 25
def mz126_32 : Array Bool := az_z126 32 24
def mz126_33 : Array Bool := az_z126 33 23
def mz126_34 : Array Bool := az_z126 34 22
def mz126_35 : Array Bool := az_z126 35 21
def mz126_36 : Array Bool := az_z126 36 20
def mz126_37 : Array Bool := az_z126 37 19
def mz126_38 : Array Bool := az_z126 38 18
def mz126_39 : Array Bool := az_z126 39 17
def mz126_40 : Array Bool := az_z126 40 16
def mz126_41 : Array Bool := az_z126 41 15
def mz126_42 : Array Bool := az_z126 42 14
def mz126_43 : Array Bool := az_z126 43 13
def mz126_44 : Array Bool := az_z126 44 12
def mz126_45 : Array Bool := az_z126 45 11
def mz126_46 : Array Bool := az_z126 46 10
def mz126_47 : Array Bool := az_z126 47 9
def mz126_48 : Array Bool := az_z126 48 8
def mz126_49 : Array Bool := az_z126 49 7
def mz126_50 : Array Bool := az_z126 50 6
def mz126_51 : Array Bool := az_z126 51 5
def mz126_52 : Array Bool := az_z126 52 4
def mz126_53 : Array Bool := az_z126 53 3
def mz126_54 : Array Bool := az_z126 54 2
def mz126_55 : Array Bool := az_z126 55 1
def mz126_56 : Array Bool := az_z126 56 0
def mz126_57 : Array Bool := #[true, true, true, true, true, true, true, true, true, true, true, true, true, true, true, true, true, true, true, true, true, true, true, true, true, true, true, true, true, true, true, true, true, true, true, true, false, true, false, false, false, false, false, false, false, false, false, false, false, false, false, false, false, false, false, false]
def mz126_58 : Array Bool := #[true, true, true, true, true, true, true, true, true, true, true, true, true, true, true, true, true, true, true, true, true, true, true, true, true, true, true, true, true, true, true, true, true, true, true, true, false, true, true, false, false, false, false, false, false, false, false, false, false, false, false, false, false, false, false, false]
def mz126_59 : Array Bool := #[true, true, true, true, true, true, true, true, true, true, true, true, true, true, true, true, true, true, true, true, true, true, true, true, true, true, true, true, true, true, true, true, true, true, true, true, false, true, true, true, false, false, false, false, false, false, false, false, false, false, false, false, false, false, false, false]
def mz126_60 : Array Bool := #[true, true, true, true, true, true, true, true, true, true, true, true, true, true, true, true, true, true, true, true, true, true, true, true, true, true, true, true, true, true, true, true, true, true, true, true, false, true, true, true, true, false, false, false, false, false, false, false, false, false, false, false, false, false, false, false]
def mz126_61 : Array Bool := #[true, true, true, true, true, true, true, true, true, true, true, true, true, true, true, true, true, true, true, true, true, true, true, true, true, true, true, true, true, true, true, true, true, true, true, true, false, true, true, true, true, true, false, false, false, false, false, false, false, false, false, false, false, false, false, false]
def mz126_62 : Array Bool := #[true, true, true, true, true, true, true, true, true, true, true, true, true, true, true, true, true, true, true, true, true, true, true, true, true, true, true, true, true, true, true, true, true, true, true, true, true, true, true, true, true, true, true, true, true, true, true, true, true, true, true, false, true, false, false, false]
def mz126_63 : Array Bool := az_z126 27 29
theorem pu_z126 {P : Program} {ops : Array Oper} {Q : Exit → Act → World → Prop} {md : Region.Mode} {S : World → Prop} {ds : List Nat} {oi : Oper} {fuel : Nat} {l : Array Bool} {a : Act} {w : World} (i : Nat) (N : Option Tmp) (v : Value) (l' : Array Bool) (hi : ops[i]? = some oi) (hN : oi.dst = N) (hc : anyB md ops l l' i = true)
    (hQ : ∀ c a w, Q (.panic c) (a.put oi.dst v) w → Q (.panic c) a w) (hy : Yields P ops oi v a) (a' : Act) (ha : a.put N v = a')
    (h : wpAnyLast P md ops Q S ds fuel l' a' w) : wpAnyLast P md ops Q S ds (fuel + 1) l a w := pure_ l' hi hN hc hQ hy ha h
theorem pq_z126 : (∀ (l : List Value) (i : Nat) (v : Value), l.toArray.setIfInBounds i v = (l.set i v).toArray) ∧ (∀ (x v : Value) (xs : List Value), (x :: xs).set 0 v = v :: xs) ∧ (∀ (x v : Value) (xs : List Value) (n : Nat), (x :: xs).set (n + 1) v = x :: xs.set n v) ∧ (∀ n : Int, IntKind.i64.wrap n = Go.RowKit.wrap64 n) ∧ (∀ n : Int, IntKind.i32.wrap n = Go.RowKit.wrap32 n) :=
  ⟨fun l i v => List.setIfInBounds_toArray l i v, fun _ _ _ => rfl, fun _ _ _ _ => rfl, i64_w, i32_w⟩
set_option maxHeartbeats 8000000 in
set_option maxRecDepth 100000 in
theorem spec_l10OK.calls (k : Nat) (A0 : Option Addr) (c0 : Nat) (l0 : List (S144)) (r : Bool) (w : World) (hr0 : Kd.C k144 w A0 l0.length l0) (hc0 : l0.length ≤ c0) (h : spec_l10OK.f k l0 = some r) :
  Calls Try.prog 126 #[.slice A0 l0.length c0] w fun e w' => e = .returned (.bool r) ∧ Below w.heap.size w w' := by
 have hu144 := Try.underlying144
 have hu54 := Try.underlying54
 have HR0 := Aside0.mk hr0
 have HC0 := Aside0.mk hc0
 clear hr0 hc0
 have HB := Aside0.mk (Below.refl w.heap.size w)
 have H : (if (l0.length : Int) > 16 then (some false) else (spec_l10OK.l0 k l0 0)) = some r := h
 clear h
 by_cases c2 : (l0.length : Int) > 16
 ·rw [if_pos c2] at H
  have c2b0 : decide (16 < (l0.length : Int)) = true := decide_eq_true c2
  have c2b1 : decide (16 < l0.length) = true := decide_eq_true (by omega)
  clear c2
  obtain rfl := Option.some.inj H
  go_enter Try.func126, Try.ntmps126
  go_wp2
  go_ret
  exact ⟨by first | rfl | (simp [errW_none, errW_some] <;> rfl) | (simp [*, errW_none, errW_some] <;> rfl), by repeat (first | (with_reducible first | exact HB.out | apply below_alloc | apply pw_below_drewN | apply below_drew1) | exact HB.out)⟩
 ·rw [if_neg c2] at H
  have c2b0 : decide (16 < (l0.length : Int)) = false := decide_eq_false c2
  have c2b1 : decide (16 < l0.length) = false := decide_eq_false (by omega)
  clear c2
  have H' := Aside0.mk H
  clear H
  go_enter Try.func126, Try.ntmps126
  go_wp2
  go_loopg [3] k (fun kq v3 w' => ∃ (x3_1 : Int), v3 = .int .i64 x3_1 ∧ Aside0 (spec_l10OK.l0 kq l0 x3_1 = some r) ∧ Aside0 (kq ≤ k) ∧ Aside0 (Below w.heap.size w w'))
  case atStart => exact ⟨(0), (by first | rfl | (simp; done) | (simp [*]; done)), H', ⟨Nat.le_refl _⟩, ⟨by repeat (first | (with_reducible first | exact HB.out | apply below_alloc | apply pw_below_drewN | apply below_drew1) | exact HB.out)⟩⟩
  case round =>
   clear H'
   try clear c1
   try clear c2
   try clear c2b0
   try clear c2b1
   try clear p2
   obtain ⟨x3_1, rfl, HA, HK1, HB⟩ := hrel
   cases gk with
   | zero => exact absurd HA.out (by simp [spec_l10OK.l0])
   | succ k1 =>
    have H := HA.out
    clear HA
    simp only [spec_l10OK.l0] at H
    by_cases c3 : x3_1 < (l0.length : Int)
    ·rw [if_pos c3] at H
     have c3b0 : decide (x3_1 < (l0.length : Int)) = true := decide_eq_true c3
     clear c3
     by_cases c4 : 0 ≤ x3_1
     ·rw [if_pos c4] at H
      have c4b0 : decide (0 ≤ x3_1) = true := decide_eq_true c4
      clear c4
      replace H := Option.bind_eq_some_iff.mp H
      obtain ⟨t670, A50, H⟩ := H
      replace H : (if t670 = true then ((spec_l00In.f ((rd_T144 l0 x3_1).f0.f1) 0 15).bind fun t671 => (if t671 = true then ((spec_l00In.f ((rd_T144 l0 x3_1).f1) 0 15).bind fun t672 => (if t672 = true then ((spec_l00In.f ((rd_T144 l0 x3_1).f2) 0 15).bind fun t673 => (if t673 = true then (if ((rd_T144 l0 x3_1).f1) = ((rd_T144 l0 x3_1).f2) then (some false) else (if x3_1 > 0 then (if 0 ≤ (wrap64 (x3_1 - 1)) then (if (wrap64 (x3_1 - 1)) < (l0.length : Int) then ((spec_l10Less.f ((rd_T144 l0 x3_1).f0.f0) ((rd_T144 l0 x3_1).f0.f1) ((rd_T144 l0 (wrap64 (x3_1 - 1))).f0.f0) ((rd_T144 l0 (wrap64 (x3_1 - 1))).f0.f1)).bind fun t675 => (if t675 = true then (some false) else (if x3_1 ≤ (l0.length : Int) then ((spec_l10Known.f k1 (l0.take (x3_1 : Int).toNat) ((rd_T144 l0 x3_1).f0.f0) ((rd_T144 l0 x3_1).f0.f1) ((rd_T144 l0 x3_1).f1)).bind fun t680 => (if t680 = true then (some false) else (spec_l10OK.l0 k1 l0 (wrap64 (x3_1 + 1))))) else (none)))) else (none)) else (none)) else (if x3_1 ≤ (l0.length : Int) then ((spec_l10Known.f k1 (l0.take (x3_1 : Int).toNat) ((rd_T144 l0 x3_1).f0.f0) ((rd_T144 l0 x3_1).f0.f1) ((rd_T144 l0 x3_1).f1)).bind fun t685 => (if t685 = true then (some false) else (spec_l10OK.l0 k1 l0 (wrap64 (x3_1 + 1))))) else (none)))) else (some false))) else (some false))) else (some false))) else (some false)) = some r := H
      have A5 := Aside0.mk A50
      clear A50
      by_cases c6 : t670 = true
      ·subst c6
       have H1 : ((spec_l00In.f ((rd_T144 l0 x3_1).f0.f1) 0 15).bind fun t671 => (if t671 = true then ((spec_l00In.f ((rd_T144 l0 x3_1).f1) 0 15).bind fun t672 => (if t672 = true then ((spec_l00In.f ((rd_T144 l0 x3_1).f2) 0 15).bind fun t673 => (if t673 = true then (if ((rd_T144 l0 x3_1).f1) = ((rd_T144 l0 x3_1).f2) then (some false) else (if x3_1 > 0 then (if 0 ≤ (wrap64 (x3_1 - 1)) then (if (wrap64 (x3_1 - 1)) < (l0.length : Int) then ((spec_l10Less.f ((rd_T144 l0 x3_1).f0.f0) ((rd_T144 l0 x3_1).f0.f1) ((rd_T144 l0 (wrap64 (x3_1 - 1))).f0.f0) ((rd_T144 l0 (wrap64 (x3_1 - 1))).f0.f1)).bind fun t675 => (if t675 = true then (some false) else (if x3_1 ≤ (l0.length : Int) then ((spec_l10Known.f k1 (l0.take (x3_1 : Int).toNat) ((rd_T144 l0 x3_1).f0.f0) ((rd_T144 l0 x3_1).f0.f1) ((rd_T144 l0 x3_1).f1)).bind fun t680 => (if t680 = true then (some false) else (spec_l10OK.l0 k1 l0 (wrap64 (x3_1 + 1))))) else (none)))) else (none)) else (none)) else (if x3_1 ≤ (l0.length : Int) then ((spec_l10Known.f k1 (l0.take (x3_1 : Int).toNat) ((rd_T144 l0 x3_1).f0.f0) ((rd_T144 l0 x3_1).f0.f1) ((rd_T144 l0 x3_1).f1)).bind fun t685 => (if t685 = true then (some false) else (spec_l10OK.l0 k1 l0 (wrap64 (x3_1 + 1))))) else (none)))) else (some false))) else (some false))) else (some false))) = some r := by rw [if_pos rfl] at H; exact H
       clear H
       have H := H1
       clear H1
       replace H := Option.bind_eq_some_iff.mp H
       obtain ⟨t671, A70, H⟩ := H
       replace H : (if t671 = true then ((spec_l00In.f ((rd_T144 l0 x3_1).f1) 0 15).bind fun t672 => (if t672 = true then ((spec_l00In.f ((rd_T144 l0 x3_1).f2) 0 15).bind fun t673 => (if t673 = true then (if ((rd_T144 l0 x3_1).f1) = ((rd_T144 l0 x3_1).f2) then (some false) else (if x3_1 > 0 then (if 0 ≤ (wrap64 (x3_1 - 1)) then (if (wrap64 (x3_1 - 1)) < (l0.length : Int) then ((spec_l10Less.f ((rd_T144 l0 x3_1).f0.f0) ((rd_T144 l0 x3_1).f0.f1) ((rd_T144 l0 (wrap64 (x3_1 - 1))).f0.f0) ((rd_T144 l0 (wrap64 (x3_1 - 1))).f0.f1)).bind fun t675 => (if t675 = true then (some false) else (if x3_1 ≤ (l0.length : Int) then ((spec_l10Known.f k1 (l0.take (x3_1 : Int).toNat) ((rd_T144 l0 x3_1).f0.f0) ((rd_T144 l0 x3_1).f0.f1) ((rd_T144 l0 x3_1).f1)).bind fun t680 => (if t680 = true then (some false) else (spec_l10OK.l0 k1 l0 (wrap64 (x3_1 + 1))))) else (none)))) else (none)) else (none)) else (if x3_1 ≤ (l0.length : Int) then ((spec_l10Known.f k1 (l0.take (x3_1 : Int).toNat) ((rd_T144 l0 x3_1).f0.f0) ((rd_T144 l0 x3_1).f0.f1) ((rd_T144 l0 x3_1).f1)).bind fun t685 => (if t685 = true then (some false) else (spec_l10OK.l0 k1 l0 (wrap64 (x3_1 + 1))))) else (none)))) else (some false))) else (some false))) else (some false)) = some r := H
       have A7 := Aside0.mk A70
       clear A70
       by_cases c8 : t671 = true
       ·subst c8
        have H1 : ((spec_l00In.f ((rd_T144 l0 x3_1).f1) 0 15).bind fun t672 => (if t672 = true then ((spec_l00In.f ((rd_T144 l0 x3_1).f2) 0 15).bind fun t673 => (if t673 = true then (if ((rd_T144 l0 x3_1).f1) = ((rd_T144 l0 x3_1).f2) then (some false) else (if x3_1 > 0 then (if 0 ≤ (wrap64 (x3_1 - 1)) then (if (wrap64 (x3_1 - 1)) < (l0.length : Int) then ((spec_l10Less.f ((rd_T144 l0 x3_1).f0.f0) ((rd_T144 l0 x3_1).f0.f1) ((rd_T144 l0 (wrap64 (x3_1 - 1))).f0.f0) ((rd_T144 l0 (wrap64 (x3_1 - 1))).f0.f1)).bind fun t675 => (if t675 = true then (some false) else (if x3_1 ≤ (l0.length : Int) then ((spec_l10Known.f k1 (l0.take (x3_1 : Int).toNat) ((rd_T144 l0 x3_1).f0.f0) ((rd_T144 l0 x3_1).f0.f1) ((rd_T144 l0 x3_1).f1)).bind fun t680 => (if t680 = true then (some false) else (spec_l10OK.l0 k1 l0 (wrap64 (x3_1 + 1))))) else (none)))) else (none)) else (none)) else (if x3_1 ≤ (l0.length : Int) then ((spec_l10Known.f k1 (l0.take (x3_1 : Int).toNat) ((rd_T144 l0 x3_1).f0.f0) ((rd_T144 l0 x3_1).f0.f1) ((rd_T144 l0 x3_1).f1)).bind fun t685 => (if t685 = true then (some false) else (spec_l10OK.l0 k1 l0 (wrap64 (x3_1 + 1))))) else (none)))) else (some false))) else (some false))) = some r := by rw [if_pos rfl] at H; exact H
        clear H
        have H := H1
        clear H1
        replace H := Option.bind_eq_some_iff.mp H
        obtain ⟨t672, A90, H⟩ := H
        replace H : (if t672 = true then ((spec_l00In.f ((rd_T144 l0 x3_1).f2) 0 15).bind fun t673 => (if t673 = true then (if ((rd_T144 l0 x3_1).f1) = ((rd_T144 l0 x3_1).f2) then (some false) else (if x3_1 > 0 then (if 0 ≤ (wrap64 (x3_1 - 1)) then (if (wrap64 (x3_1 - 1)) < (l0.length : Int) then ((spec_l10Less.f ((rd_T144 l0 x3_1).f0.f0) ((rd_T144 l0 x3_1).f0.f1) ((rd_T144 l0 (wrap64 (x3_1 - 1))).f0.f0) ((rd_T144 l0 (wrap64 (x3_1 - 1))).f0.f1)).bind fun t675 => (if t675 = true then (some false) else (if x3_1 ≤ (l0.length : Int) then ((spec_l10Known.f k1 (l0.take (x3_1 : Int).toNat) ((rd_T144 l0 x3_1).f0.f0) ((rd_T144 l0 x3_1).f0.f1) ((rd_T144 l0 x3_1).f1)).bind fun t680 => (if t680 = true then (some false) else (spec_l10OK.l0 k1 l0 (wrap64 (x3_1 + 1))))) else (none)))) else (none)) else (none)) else (if x3_1 ≤ (l0.length : Int) then ((spec_l10Known.f k1 (l0.take (x3_1 : Int).toNat) ((rd_T144 l0 x3_1).f0.f0) ((rd_T144 l0 x3_1).f0.f1) ((rd_T144 l0 x3_1).f1)).bind fun t685 => (if t685 = true then (some false) else (spec_l10OK.l0 k1 l0 (wrap64 (x3_1 + 1))))) else (none)))) else (some false))) else (some false)) = some r := H
        have A9 := Aside0.mk A90
        clear A90
        by_cases c10 : t672 = true
        ·subst c10
         have H1 : ((spec_l00In.f ((rd_T144 l0 x3_1).f2) 0 15).bind fun t673 => (if t673 = true then (if ((rd_T144 l0 x3_1).f1) = ((rd_T144 l0 x3_1).f2) then (some false) else (if x3_1 > 0 then (if 0 ≤ (wrap64 (x3_1 - 1)) then (if (wrap64 (x3_1 - 1)) < (l0.length : Int) then ((spec_l10Less.f ((rd_T144 l0 x3_1).f0.f0) ((rd_T144 l0 x3_1).f0.f1) ((rd_T144 l0 (wrap64 (x3_1 - 1))).f0.f0) ((rd_T144 l0 (wrap64 (x3_1 - 1))).f0.f1)).bind fun t675 => (if t675 = true then (some false) else (if x3_1 ≤ (l0.length : Int) then ((spec_l10Known.f k1 (l0.take (x3_1 : Int).toNat) ((rd_T144 l0 x3_1).f0.f0) ((rd_T144 l0 x3_1).f0.f1) ((rd_T144 l0 x3_1).f1)).bind fun t680 => (if t680 = true then (some false) else (spec_l10OK.l0 k1 l0 (wrap64 (x3_1 + 1))))) else (none)))) else (none)) else (none)) else (if x3_1 ≤ (l0.length : Int) then ((spec_l10Known.f k1 (l0.take (x3_1 : Int).toNat) ((rd_T144 l0 x3_1).f0.f0) ((rd_T144 l0 x3_1).f0.f1) ((rd_T144 l0 x3_1).f1)).bind fun t685 => (if t685 = true then (some false) else (spec_l10OK.l0 k1 l0 (wrap64 (x3_1 + 1))))) else (none)))) else (some false))) = some r := by rw [if_pos rfl] at H; exact H
         clear H
         have H := H1
         clear H1
         replace H := Option.bind_eq_some_iff.mp H
         obtain ⟨t673, A110, H⟩ := H
         replace H : (if t673 = true then (if ((rd_T144 l0 x3_1).f1) = ((rd_T144 l0 x3_1).f2) then (some false) else (if x3_1 > 0 then (if 0 ≤ (wrap64 (x3_1 - 1)) then (if (wrap64 (x3_1 - 1)) < (l0.length : Int) then ((spec_l10Less.f ((rd_T144 l0 x3_1).f0.f0) ((rd_T144 l0 x3_1).f0.f1) ((rd_T144 l0 (wrap64 (x3_1 - 1))).f0.f0) ((rd_T144 l0 (wrap64 (x3_1 - 1))).f0.f1)).bind fun t675 => (if t675 = true then (some false) else (if x3_1 ≤ (l0.length : Int) then ((spec_l10Known.f k1 (l0.take (x3_1 : Int).toNat) ((rd_T144 l0 x3_1).f0.f0) ((rd_T144 l0 x3_1).f0.f1) ((rd_T144 l0 x3_1).f1)).bind fun t680 => (if t680 = true then (some false) else (spec_l10OK.l0 k1 l0 (wrap64 (x3_1 + 1))))) else (none)))) else (none)) else (none)) else (if x3_1 ≤ (l0.length : Int) then ((spec_l10Known.f k1 (l0.take (x3_1 : Int).toNat) ((rd_T144 l0 x3_1).f0.f0) ((rd_T144 l0 x3_1).f0.f1) ((rd_T144 l0 x3_1).f1)).bind fun t685 => (if t685 = true then (some false) else (spec_l10OK.l0 k1 l0 (wrap64 (x3_1 + 1))))) else (none)))) else (some false)) = some r := H
         have A11 := Aside0.mk A110
         clear A110
         by_cases c12 : t673 = true
         ·subst c12
          have H1 : (if ((rd_T144 l0 x3_1).f1) = ((rd_T144 l0 x3_1).f2) then (some false) else (if x3_1 > 0 then (if 0 ≤ (wrap64 (x3_1 - 1)) then (if (wrap64 (x3_1 - 1)) < (l0.length : Int) then ((spec_l10Less.f ((rd_T144 l0 x3_1).f0.f0) ((rd_T144 l0 x3_1).f0.f1) ((rd_T144 l0 (wrap64 (x3_1 - 1))).f0.f0) ((rd_T144 l0 (wrap64 (x3_1 - 1))).f0.f1)).bind fun t675 => (if t675 = true then (some false) else (if x3_1 ≤ (l0.length : Int) then ((spec_l10Known.f k1 (l0.take (x3_1 : Int).toNat) ((rd_T144 l0 x3_1).f0.f0) ((rd_T144 l0 x3_1).f0.f1) ((rd_T144 l0 x3_1).f1)).bind fun t680 => (if t680 = true then (some false) else (spec_l10OK.l0 k1 l0 (wrap64 (x3_1 + 1))))) else (none)))) else (none)) else (none)) else (if x3_1 ≤ (l0.length : Int) then ((spec_l10Known.f k1 (l0.take (x3_1 : Int).toNat) ((rd_T144 l0 x3_1).f0.f0) ((rd_T144 l0 x3_1).f0.f1) ((rd_T144 l0 x3_1).f1)).bind fun t685 => (if t685 = true then (some false) else (spec_l10OK.l0 k1 l0 (wrap64 (x3_1 + 1))))) else (none)))) = some r := by rw [if_pos rfl] at H; exact H
          clear H
          have H := H1
          clear H1
          by_cases c13 : ((rd_T144 l0 x3_1).f1) = ((rd_T144 l0 x3_1).f2)
          ·rw [if_pos c13] at H
           have c13b0 : (((rd_T144 l0 x3_1).f1) == ((rd_T144 l0 x3_1).f2)) = true := beq_iff_eq.mpr c13
           have c13b1 : (((rd_T144 l0 x3_1).f1) != ((rd_T144 l0 x3_1).f2)) = false := bne_eq_false_iff_eq.mpr c13
           clear c13
           obtain rfl := Option.some.inj H
           have p668 : 0 ≤ (x3_1 : Int) := of_decide_eq_true (by first | (with_reducible assumption) | assumption)
           have q668 : x3_1 < (l0.length : Int) := of_decide_eq_true (by first | (with_reducible assumption) | assumption)
           obtain ⟨ad668, e668, hx668_0, hx668_1, hx668_2, hx668_3⟩ := at_T144 HR0.out x3_1 p668 q668
           cases e668
           replace hx668_0 := (HB.out.cell (World.block_lt_of_cell? w _ hx668_0)).trans hx668_0
           replace hx668_1 := (HB.out.cell (World.block_lt_of_cell? w _ hx668_1)).trans hx668_1
           replace hx668_2 := (HB.out.cell (World.block_lt_of_cell? w _ hx668_2)).trans hx668_2
           replace hx668_3 := (HB.out.cell (World.block_lt_of_cell? w _ hx668_3)).trans hx668_3
           replace p668 := eq_true p668
           replace q668 := eq_true q668
           try go_wp2_with (first | ((with_reducible refine gate_dst (N := 4) rfl ?_); refine box_event ?hg (N := 4) ?hd (cs := #[.int .i64 0, .int .i64 0, .int .i64 0, .int .i64 0]) (t := 144) ?hr ?_; (case hd => rfl); (case hg => rfl); (case hr => first | (go_simp; done) | (go_simp; rfl)); intro gb669 hg w14 hbox hb; have n0_ := Aside0.mk (below_step (by repeat (first | (with_reducible first | exact HB.out | apply below_alloc | apply pw_below_drewN | apply below_drew1) | exact HB.out)) hb); have n1_ := Aside0.mk (hbox); have n2_ := Aside0.mk ((by rw [hg]; exact (below_size (by repeat (first | (with_reducible first | exact HB.out | apply below_alloc | apply pw_below_drewN | apply below_drew1) | exact HB.out))) : w.heap.size ≤ gb669)); have n3_ := Aside0.mk ((by rw [hg]; exact (below_size (by repeat (first | (with_reducible first | exact HB.out | apply below_alloc | apply pw_below_drewN | apply below_drew1) | exact HB.out))) : w.heap.size ≤ gb669)); clear HB; have HB := n0_; have BK669 := n1_; have GW669 := n2_; have GE669 := n3_; clear n0_ n1_ n2_ n3_; clear hb hbox hg; have hcz15_0 : w14.cell? ⟨gb669, 0, none⟩ = some (.int .i64 0) := (blk_cell BK669.out 0).trans rfl; have hcz15_1 : w14.cell? ⟨gb669, 1, none⟩ = some (.int .i64 0) := (blk_cell BK669.out 1).trans rfl; have hcz15_2 : w14.cell? ⟨gb669, 2, none⟩ = some (.int .i64 0) := (blk_cell BK669.out 2).trans rfl; have hcz15_3 : w14.cell? ⟨gb669, 3, none⟩ = some (.int .i64 0) := (blk_cell BK669.out 3).trans rfl; have hfz15_0 := blk_frozen BK669.out 0; have hfz15_1 := blk_frozen BK669.out 1; have hfz15_2 := blk_frozen BK669.out 2; have hfz15_3 := blk_frozen BK669.out 3))
           have n0_ : Aside0 (((((w14.setCell ⟨gb669, 0, none⟩ (.int .i64 ((rd_T144 l0 x3_1).f0.f0))).setCell ⟨gb669, 1, none⟩ (.int .i64 ((rd_T144 l0 x3_1).f0.f1))).setCell ⟨gb669, 2, none⟩ (.int .i64 ((rd_T144 l0 x3_1).f1))).setCell ⟨gb669, 3, none⟩ (.int .i64 ((rd_T144 l0 x3_1).f2))).heap[gb669]? = some (.cells #[.int .i64 ((rd_T144 l0 x3_1).f0.f0), .int .i64 ((rd_T144 l0 x3_1).f0.f1), .int .i64 ((rd_T144 l0 x3_1).f1), .int .i64 ((rd_T144 l0 x3_1).f2)] 144 (0, 0))) := ⟨by (with_reducible repeat (first | refine blk_drewN ?_ _ | refine blk_drew ?_ | refine blk_alloc ?_ _)); refine blk_put (cs := #[.int .i64 ((rd_T144 l0 x3_1).f0.f0), .int .i64 ((rd_T144 l0 x3_1).f0.f1), .int .i64 ((rd_T144 l0 x3_1).f1), .int .i64 0]) ?_ 3 _ rfl; (with_reducible repeat (first | refine blk_drewN ?_ _ | refine blk_drew ?_ | refine blk_alloc ?_ _)); refine blk_put (cs := #[.int .i64 ((rd_T144 l0 x3_1).f0.f0), .int .i64 ((rd_T144 l0 x3_1).f0.f1), .int .i64 0, .int .i64 0]) ?_ 2 _ rfl; (with_reducible repeat (first | refine blk_drewN ?_ _ | refine blk_drew ?_ | refine blk_alloc ?_ _)); refine blk_put (cs := #[.int .i64 ((rd_T144 l0 x3_1).f0.f0), .int .i64 0, .int .i64 0, .int .i64 0]) ?_ 1 _ rfl; (with_reducible repeat (first | refine blk_drewN ?_ _ | refine blk_drew ?_ | refine blk_alloc ?_ _)); refine blk_put (cs := #[.int .i64 0, .int .i64 0, .int .i64 0, .int .i64 0]) ?_ 0 _ rfl; (with_reducible repeat (first | refine blk_drewN ?_ _ | refine blk_drew ?_ | refine blk_alloc ?_ _)); exact BK669.out⟩
           have n1_ : Aside0 (Below w.heap.size w ((((w14.setCell ⟨gb669, 0, none⟩ (.int .i64 ((rd_T144 l0 x3_1).f0.f0))).setCell ⟨gb669, 1, none⟩ (.int .i64 ((rd_T144 l0 x3_1).f0.f1))).setCell ⟨gb669, 2, none⟩ (.int .i64 ((rd_T144 l0 x3_1).f1))).setCell ⟨gb669, 3, none⟩ (.int .i64 ((rd_T144 l0 x3_1).f2)))) := ⟨by repeat (first | (with_reducible first | exact HB.out | apply below_alloc | apply pw_below_drewN | apply below_drew1 | refine below_set ?_ GE669.out) | exact HB.out)⟩
           (try clear BK669)
           (try clear HB)
           generalize ((((w14.setCell ⟨gb669, 0, none⟩ (.int .i64 ((rd_T144 l0 x3_1).f0.f0))).setCell ⟨gb669, 1, none⟩ (.int .i64 ((rd_T144 l0 x3_1).f0.f1))).setCell ⟨gb669, 2, none⟩ (.int .i64 ((rd_T144 l0 x3_1).f1))).setCell ⟨gb669, 3, none⟩ (.int .i64 ((rd_T144 l0 x3_1).f2))) = w16 at n0_ n1_ ⊢
           have BK669 := n0_
           have HB := n1_
           clear n0_ n1_
           have n0_ := Aside0.mk (blk_drew BK669.out)
           have n1_ := Aside0.mk (below_drew1 HB.out)
           clear BK669
           clear HB
           have BK669 := n0_
           have HB := n1_
           clear n0_ n1_
           refine start_ (n := 56) (S := fun w' => w'.cell? ⟨gb669, 0, none⟩ = some (.int .i64 ((rd_T144 l0 x3_1).f0.f0)) ∧ w'.cell? ⟨gb669, 1, none⟩ = some (.int .i64 ((rd_T144 l0 x3_1).f0.f1)) ∧ w'.cell? ⟨gb669, 2, none⟩ = some (.int .i64 ((rd_T144 l0 x3_1).f1)) ∧ w'.cell? ⟨gb669, 3, none⟩ = some (.int .i64 ((rd_T144 l0 x3_1).f2))) (ds := []) mz126_0 (by kernel_rfl) rfl rfl ⟨(blk_cell BK669.out 0).trans rfl, (blk_cell BK669.out 1).trans rfl, (blk_cell BK669.out 2).trans rfl, (blk_cell BK669.out 3).trans rfl⟩ (fun hHeld => ?_); refine with_tabW spec_l10OK.tab7 spec_l10OK.bits7 (fun HT_ HW_ => ?_)
           generalize w16.drew = w17 at BK669 HB hHeld ⊢
           refine pu_z126 0 (some 18) ?_ mz126_1 rfl rfl (any_of HT_.out (by kernel_rfl)) (fun _ _ _ h => h) (Or.inl ⟨by rfl, ?_⟩) ?_ ?_ ?_
           (rotate_left; ·(intro w'; go_simp; with_reducible rfl)); (rotate_left; ·(simp only [Act.put, pq_z126]; rfl))
           refine pu_z126 1 (some 19) ?_ mz126_2 rfl rfl (any_of HT_.out (by kernel_rfl)) (fun _ _ _ h => h) (Or.inl ⟨by rfl, ?_⟩) ?_ ?_ ?_
           (rotate_left; ·(intro w'; go_simp; with_reducible rfl)); (rotate_left; ·(simp only [Act.put, pq_z126]; rfl))
           refine take_ (i := 2) (N := some 20) (v := ?_) (a' := ?_) mz126_3 rfl rfl (take_ofW HT_.out HW_.out (by kernel_rfl)) (fun _ _ _ h => h) (Or.inl ⟨by rfl, ?_⟩) hHeld ?_ ?_
           (rotate_left; ·(rintro w' ⟨s0, s1, s2, s3⟩; go_simp; with_reducible rfl)); (rotate_left; ·(simp only [Act.put, pq_z126]; rfl))
           refine one_ (i := 3) (N := some 21) mz126_4 rfl rfl (one_of HT_.out (by kernel_rfl)) (by decide) (fun K hK => ?_)
           refine goes_ Try.func96 (by kernel_rfl) rfl #[.int .i64 ((rd_T144 l0 x3_1).f0.f0), .int .i64 1, .int .i64 4] (by rfl) rfl rfl (by (try simp only [List.map_toArray, List.map_cons, List.map_nil]); first | done | rfl | (simp only [List.length_drop, List.length_take]; rfl)) ?_
           with_reducible refine (spec_l00In.calls ((rd_T144 l0 x3_1).f0.f0) 1 4 true _ A5.out).mono ?_
           rintro e w' ⟨rfl, ⟨nd, rfl⟩⟩
           refine ⟨_, rfl, ?_⟩
           refine hK.out _ _ ⟨(blk_cell BK669.out 0).trans rfl, (blk_cell BK669.out 1).trans rfl, (blk_cell BK669.out 2).trans rfl, (blk_cell BK669.out 3).trans rfl⟩ (fun hHeld => ?_)
           clear hK K
           refine norm_ (a' := ?_) ?_ ?_
           (rotate_left; ·(show Act.put _ (some 21) _ = _; simp only [Act.put, pq_z126]; rfl))
           refine pu_z126 4 (some 22) ?_ mz126_5 rfl rfl (any_of HT_.out (by kernel_rfl)) (fun _ _ _ h => h) (Or.inl ⟨by rfl, ?_⟩) ?_ ?_ ?_
           (rotate_left; ·(intro w'; go_simp; with_reducible rfl)); (rotate_left; ·(simp only [Act.put, pq_z126]; rfl))
           refine pu_z126 5 (some 23) ?_ mz126_6 rfl rfl (any_of HT_.out (by kernel_rfl)) (fun _ _ _ h => h) (Or.inl ⟨by rfl, ?_⟩) ?_ ?_ ?_
           (rotate_left; ·(intro w'; go_simp; with_reducible rfl)); (rotate_left; ·(simp only [Act.put, pq_z126]; rfl))
           refine pu_z126 6 (some 24) ?_ mz126_7 rfl rfl (any_of HT_.out (by kernel_rfl)) (fun _ _ _ h => h) (Or.inl ⟨by rfl, ?_⟩) ?_ ?_ ?_
           (rotate_left; ·(intro w'; go_simp; with_reducible rfl)); (rotate_left; ·(simp only [Act.put, pq_z126]; rfl))
           refine pu_z126 7 (some 25) ?_ mz126_8 rfl rfl (any_of HT_.out (by kernel_rfl)) (fun _ _ _ h => h) (Or.inl ⟨by rfl, ?_⟩) ?_ ?_ ?_
           (rotate_left; ·(intro w'; go_simp; with_reducible rfl)); (rotate_left; ·(simp only [Act.put, pq_z126]; rfl))
           refine take_ (i := 8) (N := some 26) (v := ?_) (a' := ?_) mz126_9 rfl rfl (take_ofW HT_.out HW_.out (by kernel_rfl)) (fun _ _ _ h => h) (Or.inl ⟨by rfl, ?_⟩) hHeld ?_ ?_
           (rotate_left; ·(rintro w' ⟨s0, s1, s2, s3⟩; go_simp; with_reducible rfl)); (rotate_left; ·(simp only [Act.put, pq_z126]; rfl))
           refine one_ (i := 9) (N := some 27) mz126_10 rfl rfl (one_of HT_.out (by kernel_rfl)) (by decide) (fun K hK => ?_)
           refine goes_ Try.func96 (by kernel_rfl) rfl #[.int .i64 ((rd_T144 l0 x3_1).f0.f1), .int .i64 0, .int .i64 15] (by rfl) rfl rfl (by (try simp only [List.map_toArray, List.map_cons, List.map_nil]); first | done | rfl | (simp only [List.length_drop, List.length_take]; rfl)) ?_
           with_reducible refine (spec_l00In.calls ((rd_T144 l0 x3_1).f0.f1) 0 15 true _ A7.out).mono ?_
           rintro e w' ⟨rfl, ⟨nd, rfl⟩⟩
           refine ⟨_, rfl, ?_⟩
           refine hK.out _ _ ⟨(blk_cell BK669.out 0).trans rfl, (blk_cell BK669.out 1).trans rfl, (blk_cell BK669.out 2).trans rfl, (blk_cell BK669.out 3).trans rfl⟩ (fun hHeld => ?_)
           clear hK K
           refine norm_ (a' := ?_) ?_ ?_
           (rotate_left; ·(show Act.put _ (some 27) _ = _; simp only [Act.put, pq_z126]; rfl))
           refine pu_z126 10 (some 28) ?_ mz126_11 rfl rfl (any_of HT_.out (by kernel_rfl)) (fun _ _ _ h => h) (Or.inl ⟨by rfl, ?_⟩) ?_ ?_ ?_
           (rotate_left; ·(intro w'; go_simp; with_reducible rfl)); (rotate_left; ·(simp only [Act.put, pq_z126]; rfl))
           refine pu_z126 11 (some 29) ?_ mz126_12 rfl rfl (any_of HT_.out (by kernel_rfl)) (fun _ _ _ h => h) (Or.inl ⟨by rfl, ?_⟩) ?_ ?_ ?_
           (rotate_left; ·(intro w'; go_simp; with_reducible rfl)); (rotate_left; ·(simp only [Act.put, pq_z126]; rfl))
           refine pu_z126 12 (some 30) ?_ mz126_13 rfl rfl (any_of HT_.out (by kernel_rfl)) (fun _ _ _ h => h) (Or.inl ⟨by rfl, ?_⟩) ?_ ?_ ?_
           (rotate_left; ·(intro w'; go_simp; with_reducible rfl)); (rotate_left; ·(simp only [Act.put, pq_z126]; rfl))
           refine pu_z126 13 (some 31) ?_ mz126_14 rfl rfl (any_of HT_.out (by kernel_rfl)) (fun _ _ _ h => h) (Or.inl ⟨by rfl, ?_⟩) ?_ ?_ ?_
           (rotate_left; ·(intro w'; go_simp; with_reducible rfl)); (rotate_left; ·(simp only [Act.put, pq_z126]; rfl))
           refine take_ (i := 14) (N := some 32) (v := ?_) (a' := ?_) mz126_15 rfl rfl (take_ofW HT_.out HW_.out (by kernel_rfl)) (fun _ _ _ h => h) (Or.inl ⟨by rfl, ?_⟩) hHeld ?_ ?_
           (rotate_left; ·(rintro w' ⟨s0, s1, s2, s3⟩; go_simp; with_reducible rfl)); (rotate_left; ·(simp only [Act.put, pq_z126]; rfl))
           refine one_ (i := 15) (N := some 33) mz126_16 rfl rfl (one_of HT_.out (by kernel_rfl)) (by decide) (fun K hK => ?_)
           refine goes_ Try.func96 (by kernel_rfl) rfl #[.int .i64 ((rd_T144 l0 x3_1).f1), .int .i64 0, .int .i64 15] (by rfl) rfl rfl (by (try simp only [List.map_toArray, List.map_cons, List.map_nil]); first | done | rfl | (simp only [List.length_drop, List.length_take]; rfl)) ?_
           with_reducible refine (spec_l00In.calls ((rd_T144 l0 x3_1).f1) 0 15 true _ A9.out).mono ?_
           rintro e w' ⟨rfl, ⟨nd, rfl⟩⟩
           refine ⟨_, rfl, ?_⟩
           refine hK.out _ _ ⟨(blk_cell BK669.out 0).trans rfl, (blk_cell BK669.out 1).trans rfl, (blk_cell BK669.out 2).trans rfl, (blk_cell BK669.out 3).trans rfl⟩ (fun hHeld => ?_)
           clear hK K
           refine norm_ (a' := ?_) ?_ ?_
           (rotate_left; ·(show Act.put _ (some 33) _ = _; simp only [Act.put, pq_z126]; rfl))
           refine pu_z126 16 (some 34) ?_ mz126_17 rfl rfl (any_of HT_.out (by kernel_rfl)) (fun _ _ _ h => h) (Or.inl ⟨by rfl, ?_⟩) ?_ ?_ ?_
           (rotate_left; ·(intro w'; go_simp; with_reducible rfl)); (rotate_left; ·(simp only [Act.put, pq_z126]; rfl))
           refine pu_z126 17 (some 35) ?_ mz126_18 rfl rfl (any_of HT_.out (by kernel_rfl)) (fun _ _ _ h => h) (Or.inl ⟨by rfl, ?_⟩) ?_ ?_ ?_
           (rotate_left; ·(intro w'; go_simp; with_reducible rfl)); (rotate_left; ·(simp only [Act.put, pq_z126]; rfl))
           refine pu_z126 18 (some 36) ?_ mz126_19 rfl rfl (any_of HT_.out (by kernel_rfl)) (fun _ _ _ h => h) (Or.inl ⟨by rfl, ?_⟩) ?_ ?_ ?_
           (rotate_left; ·(intro w'; go_simp; with_reducible rfl)); (rotate_left; ·(simp only [Act.put, pq_z126]; rfl))
           refine pu_z126 19 (some 37) ?_ mz126_20 rfl rfl (any_of HT_.out (by kernel_rfl)) (fun _ _ _ h => h) (Or.inl ⟨by rfl, ?_⟩) ?_ ?_ ?_
           (rotate_left; ·(intro w'; go_simp; with_reducible rfl)); (rotate_left; ·(simp only [Act.put, pq_z126]; rfl))
           refine take_ (i := 20) (N := some 38) (v := ?_) (a' := ?_) mz126_21 rfl rfl (take_ofW HT_.out HW_.out (by kernel_rfl)) (fun _ _ _ h => h) (Or.inl ⟨by rfl, ?_⟩) hHeld ?_ ?_
           (rotate_left; ·(rintro w' ⟨s0, s1, s2, s3⟩; go_simp; with_reducible rfl)); (rotate_left; ·(simp only [Act.put, pq_z126]; rfl))
           refine one_ (i := 21) (N := some 39) mz126_22 rfl rfl (one_of HT_.out (by kernel_rfl)) (by decide) (fun K hK => ?_)
           refine goes_ Try.func96 (by kernel_rfl) rfl #[.int .i64 ((rd_T144 l0 x3_1).f2), .int .i64 0, .int .i64 15] (by rfl) rfl rfl (by (try simp only [List.map_toArray, List.map_cons, List.map_nil]); first | done | rfl | (simp only [List.length_drop, List.length_take]; rfl)) ?_
           with_reducible refine (spec_l00In.calls ((rd_T144 l0 x3_1).f2) 0 15 true _ A11.out).mono ?_
           rintro e w' ⟨rfl, ⟨nd, rfl⟩⟩
           refine ⟨_, rfl, ?_⟩
           refine hK.out _ _ ⟨(blk_cell BK669.out 0).trans rfl, (blk_cell BK669.out 1).trans rfl, (blk_cell BK669.out 2).trans rfl, (blk_cell BK669.out 3).trans rfl⟩ (fun hHeld => ?_)
           clear hK K
           refine norm_ (a' := ?_) ?_ ?_
           (rotate_left; ·(show Act.put _ (some 39) _ = _; simp only [Act.put, pq_z126]; rfl))
           refine pu_z126 22 (some 40) ?_ mz126_23 rfl rfl (any_of HT_.out (by kernel_rfl)) (fun _ _ _ h => h) (Or.inl ⟨by rfl, ?_⟩) ?_ ?_ ?_
           (rotate_left; ·(intro w'; go_simp; with_reducible rfl)); (rotate_left; ·(simp only [Act.put, pq_z126]; rfl))
           refine pu_z126 23 (some 41) ?_ mz126_24 rfl rfl (any_of HT_.out (by kernel_rfl)) (fun _ _ _ h => h) (Or.inl ⟨by rfl, ?_⟩) ?_ ?_ ?_
           (rotate_left; ·(intro w'; go_simp; with_reducible rfl)); (rotate_left; ·(simp only [Act.put, pq_z126]; rfl))
           refine pu_z126 24 (some 42) ?_ mz126_25 rfl rfl (any_of HT_.out (by kernel_rfl)) (fun _ _ _ h => h) (Or.inl ⟨by rfl, ?_⟩) ?_ ?_ ?_
           (rotate_left; ·(intro w'; go_simp; with_reducible rfl)); (rotate_left; ·(simp only [Act.put, pq_z126]; rfl))
           refine pu_z126 25 (some 43) ?_ mz126_26 rfl rfl (any_of HT_.out (by kernel_rfl)) (fun _ _ _ h => h) (Or.inl ⟨by rfl, ?_⟩) ?_ ?_ ?_
           (rotate_left; ·(intro w'; go_simp; with_reducible rfl)); (rotate_left; ·(simp only [Act.put, pq_z126]; rfl))
           refine pu_z126 27 (some 45) ?_ mz126_27 rfl rfl (any_of HT_.out (by kernel_rfl)) (fun _ _ _ h => h) (Or.inl ⟨by rfl, ?_⟩) ?_ ?_ ?_
           (rotate_left; ·(intro w'; go_simp; with_reducible rfl)); (rotate_left; ·(simp only [Act.put, pq_z126]; rfl))
           refine take_ (i := 26) (N := some 44) (v := ?_) (a' := ?_) mz126_28 rfl rfl (take_ofW HT_.out HW_.out (by kernel_rfl)) (fun _ _ _ h => h) (Or.inl ⟨by rfl, ?_⟩) hHeld ?_ ?_
           (rotate_left; ·(rintro w' ⟨s0, s1, s2, s3⟩; go_simp; with_reducible rfl)); (rotate_left; ·(simp only [Act.put, pq_z126]; rfl))
           refine take_ (i := 28) (N := some 46) (v := ?_) (a' := ?_) mz126_29 rfl rfl (take_ofW HT_.out HW_.out (by kernel_rfl)) (fun _ _ _ h => h) (Or.inl ⟨by rfl, ?_⟩) hHeld ?_ ?_
           (rotate_left; ·(rintro w' ⟨s0, s1, s2, s3⟩; go_simp; with_reducible rfl)); (rotate_left; ·(simp only [Act.put, pq_z126]; rfl))
           refine pu_z126 29 (some 47) ?_ mz126_30 rfl rfl (any_of HT_.out (by kernel_rfl)) (fun _ _ _ h => h) (Or.inl ⟨by rfl, ?_⟩) ?_ ?_ ?_
           (rotate_left; ·(intro w'; go_simp; with_reducible rfl)); (rotate_left; ·(simp only [Act.put, pq_z126]; rfl))
           refine pu_z126 30 (some 48) ?_ mz126_31 rfl rfl (any_of HT_.out (by kernel_rfl)) (fun _ _ _ h => h) (Or.inl ⟨by rfl, ?_⟩) ?_ ?_ ?_
           (rotate_left; ·(intro w'; go_simp; with_reducible rfl)); (rotate_left; ·(simp only [Act.put, pq_z126]; rfl))
           refine pu_z126 31 (some 49) ?_ mz126_32 rfl rfl (any_of HT_.out (by kernel_rfl)) (fun _ _ _ h => h) (Or.inl ⟨by rfl, ?_⟩) ?_ ?_ ?_
           (rotate_left; ·(intro w'; go_simp; with_reducible rfl)); (rotate_left; ·(simp only [Act.put, pq_z126]; rfl))
           refine pu_z126 32 (some 50) undef mz126_33 rfl rfl (any_of HT_.out (by kernel_rfl)) (fun _ _ _ h => h) (Or.inr ⟨by rfl, rfl⟩) ?_ ?_ ?_
           (rotate_left; ·(simp only [Act.put, pq_z126]; rfl))
           refine pu_z126 33 (some 51) undef mz126_34 rfl rfl (any_of HT_.out (by kernel_rfl)) (fun _ _ _ h => h) (Or.inr ⟨by rfl, rfl⟩) ?_ ?_ ?_
           (rotate_left; ·(simp only [Act.put, pq_z126]; rfl))
           refine pu_z126 34 (some 52) undef mz126_35 rfl rfl (any_of HT_.out (by kernel_rfl)) (fun _ _ _ h => h) (Or.inr ⟨by rfl, rfl⟩) ?_ ?_ ?_
           (rotate_left; ·(simp only [Act.put, pq_z126]; rfl))
           refine pu_z126 35 (some 53) undef mz126_36 rfl rfl (any_of HT_.out (by kernel_rfl)) (fun _ _ _ h => h) (Or.inr ⟨by rfl, rfl⟩) ?_ ?_ ?_
           (rotate_left; ·(simp only [Act.put, pq_z126]; rfl))
           refine pu_z126 36 (some 54) undef mz126_37 rfl rfl (any_of HT_.out (by kernel_rfl)) (fun _ _ _ h => h) (Or.inr ⟨by rfl, rfl⟩) ?_ ?_ ?_
           (rotate_left; ·(simp only [Act.put, pq_z126]; rfl))
           refine pu_z126 37 (some 55) undef mz126_38 rfl rfl (any_of HT_.out (by kernel_rfl)) (fun _ _ _ h => h) (Or.inr ⟨by rfl, rfl⟩) ?_ ?_ ?_
           (rotate_left; ·(simp only [Act.put, pq_z126]; rfl))
           refine pu_z126 38 (some 56) undef mz126_39 rfl rfl (any_of HT_.out (by kernel_rfl)) (fun _ _ _ h => h) (Or.inr ⟨by rfl, rfl⟩) ?_ ?_ ?_
           (rotate_left; ·(simp only [Act.put, pq_z126]; rfl))
           refine pu_z126 39 (some 57) undef mz126_40 rfl rfl (any_of HT_.out (by kernel_rfl)) (fun _ _ _ h => h) (Or.inr ⟨by rfl, rfl⟩) ?_ ?_ ?_
           (rotate_left; ·(simp only [Act.put, pq_z126]; rfl))
           refine pu_z126 40 (some 58) undef mz126_41 rfl rfl (any_of HT_.out (by kernel_rfl)) (fun _ _ _ h => h) (Or.inr ⟨by rfl, rfl⟩) ?_ ?_ ?_
           (rotate_left; ·(simp only [Act.put, pq_z126]; rfl))
           refine pu_z126 41 (some 59) undef mz126_42 rfl rfl (any_of HT_.out (by kernel_rfl)) (fun _ _ _ h => h) (Or.inr ⟨by rfl, rfl⟩) ?_ ?_ ?_
           (rotate_left; ·(simp only [Act.put, pq_z126]; rfl))
           refine pu_z126 42 (some 60) undef mz126_43 rfl rfl (any_of HT_.out (by kernel_rfl)) (fun _ _ _ h => h) (Or.inr ⟨by rfl, rfl⟩) ?_ ?_ ?_
           (rotate_left; ·(simp only [Act.put, pq_z126]; rfl))
           refine pu_z126 43 (some 61) undef mz126_44 rfl rfl (any_of HT_.out (by kernel_rfl)) (fun _ _ _ h => h) (Or.inr ⟨by rfl, rfl⟩) ?_ ?_ ?_
           (rotate_left; ·(simp only [Act.put, pq_z126]; rfl))
           refine pu_z126 44 (some 62) undef mz126_45 rfl rfl (any_of HT_.out (by kernel_rfl)) (fun _ _ _ h => h) (Or.inr ⟨by rfl, rfl⟩) ?_ ?_ ?_
           (rotate_left; ·(simp only [Act.put, pq_z126]; rfl))
           refine pu_z126 45 (some 63) ?_ mz126_46 rfl rfl (any_of HT_.out (by kernel_rfl)) (fun _ _ _ h => h) (Or.inl ⟨by rfl, ?_⟩) ?_ ?_ ?_
           (rotate_left; ·(intro w'; go_simp; with_reducible rfl)); (rotate_left; ·(simp only [Act.put, pq_z126]; rfl))
           refine pu_z126 46 (some 64) ?_ mz126_47 rfl rfl (any_of HT_.out (by kernel_rfl)) (fun _ _ _ h => h) (Or.inl ⟨by rfl, ?_⟩) ?_ ?_ ?_
           (rotate_left; ·(intro w'; go_simp; with_reducible rfl)); (rotate_left; ·(simp only [Act.put, pq_z126]; rfl))
           refine pu_z126 47 (some 65) undef mz126_48 rfl rfl (any_of HT_.out (by kernel_rfl)) (fun _ _ _ h => h) (Or.inr ⟨by rfl, rfl⟩) ?_ ?_ ?_
           (rotate_left; ·(simp only [Act.put, pq_z126]; rfl))
           refine pu_z126 48 (some 66) undef mz126_49 rfl rfl (any_of HT_.out (by kernel_rfl)) (fun _ _ _ h => h) (Or.inr ⟨by rfl, rfl⟩) ?_ ?_ ?_
           (rotate_left; ·(simp only [Act.put, pq_z126]; rfl))
           refine pu_z126 49 (some 67) undef mz126_50 rfl rfl (any_of HT_.out (by kernel_rfl)) (fun _ _ _ h => h) (Or.inr ⟨by rfl, rfl⟩) ?_ ?_ ?_
           (rotate_left; ·(simp only [Act.put, pq_z126]; rfl))
           refine pu_z126 50 (some 68) undef mz126_51 rfl rfl (any_of HT_.out (by kernel_rfl)) (fun _ _ _ h => h) (Or.inr ⟨by rfl, rfl⟩) ?_ ?_ ?_
           (rotate_left; ·(simp only [Act.put, pq_z126]; rfl))
           refine pu_z126 51 (some 69) undef mz126_52 rfl rfl (any_of HT_.out (by kernel_rfl)) (fun _ _ _ h => h) (Or.inr ⟨by rfl, rfl⟩) ?_ ?_ ?_
           (rotate_left; ·(simp only [Act.put, pq_z126]; rfl))
           refine pu_z126 52 (some 70) undef mz126_53 rfl rfl (any_of HT_.out (by kernel_rfl)) (fun _ _ _ h => h) (Or.inr ⟨by rfl, rfl⟩) ?_ ?_ ?_
           (rotate_left; ·(simp only [Act.put, pq_z126]; rfl))
           refine pu_z126 53 (some 71) undef mz126_54 rfl rfl (any_of HT_.out (by kernel_rfl)) (fun _ _ _ h => h) (Or.inr ⟨by rfl, rfl⟩) ?_ ?_ ?_
           (rotate_left; ·(simp only [Act.put, pq_z126]; rfl))
           refine pu_z126 54 (some 72) undef mz126_55 rfl rfl (any_of HT_.out (by kernel_rfl)) (fun _ _ _ h => h) (Or.inr ⟨by rfl, rfl⟩) ?_ ?_ ?_
           (rotate_left; ·(simp only [Act.put, pq_z126]; rfl))
           refine pu_z126 55 (some 73) ?_ mz126_56 rfl rfl (any_of HT_.out (by kernel_rfl)) (fun _ _ _ h => h) (Or.inl ⟨by rfl, ?_⟩) ?_ ?_ ?_
           (rotate_left; ·(intro w'; go_simp; with_reducible rfl)); (rotate_left; ·(simp only [Act.put, pq_z126]; rfl))
           refine done_ (done_of HT_.out (by kernel_rfl)) ?_
           try go_wp2
           go_ret
           exact ⟨by first | rfl | (simp [errW_none, errW_some] <;> rfl) | (simp [*, errW_none, errW_some] <;> rfl), by repeat (first | (with_reducible first | exact HB.out | apply below_alloc | apply pw_below_drewN | apply below_drew1 | refine below_set ?_ GE669.out) | exact HB.out)⟩
          ·rw [if_neg c13] at H
           have c13b0 : (((rd_T144 l0 x3_1).f1) == ((rd_T144 l0 x3_1).f2)) = false := beq_eq_false_iff_ne.mpr c13
           have c13b1 : (((rd_T144 l0 x3_1).f1) != ((rd_T144 l0 x3_1).f2)) = true := bne_iff_ne.mpr c13
           by_cases c18 : x3_1 > 0
           ·rw [if_pos c18] at H
            have c18b0 : decide (0 < x3_1) = true := decide_eq_true c18
            clear c18
            obtain ⟨ji19, hji19⟩ : ∃ j_ : Int, (wrap64 (x3_1 - 1)) = j_ := ⟨_, rfl⟩
            replace H : (if 0 ≤ (ji19) then (if (ji19) < (l0.length : Int) then ((spec_l10Less.f ((rd_T144 l0 x3_1).f0.f0) ((rd_T144 l0 x3_1).f0.f1) ((rd_T144 l0 (ji19)).f0.f0) ((rd_T144 l0 (ji19)).f0.f1)).bind fun t675 => (if t675 = true then (some false) else (if x3_1 ≤ (l0.length : Int) then ((spec_l10Known.f k1 (l0.take (x3_1 : Int).toNat) ((rd_T144 l0 x3_1).f0.f0) ((rd_T144 l0 x3_1).f0.f1) ((rd_T144 l0 x3_1).f1)).bind fun t680 => (if t680 = true then (some false) else (spec_l10OK.l0 k1 l0 (wrap64 (x3_1 + 1))))) else (none)))) else (none)) else (none)) = some r := by first | (rw [hji19] at H; exact H) | (simp only [hji19] at H ⊢; exact H)
            (try rw [hji19] at A5)
            (try rw [hji19] at A7)
            (try rw [hji19] at A9)
            (try rw [hji19] at A11)
            have hji19w : (IntKind.i64.wrap (x3_1 - 1)) = ji19 := (i64_w _).trans hji19
            by_cases c20 : 0 ≤ (ji19)
            ·rw [if_pos c20] at H
             have c20b0 : decide (0 ≤ (ji19)) = true := decide_eq_true c20
             clear c20
             by_cases c21 : (ji19) < (l0.length : Int)
             ·rw [if_pos c21] at H
              have c21b0 : decide ((ji19) < (l0.length : Int)) = true := decide_eq_true c21
              clear c21
              replace H := Option.bind_eq_some_iff.mp H
              obtain ⟨t675, A220, H⟩ := H
              replace H : (if t675 = true then (some false) else (if x3_1 ≤ (l0.length : Int) then ((spec_l10Known.f k1 (l0.take (x3_1 : Int).toNat) ((rd_T144 l0 x3_1).f0.f0) ((rd_T144 l0 x3_1).f0.f1) ((rd_T144 l0 x3_1).f1)).bind fun t680 => (if t680 = true then (some false) else (spec_l10OK.l0 k1 l0 (wrap64 (x3_1 + 1))))) else (none))) = some r := H
              have A22 := Aside0.mk A220
              clear A220
              by_cases c23 : t675 = true
              ·subst c23
               have H1 : (some false) = some r := by rw [if_pos rfl] at H; exact H
               clear H
               have H := H1
               clear H1
               obtain rfl := Option.some.inj H
               have p668 : 0 ≤ (x3_1 : Int) := of_decide_eq_true (by first | (with_reducible assumption) | assumption)
               have q668 : x3_1 < (l0.length : Int) := of_decide_eq_true (by first | (with_reducible assumption) | assumption)
               obtain ⟨ad668, e668, hx668_0, hx668_1, hx668_2, hx668_3⟩ := at_T144 HR0.out x3_1 p668 q668
               cases e668
               replace hx668_0 := (HB.out.cell (World.block_lt_of_cell? w _ hx668_0)).trans hx668_0
               replace hx668_1 := (HB.out.cell (World.block_lt_of_cell? w _ hx668_1)).trans hx668_1
               replace hx668_2 := (HB.out.cell (World.block_lt_of_cell? w _ hx668_2)).trans hx668_2
               replace hx668_3 := (HB.out.cell (World.block_lt_of_cell? w _ hx668_3)).trans hx668_3
               replace p668 := eq_true p668
               replace q668 := eq_true q668
               try go_wp2_with (first | ((with_reducible refine gate_dst (N := 4) rfl ?_); refine box_event ?hg (N := 4) ?hd (cs := #[.int .i64 0, .int .i64 0, .int .i64 0, .int .i64 0]) (t := 144) ?hr ?_; (case hd => rfl); (case hg => rfl); (case hr => first | (go_simp; done) | (go_simp; rfl)); intro gb669 hg w24 hbox hb; have n0_ := Aside0.mk (below_step (by repeat (first | (with_reducible first | exact HB.out | apply below_alloc | apply pw_below_drewN | apply below_drew1) | exact HB.out)) hb); have n1_ := Aside0.mk (hbox); have n2_ := Aside0.mk ((by rw [hg]; exact (below_size (by repeat (first | (with_reducible first | exact HB.out | apply below_alloc | apply pw_below_drewN | apply below_drew1) | exact HB.out))) : w.heap.size ≤ gb669)); have n3_ := Aside0.mk ((by rw [hg]; exact (below_size (by repeat (first | (with_reducible first | exact HB.out | apply below_alloc | apply pw_below_drewN | apply below_drew1) | exact HB.out))) : w.heap.size ≤ gb669)); clear HB; have HB := n0_; have BK669 := n1_; have GW669 := n2_; have GE669 := n3_; clear n0_ n1_ n2_ n3_; clear hb hbox hg; have hcz25_0 : w24.cell? ⟨gb669, 0, none⟩ = some (.int .i64 0) := (blk_cell BK669.out 0).trans rfl; have hcz25_1 : w24.cell? ⟨gb669, 1, none⟩ = some (.int .i64 0) := (blk_cell BK669.out 1).trans rfl; have hcz25_2 : w24.cell? ⟨gb669, 2, none⟩ = some (.int .i64 0) := (blk_cell BK669.out 2).trans rfl; have hcz25_3 : w24.cell? ⟨gb669, 3, none⟩ = some (.int .i64 0) := (blk_cell BK669.out 3).trans rfl; have hfz25_0 := blk_frozen BK669.out 0; have hfz25_1 := blk_frozen BK669.out 1; have hfz25_2 := blk_frozen BK669.out 2; have hfz25_3 := blk_frozen BK669.out 3))
               have n0_ : Aside0 (((((w24.setCell ⟨gb669, 0, none⟩ (.int .i64 ((rd_T144 l0 x3_1).f0.f0))).setCell ⟨gb669, 1, none⟩ (.int .i64 ((rd_T144 l0 x3_1).f0.f1))).setCell ⟨gb669, 2, none⟩ (.int .i64 ((rd_T144 l0 x3_1).f1))).setCell ⟨gb669, 3, none⟩ (.int .i64 ((rd_T144 l0 x3_1).f2))).heap[gb669]? = some (.cells #[.int .i64 ((rd_T144 l0 x3_1).f0.f0), .int .i64 ((rd_T144 l0 x3_1).f0.f1), .int .i64 ((rd_T144 l0 x3_1).f1), .int .i64 ((rd_T144 l0 x3_1).f2)] 144 (0, 0))) := ⟨by (with_reducible repeat (first | refine blk_drewN ?_ _ | refine blk_drew ?_ | refine blk_alloc ?_ _)); refine blk_put (cs := #[.int .i64 ((rd_T144 l0 x3_1).f0.f0), .int .i64 ((rd_T144 l0 x3_1).f0.f1), .int .i64 ((rd_T144 l0 x3_1).f1), .int .i64 0]) ?_ 3 _ rfl; (with_reducible repeat (first | refine blk_drewN ?_ _ | refine blk_drew ?_ | refine blk_alloc ?_ _)); refine blk_put (cs := #[.int .i64 ((rd_T144 l0 x3_1).f0.f0), .int .i64 ((rd_T144 l0 x3_1).f0.f1), .int .i64 0, .int .i64 0]) ?_ 2 _ rfl; (with_reducible repeat (first | refine blk_drewN ?_ _ | refine blk_drew ?_ | refine blk_alloc ?_ _)); refine blk_put (cs := #[.int .i64 ((rd_T144 l0 x3_1).f0.f0), .int .i64 0, .int .i64 0, .int .i64 0]) ?_ 1 _ rfl; (with_reducible repeat (first | refine blk_drewN ?_ _ | refine blk_drew ?_ | refine blk_alloc ?_ _)); refine blk_put (cs := #[.int .i64 0, .int .i64 0, .int .i64 0, .int .i64 0]) ?_ 0 _ rfl; (with_reducible repeat (first | refine blk_drewN ?_ _ | refine blk_drew ?_ | refine blk_alloc ?_ _)); exact BK669.out⟩
               have n1_ : Aside0 (Below w.heap.size w ((((w24.setCell ⟨gb669, 0, none⟩ (.int .i64 ((rd_T144 l0 x3_1).f0.f0))).setCell ⟨gb669, 1, none⟩ (.int .i64 ((rd_T144 l0 x3_1).f0.f1))).setCell ⟨gb669, 2, none⟩ (.int .i64 ((rd_T144 l0 x3_1).f1))).setCell ⟨gb669, 3, none⟩ (.int .i64 ((rd_T144 l0 x3_1).f2)))) := ⟨by repeat (first | (with_reducible first | exact HB.out | apply below_alloc | apply pw_below_drewN | apply below_drew1 | refine below_set ?_ GE669.out) | exact HB.out)⟩
               (try clear BK669)
               (try clear HB)
               generalize ((((w24.setCell ⟨gb669, 0, none⟩ (.int .i64 ((rd_T144 l0 x3_1).f0.f0))).setCell ⟨gb669, 1, none⟩ (.int .i64 ((rd_T144 l0 x3_1).f0.f1))).setCell ⟨gb669, 2, none⟩ (.int .i64 ((rd_T144 l0 x3_1).f1))).setCell ⟨gb669, 3, none⟩ (.int .i64 ((rd_T144 l0 x3_1).f2))) = w26 at n0_ n1_ ⊢
               have BK669 := n0_
               have HB := n1_
               clear n0_ n1_
               have n0_ := Aside0.mk (blk_drew BK669.out)
               have n1_ := Aside0.mk (below_drew1 HB.out)
               clear BK669
               clear HB
               have BK669 := n0_
               have HB := n1_
               clear n0_ n1_
               have p674 : 0 ≤ ((ji19) : Int) := of_decide_eq_true (by first | (with_reducible assumption) | assumption)
               have q674 : (ji19) < (l0.length : Int) := of_decide_eq_true (by first | (with_reducible assumption) | assumption)
               obtain ⟨ad674, e674, hx674_0, hx674_1, hx674_2, hx674_3⟩ := at_T144 HR0.out (ji19) p674 q674
               have hw674_3 := hx674_3
               have hw674_2 := hx674_2
               have hw674_1 := hx674_1
               have hw674_0 := hx674_0
               obtain rfl : ad668 = ad674 := (by injection e674)
               replace hx674_0 := (HB.out.cell (World.block_lt_of_cell? w _ hx674_0)).trans hx674_0
               replace hx674_1 := (HB.out.cell (World.block_lt_of_cell? w _ hx674_1)).trans hx674_1
               replace hx674_2 := (HB.out.cell (World.block_lt_of_cell? w _ hx674_2)).trans hx674_2
               replace hx674_3 := (HB.out.cell (World.block_lt_of_cell? w _ hx674_3)).trans hx674_3
               replace p674 := eq_true p674
               replace q674 := eq_true q674
               refine start_ (n := 56) (S := fun w' => w'.cell? ⟨gb669, 0, none⟩ = some (.int .i64 ((rd_T144 l0 x3_1).f0.f0)) ∧ w'.cell? ⟨gb669, 1, none⟩ = some (.int .i64 ((rd_T144 l0 x3_1).f0.f1)) ∧ w'.cell? ⟨gb669, 2, none⟩ = some (.int .i64 ((rd_T144 l0 x3_1).f1)) ∧ w'.cell? ⟨gb669, 3, none⟩ = some (.int .i64 ((rd_T144 l0 x3_1).f2)) ∧ w'.cell? (ad668.add (((ji19)).toNat * 4)) = some (.int .i64 ((rd_T144 l0 (ji19)).f0.f0)) ∧ w'.cell? ⟨(ad668.add (((ji19)).toNat * 4)).block, (ad668.add (((ji19)).toNat * 4)).off + 1, none⟩ = some (.int .i64 ((rd_T144 l0 (ji19)).f0.f1)) ∧ w'.cell? ⟨(ad668.add (((ji19)).toNat * 4)).block, (ad668.add (((ji19)).toNat * 4)).off + 2, none⟩ = some (.int .i64 ((rd_T144 l0 (ji19)).f1)) ∧ w'.cell? ⟨(ad668.add (((ji19)).toNat * 4)).block, (ad668.add (((ji19)).toNat * 4)).off + 3, none⟩ = some (.int .i64 ((rd_T144 l0 (ji19)).f2))) (ds := []) mz126_0 (by kernel_rfl) rfl rfl ⟨(blk_cell BK669.out 0).trans rfl, (blk_cell BK669.out 1).trans rfl, (blk_cell BK669.out 2).trans rfl, (blk_cell BK669.out 3).trans rfl, ((HB.out.cell (World.block_lt_of_cell? w _ hw674_0)).trans hw674_0), ((HB.out.cell (World.block_lt_of_cell? w _ hw674_1)).trans hw674_1), ((HB.out.cell (World.block_lt_of_cell? w _ hw674_2)).trans hw674_2), ((HB.out.cell (World.block_lt_of_cell? w _ hw674_3)).trans hw674_3)⟩ (fun hHeld => ?_); refine with_tabW spec_l10OK.tab7 spec_l10OK.bits7 (fun HT_ HW_ => ?_)
               generalize w26.drew = w27 at BK669 HB hx674_0 hx674_1 hx674_2 hx674_3 hHeld ⊢
               refine pu_z126 0 (some 18) ?_ mz126_1 rfl rfl (any_of HT_.out (by kernel_rfl)) (fun _ _ _ h => h) (Or.inl ⟨by rfl, ?_⟩) ?_ ?_ ?_
               (rotate_left; ·(intro w'; go_simp; with_reducible rfl)); (rotate_left; ·(simp only [Act.put, pq_z126]; rfl))
               refine pu_z126 1 (some 19) ?_ mz126_2 rfl rfl (any_of HT_.out (by kernel_rfl)) (fun _ _ _ h => h) (Or.inl ⟨by rfl, ?_⟩) ?_ ?_ ?_
               (rotate_left; ·(intro w'; go_simp; with_reducible rfl)); (rotate_left; ·(simp only [Act.put, pq_z126]; rfl))
               refine take_ (i := 2) (N := some 20) (v := ?_) (a' := ?_) mz126_3 rfl rfl (take_ofW HT_.out HW_.out (by kernel_rfl)) (fun _ _ _ h => h) (Or.inl ⟨by rfl, ?_⟩) hHeld ?_ ?_
               (rotate_left; ·(rintro w' ⟨s0, s1, s2, s3, s4, s5, s6, s7⟩; go_simp; with_reducible rfl)); (rotate_left; ·(simp only [Act.put, pq_z126]; rfl))
               refine one_ (i := 3) (N := some 21) mz126_4 rfl rfl (one_of HT_.out (by kernel_rfl)) (by decide) (fun K hK => ?_)
               refine goes_ Try.func96 (by kernel_rfl) rfl #[.int .i64 ((rd_T144 l0 x3_1).f0.f0), .int .i64 1, .int .i64 4] (by rfl) rfl rfl (by (try simp only [List.map_toArray, List.map_cons, List.map_nil]); first | done | rfl | (simp only [List.length_drop, List.length_take]; rfl)) ?_
               with_reducible refine (spec_l00In.calls ((rd_T144 l0 x3_1).f0.f0) 1 4 true _ A5.out).mono ?_
               rintro e w' ⟨rfl, ⟨nd, rfl⟩⟩
               refine ⟨_, rfl, ?_⟩
               refine hK.out _ _ ⟨(blk_cell BK669.out 0).trans rfl, (blk_cell BK669.out 1).trans rfl, (blk_cell BK669.out 2).trans rfl, (blk_cell BK669.out 3).trans rfl, ((HB.out.cell (World.block_lt_of_cell? w _ hw674_0)).trans hw674_0), ((HB.out.cell (World.block_lt_of_cell? w _ hw674_1)).trans hw674_1), ((HB.out.cell (World.block_lt_of_cell? w _ hw674_2)).trans hw674_2), ((HB.out.cell (World.block_lt_of_cell? w _ hw674_3)).trans hw674_3)⟩ (fun hHeld => ?_)
               clear hK K
               refine norm_ (a' := ?_) ?_ ?_
               (rotate_left; ·(show Act.put _ (some 21) _ = _; simp only [Act.put, pq_z126]; rfl))
               refine pu_z126 4 (some 22) ?_ mz126_5 rfl rfl (any_of HT_.out (by kernel_rfl)) (fun _ _ _ h => h) (Or.inl ⟨by rfl, ?_⟩) ?_ ?_ ?_
               (rotate_left; ·(intro w'; go_simp; with_reducible rfl)); (rotate_left; ·(simp only [Act.put, pq_z126]; rfl))
               refine pu_z126 5 (some 23) ?_ mz126_6 rfl rfl (any_of HT_.out (by kernel_rfl)) (fun _ _ _ h => h) (Or.inl ⟨by rfl, ?_⟩) ?_ ?_ ?_
               (rotate_left; ·(intro w'; go_simp; with_reducible rfl)); (rotate_left; ·(simp only [Act.put, pq_z126]; rfl))
               refine pu_z126 6 (some 24) ?_ mz126_7 rfl rfl (any_of HT_.out (by kernel_rfl)) (fun _ _ _ h => h) (Or.inl ⟨by rfl, ?_⟩) ?_ ?_ ?_
               (rotate_left; ·(intro w'; go_simp; with_reducible rfl)); (rotate_left; ·(simp only [Act.put, pq_z126]; rfl))
               refine pu_z126 7 (some 25) ?_ mz126_8 rfl rfl (any_of HT_.out (by kernel_rfl)) (fun _ _ _ h => h) (Or.inl ⟨by rfl, ?_⟩) ?_ ?_ ?_
               (rotate_left; ·(intro w'; go_simp; with_reducible rfl)); (rotate_left; ·(simp only [Act.put, pq_z126]; rfl))
               refine take_ (i := 8) (N := some 26) (v := ?_) (a' := ?_) mz126_9 rfl rfl (take_ofW HT_.out HW_.out (by kernel_rfl)) (fun _ _ _ h => h) (Or.inl ⟨by rfl, ?_⟩) hHeld ?_ ?_
               (rotate_left; ·(rintro w' ⟨s0, s1, s2, s3, s4, s5, s6, s7⟩; go_simp; with_reducible rfl)); (rotate_left; ·(simp only [Act.put, pq_z126]; rfl))
               refine one_ (i := 9) (N := some 27) mz126_10 rfl rfl (one_of HT_.out (by kernel_rfl)) (by decide) (fun K hK => ?_)
               refine goes_ Try.func96 (by kernel_rfl) rfl #[.int .i64 ((rd_T144 l0 x3_1).f0.f1), .int .i64 0, .int .i64 15] (by rfl) rfl rfl (by (try simp only [List.map_toArray, List.map_cons, List.map_nil]); first | done | rfl | (simp only [List.length_drop, List.length_take]; rfl)) ?_
               with_reducible refine (spec_l00In.calls ((rd_T144 l0 x3_1).f0.f1) 0 15 true _ A7.out).mono ?_
               rintro e w' ⟨rfl, ⟨nd, rfl⟩⟩
               refine ⟨_, rfl, ?_⟩
               refine hK.out _ _ ⟨(blk_cell BK669.out 0).trans rfl, (blk_cell BK669.out 1).trans rfl, (blk_cell BK669.out 2).trans rfl, (blk_cell BK669.out 3).trans rfl, ((HB.out.cell (World.block_lt_of_cell? w _ hw674_0)).trans hw674_0), ((HB.out.cell (World.block_lt_of_cell? w _ hw674_1)).trans hw674_1), ((HB.out.cell (World.block_lt_of_cell? w _ hw674_2)).trans hw674_2), ((HB.out.cell (World.block_lt_of_cell? w _ hw674_3)).trans hw674_3)⟩ (fun hHeld => ?_)
               clear hK K
               refine norm_ (a' := ?_) ?_ ?_
               (rotate_left; ·(show Act.put _ (some 27) _ = _; simp only [Act.put, pq_z126]; rfl))
               refine pu_z126 10 (some 28) ?_ mz126_11 rfl rfl (any_of HT_.out (by kernel_rfl)) (fun _ _ _ h => h) (Or.inl ⟨by rfl, ?_⟩) ?_ ?_ ?_
               (rotate_left; ·(intro w'; go_simp; with_reducible rfl)); (rotate_left; ·(simp only [Act.put, pq_z126]; rfl))
               refine pu_z126 11 (some 29) ?_ mz126_12 rfl rfl (any_of HT_.out (by kernel_rfl)) (fun _ _ _ h => h) (Or.inl ⟨by rfl, ?_⟩) ?_ ?_ ?_
               (rotate_left; ·(intro w'; go_simp; with_reducible rfl)); (rotate_left; ·(simp only [Act.put, pq_z126]; rfl))
               refine pu_z126 12 (some 30) ?_ mz126_13 rfl rfl (any_of HT_.out (by kernel_rfl)) (fun _ _ _ h => h) (Or.inl ⟨by rfl, ?_⟩) ?_ ?_ ?_
               (rotate_left; ·(intro w'; go_simp; with_reducible rfl)); (rotate_left; ·(simp only [Act.put, pq_z126]; rfl))
               refine pu_z126 13 (some 31) ?_ mz126_14 rfl rfl (any_of HT_.out (by kernel_rfl)) (fun _ _ _ h => h) (Or.inl ⟨by rfl, ?_⟩) ?_ ?_ ?_
               (rotate_left; ·(intro w'; go_simp; with_reducible rfl)); (rotate_left; ·(simp only [Act.put, pq_z126]; rfl))
               refine take_ (i := 14) (N := some 32) (v := ?_) (a' := ?_) mz126_15 rfl rfl (take_ofW HT_.out HW_.out (by kernel_rfl)) (fun _ _ _ h => h) (Or.inl ⟨by rfl, ?_⟩) hHeld ?_ ?_
               (rotate_left; ·(rintro w' ⟨s0, s1, s2, s3, s4, s5, s6, s7⟩; go_simp; with_reducible rfl)); (rotate_left; ·(simp only [Act.put, pq_z126]; rfl))
               refine one_ (i := 15) (N := some 33) mz126_16 rfl rfl (one_of HT_.out (by kernel_rfl)) (by decide) (fun K hK => ?_)
               refine goes_ Try.func96 (by kernel_rfl) rfl #[.int .i64 ((rd_T144 l0 x3_1).f1), .int .i64 0, .int .i64 15] (by rfl) rfl rfl (by (try simp only [List.map_toArray, List.map_cons, List.map_nil]); first | done | rfl | (simp only [List.length_drop, List.length_take]; rfl)) ?_
               with_reducible refine (spec_l00In.calls ((rd_T144 l0 x3_1).f1) 0 15 true _ A9.out).mono ?_
               rintro e w' ⟨rfl, ⟨nd, rfl⟩⟩
               refine ⟨_, rfl, ?_⟩
               refine hK.out _ _ ⟨(blk_cell BK669.out 0).trans rfl, (blk_cell BK669.out 1).trans rfl, (blk_cell BK669.out 2).trans rfl, (blk_cell BK669.out 3).trans rfl, ((HB.out.cell (World.block_lt_of_cell? w _ hw674_0)).trans hw674_0), ((HB.out.cell (World.block_lt_of_cell? w _ hw674_1)).trans hw674_1), ((HB.out.cell (World.block_lt_of_cell? w _ hw674_2)).trans hw674_2), ((HB.out.cell (World.block_lt_of_cell? w _ hw674_3)).trans hw674_3)⟩ (fun hHeld => ?_)
               clear hK K
               refine norm_ (a' := ?_) ?_ ?_
               (rotate_left; ·(show Act.put _ (some 33) _ = _; simp only [Act.put, pq_z126]; rfl))
               refine pu_z126 16 (some 34) ?_ mz126_17 rfl rfl (any_of HT_.out (by kernel_rfl)) (fun _ _ _ h => h) (Or.inl ⟨by rfl, ?_⟩) ?_ ?_ ?_
               (rotate_left; ·(intro w'; go_simp; with_reducible rfl)); (rotate_left; ·(simp only [Act.put, pq_z126]; rfl))
               refine pu_z126 17 (some 35) ?_ mz126_18 rfl rfl (any_of HT_.out (by kernel_rfl)) (fun _ _ _ h => h) (Or.inl ⟨by rfl, ?_⟩) ?_ ?_ ?_
               (rotate_left; ·(intro w'; go_simp; with_reducible rfl)); (rotate_left; ·(simp only [Act.put, pq_z126]; rfl))
               refine pu_z126 18 (some 36) ?_ mz126_19 rfl rfl (any_of HT_.out (by kernel_rfl)) (fun _ _ _ h => h) (Or.inl ⟨by rfl, ?_⟩) ?_ ?_ ?_
               (rotate_left; ·(intro w'; go_simp; with_reducible rfl)); (rotate_left; ·(simp only [Act.put, pq_z126]; rfl))
               refine pu_z126 19 (some 37) ?_ mz126_20 rfl rfl (any_of HT_.out (by kernel_rfl)) (fun _ _ _ h => h) (Or.inl ⟨by rfl, ?_⟩) ?_ ?_ ?_
               (rotate_left; ·(intro w'; go_simp; with_reducible rfl)); (rotate_left; ·(simp only [Act.put, pq_z126]; rfl))
               refine take_ (i := 20) (N := some 38) (v := ?_) (a' := ?_) mz126_21 rfl rfl (take_ofW HT_.out HW_.out (by kernel_rfl)) (fun _ _ _ h => h) (Or.inl ⟨by rfl, ?_⟩) hHeld ?_ ?_
               (rotate_left; ·(rintro w' ⟨s0, s1, s2, s3, s4, s5, s6, s7⟩; go_simp; with_reducible rfl)); (rotate_left; ·(simp only [Act.put, pq_z126]; rfl))
               refine one_ (i := 21) (N := some 39) mz126_22 rfl rfl (one_of HT_.out (by kernel_rfl)) (by decide) (fun K hK => ?_)
               refine goes_ Try.func96 (by kernel_rfl) rfl #[.int .i64 ((rd_T144 l0 x3_1).f2), .int .i64 0, .int .i64 15] (by rfl) rfl rfl (by (try simp only [List.map_toArray, List.map_cons, List.map_nil]); first | done | rfl | (simp only [List.length_drop, List.length_take]; rfl)) ?_
               with_reducible refine (spec_l00In.calls ((rd_T144 l0 x3_1).f2) 0 15 true _ A11.out).mono ?_
               rintro e w' ⟨rfl, ⟨nd, rfl⟩⟩
               refine ⟨_, rfl, ?_⟩
               refine hK.out _ _ ⟨(blk_cell BK669.out 0).trans rfl, (blk_cell BK669.out 1).trans rfl, (blk_cell BK669.out 2).trans rfl, (blk_cell BK669.out 3).trans rfl, ((HB.out.cell (World.block_lt_of_cell? w _ hw674_0)).trans hw674_0), ((HB.out.cell (World.block_lt_of_cell? w _ hw674_1)).trans hw674_1), ((HB.out.cell (World.block_lt_of_cell? w _ hw674_2)).trans hw674_2), ((HB.out.cell (World.block_lt_of_cell? w _ hw674_3)).trans hw674_3)⟩ (fun hHeld => ?_)
               clear hK K
               refine norm_ (a' := ?_) ?_ ?_
               (rotate_left; ·(show Act.put _ (some 39) _ = _; simp only [Act.put, pq_z126]; rfl))
               refine pu_z126 22 (some 40) ?_ mz126_23 rfl rfl (any_of HT_.out (by kernel_rfl)) (fun _ _ _ h => h) (Or.inl ⟨by rfl, ?_⟩) ?_ ?_ ?_
               (rotate_left; ·(intro w'; go_simp; with_reducible rfl)); (rotate_left; ·(simp only [Act.put, pq_z126]; rfl))
               refine pu_z126 23 (some 41) ?_ mz126_24 rfl rfl (any_of HT_.out (by kernel_rfl)) (fun _ _ _ h => h) (Or.inl ⟨by rfl, ?_⟩) ?_ ?_ ?_
               (rotate_left; ·(intro w'; go_simp; with_reducible rfl)); (rotate_left; ·(simp only [Act.put, pq_z126]; rfl))
               refine pu_z126 24 (some 42) ?_ mz126_25 rfl rfl (any_of HT_.out (by kernel_rfl)) (fun _ _ _ h => h) (Or.inl ⟨by rfl, ?_⟩) ?_ ?_ ?_
               (rotate_left; ·(intro w'; go_simp; with_reducible rfl)); (rotate_left; ·(simp only [Act.put, pq_z126]; rfl))
               refine pu_z126 25 (some 43) ?_ mz126_26 rfl rfl (any_of HT_.out (by kernel_rfl)) (fun _ _ _ h => h) (Or.inl ⟨by rfl, ?_⟩) ?_ ?_ ?_
               (rotate_left; ·(intro w'; go_simp; with_reducible rfl)); (rotate_left; ·(simp only [Act.put, pq_z126]; rfl))
               refine pu_z126 27 (some 45) ?_ mz126_27 rfl rfl (any_of HT_.out (by kernel_rfl)) (fun _ _ _ h => h) (Or.inl ⟨by rfl, ?_⟩) ?_ ?_ ?_
               (rotate_left; ·(intro w'; go_simp; with_reducible rfl)); (rotate_left; ·(simp only [Act.put, pq_z126]; rfl))
               refine take_ (i := 26) (N := some 44) (v := ?_) (a' := ?_) mz126_28 rfl rfl (take_ofW HT_.out HW_.out (by kernel_rfl)) (fun _ _ _ h => h) (Or.inl ⟨by rfl, ?_⟩) hHeld ?_ ?_
               (rotate_left; ·(rintro w' ⟨s0, s1, s2, s3, s4, s5, s6, s7⟩; go_simp; with_reducible rfl)); (rotate_left; ·(simp only [Act.put, pq_z126]; rfl))
               refine take_ (i := 28) (N := some 46) (v := ?_) (a' := ?_) mz126_29 rfl rfl (take_ofW HT_.out HW_.out (by kernel_rfl)) (fun _ _ _ h => h) (Or.inl ⟨by rfl, ?_⟩) hHeld ?_ ?_
               (rotate_left; ·(rintro w' ⟨s0, s1, s2, s3, s4, s5, s6, s7⟩; go_simp; with_reducible rfl)); (rotate_left; ·(simp only [Act.put, pq_z126]; rfl))
               refine pu_z126 29 (some 47) ?_ mz126_30 rfl rfl (any_of HT_.out (by kernel_rfl)) (fun _ _ _ h => h) (Or.inl ⟨by rfl, ?_⟩) ?_ ?_ ?_
               (rotate_left; ·(intro w'; go_simp; with_reducible rfl)); (rotate_left; ·(simp only [Act.put, pq_z126]; rfl))
               refine pu_z126 30 (some 48) ?_ mz126_31 rfl rfl (any_of HT_.out (by kernel_rfl)) (fun _ _ _ h => h) (Or.inl ⟨by rfl, ?_⟩) ?_ ?_ ?_
               (rotate_left; ·(intro w'; go_simp; with_reducible rfl)); (rotate_left; ·(simp only [Act.put, pq_z126]; rfl))
               refine pu_z126 31 (some 49) ?_ mz126_32 rfl rfl (any_of HT_.out (by kernel_rfl)) (fun _ _ _ h => h) (Or.inl ⟨by rfl, ?_⟩) ?_ ?_ ?_
               (rotate_left; ·(intro w'; go_simp; with_reducible rfl)); (rotate_left; ·(simp only [Act.put, pq_z126]; rfl))
               refine pu_z126 32 (some 50) ?_ mz126_33 rfl rfl (any_of HT_.out (by kernel_rfl)) (fun _ _ _ h => h) (Or.inl ⟨by rfl, ?_⟩) ?_ ?_ ?_
               (rotate_left; ·(intro w'; go_simp; with_reducible rfl)); (rotate_left; ·(simp only [Act.put, pq_z126]; rfl))
               refine pu_z126 33 (some 51) ?_ mz126_34 rfl rfl (any_of HT_.out (by kernel_rfl)) (fun _ _ _ h => h) (Or.inl ⟨by rfl, ?_⟩) ?_ ?_ ?_
               (rotate_left; ·(intro w'; go_simp; with_reducible rfl)); (rotate_left; ·(simp only [Act.put, pq_z126]; rfl))
               refine pu_z126 34 (some 52) ?_ mz126_35 rfl rfl (any_of HT_.out (by kernel_rfl)) (fun _ _ _ h => h) (Or.inl ⟨by rfl, ?_⟩) ?_ ?_ ?_
               (rotate_left; ·(intro w'; go_simp; with_reducible rfl)); (rotate_left; ·(simp only [Act.put, pq_z126]; rfl))
               refine pu_z126 35 (some 53) ?_ mz126_36 rfl rfl (any_of HT_.out (by kernel_rfl)) (fun _ _ _ h => h) (Or.inl ⟨by rfl, ?_⟩) ?_ ?_ ?_
               (rotate_left; ·(intro w'; go_simp; with_reducible rfl)); (rotate_left; ·(simp only [Act.put, pq_z126]; rfl))
               refine pu_z126 37 (some 55) ?_ mz126_57 rfl rfl (any_of HT_.out (by kernel_rfl)) (fun _ _ _ h => h) (Or.inl ⟨by rfl, ?_⟩) ?_ ?_ ?_
               (rotate_left; ·(intro w'; go_simp; with_reducible rfl)); (rotate_left; ·(simp only [Act.put, pq_z126]; rfl))
               refine pu_z126 38 (some 56) ?_ mz126_58 rfl rfl (any_of HT_.out (by kernel_rfl)) (fun _ _ _ h => h) (Or.inl ⟨by rfl, ?_⟩) ?_ ?_ ?_
               (rotate_left; ·(intro w'; go_simp; with_reducible rfl)); (rotate_left; ·(simp only [Act.put, pq_z126]; rfl))
               refine pu_z126 39 (some 57) ?_ mz126_59 rfl rfl (any_of HT_.out (by kernel_rfl)) (fun _ _ _ h => h) (Or.inl ⟨by rfl, ?_⟩) ?_ ?_ ?_
               (rotate_left; ·(intro w'; go_simp; with_reducible rfl)); (rotate_left; ·(simp only [Act.put, pq_z126]; rfl))
               refine pu_z126 40 (some 58) ?_ mz126_60 rfl rfl (any_of HT_.out (by kernel_rfl)) (fun _ _ _ h => h) (Or.inl ⟨by rfl, ?_⟩) ?_ ?_ ?_
               (rotate_left; ·(intro w'; go_simp; with_reducible rfl)); (rotate_left; ·(simp only [Act.put, pq_z126]; rfl))
               refine pu_z126 41 (some 59) ?_ mz126_61 rfl rfl (any_of HT_.out (by kernel_rfl)) (fun _ _ _ h => h) (Or.inl ⟨by rfl, ?_⟩) ?_ ?_ ?_
               (rotate_left; ·(intro w'; go_simp; with_reducible rfl)); (rotate_left; ·(simp only [Act.put, pq_z126]; rfl))
               refine take_ (i := 36) (N := some 54) (v := ?_) (a' := ?_) mz126_42 rfl rfl (take_ofW HT_.out HW_.out (by kernel_rfl)) (fun _ _ _ h => h) (Or.inl ⟨by rfl, ?_⟩) hHeld ?_ ?_
               (rotate_left; ·(rintro w' ⟨s0, s1, s2, s3, s4, s5, s6, s7⟩; go_simp; with_reducible rfl)); (rotate_left; ·(simp only [Act.put, pq_z126]; rfl))
               refine take_ (i := 42) (N := some 60) (v := ?_) (a' := ?_) mz126_43 rfl rfl (take_ofW HT_.out HW_.out (by kernel_rfl)) (fun _ _ _ h => h) (Or.inl ⟨by rfl, ?_⟩) hHeld ?_ ?_
               (rotate_left; ·(rintro w' ⟨s0, s1, s2, s3, s4, s5, s6, s7⟩; go_simp; with_reducible rfl)); (rotate_left; ·(simp only [Act.put, pq_z126]; rfl))
               refine one_ (i := 43) (N := some 61) mz126_44 rfl rfl (one_of HT_.out (by kernel_rfl)) (by decide) (fun K hK => ?_)
               refine goes_ Try.func159 (by kernel_rfl) rfl #[.agg #[.int .i64 ((rd_T144 l0 x3_1).f0.f0), .int .i64 ((rd_T144 l0 x3_1).f0.f1)], .agg #[.int .i64 ((rd_T144 l0 (ji19)).f0.f0), .int .i64 ((rd_T144 l0 (ji19)).f0.f1)]] (by rfl) rfl rfl (by (try simp only [List.map_toArray, List.map_cons, List.map_nil]); first | done | (simp only [hji19]; rfl) | rfl | (simp only [List.length_drop, List.length_take]; rfl)) ?_
               with_reducible refine (spec_l10Less.calls ((rd_T144 l0 x3_1).f0.f0) ((rd_T144 l0 x3_1).f0.f1) ((rd_T144 l0 (ji19)).f0.f0) ((rd_T144 l0 (ji19)).f0.f1) true _ A22.out).mono ?_
               rintro e w28 ⟨rfl, hb⟩
               refine ⟨_, rfl, ?_⟩
               have n0_ := Aside0.mk (blk_below (g := gb669) (o := .cells #[.int .i64 ((rd_T144 l0 x3_1).f0.f0), .int .i64 ((rd_T144 l0 x3_1).f0.f1), .int .i64 ((rd_T144 l0 x3_1).f1), .int .i64 ((rd_T144 l0 x3_1).f2)] 144 (0, 0)) (by (with_reducible repeat (first | refine blk_drewN ?_ _ | refine blk_drew ?_ | refine blk_alloc ?_ _)); exact BK669.out) hb)
               have n1_ := Aside0.mk (below_step (by repeat (first | (with_reducible first | exact HB.out | apply below_alloc | apply pw_below_drewN | apply below_drew1 | refine below_set ?_ GE669.out) | exact HB.out)) hb)
               clear BK669
               clear HB
               have BK669 := n0_
               have HB := n1_
               clear n0_ n1_
               (try clear hb)
               (try clear hb2)
               (try clear hk)
               (try clear hi)
               refine hK.out _ _ ⟨(blk_cell BK669.out 0).trans rfl, (blk_cell BK669.out 1).trans rfl, (blk_cell BK669.out 2).trans rfl, (blk_cell BK669.out 3).trans rfl, ((HB.out.cell (World.block_lt_of_cell? w _ hw674_0)).trans hw674_0), ((HB.out.cell (World.block_lt_of_cell? w _ hw674_1)).trans hw674_1), ((HB.out.cell (World.block_lt_of_cell? w _ hw674_2)).trans hw674_2), ((HB.out.cell (World.block_lt_of_cell? w _ hw674_3)).trans hw674_3)⟩ (fun hHeld => ?_)
               clear hK K
               refine norm_ (a' := ?_) ?_ ?_
               (rotate_left; ·(show Act.put _ (some 61) _ = _; simp only [Act.put, pq_z126]; rfl))
               refine pu_z126 44 (some 62) ?_ mz126_45 rfl rfl (any_of HT_.out (by kernel_rfl)) (fun _ _ _ h => h) (Or.inl ⟨by rfl, ?_⟩) ?_ ?_ ?_
               (rotate_left; ·(intro w'; go_simp; with_reducible rfl)); (rotate_left; ·(simp only [Act.put, pq_z126]; rfl))
               refine pu_z126 45 (some 63) ?_ mz126_46 rfl rfl (any_of HT_.out (by kernel_rfl)) (fun _ _ _ h => h) (Or.inl ⟨by rfl, ?_⟩) ?_ ?_ ?_
               (rotate_left; ·(intro w'; go_simp; with_reducible rfl)); (rotate_left; ·(simp only [Act.put, pq_z126]; rfl))
               refine pu_z126 46 (some 64) ?_ mz126_47 rfl rfl (any_of HT_.out (by kernel_rfl)) (fun _ _ _ h => h) (Or.inl ⟨by rfl, ?_⟩) ?_ ?_ ?_
               (rotate_left; ·(intro w'; go_simp; with_reducible rfl)); (rotate_left; ·(simp only [Act.put, pq_z126]; rfl))
               refine pu_z126 47 (some 65) undef mz126_48 rfl rfl (any_of HT_.out (by kernel_rfl)) (fun _ _ _ h => h) (Or.inr ⟨by rfl, rfl⟩) ?_ ?_ ?_
               (rotate_left; ·(simp only [Act.put, pq_z126]; rfl))
               refine pu_z126 48 (some 66) undef mz126_49 rfl rfl (any_of HT_.out (by kernel_rfl)) (fun _ _ _ h => h) (Or.inr ⟨by rfl, rfl⟩) ?_ ?_ ?_
               (rotate_left; ·(simp only [Act.put, pq_z126]; rfl))
               refine pu_z126 49 (some 67) undef mz126_50 rfl rfl (any_of HT_.out (by kernel_rfl)) (fun _ _ _ h => h) (Or.inr ⟨by rfl, rfl⟩) ?_ ?_ ?_
               (rotate_left; ·(simp only [Act.put, pq_z126]; rfl))
               refine pu_z126 50 (some 68) undef mz126_51 rfl rfl (any_of HT_.out (by kernel_rfl)) (fun _ _ _ h => h) (Or.inr ⟨by rfl, rfl⟩) ?_ ?_ ?_
               (rotate_left; ·(simp only [Act.put, pq_z126]; rfl))
               refine pu_z126 51 (some 69) undef mz126_52 rfl rfl (any_of HT_.out (by kernel_rfl)) (fun _ _ _ h => h) (Or.inr ⟨by rfl, rfl⟩) ?_ ?_ ?_
               (rotate_left; ·(simp only [Act.put, pq_z126]; rfl))
               refine pu_z126 52 (some 70) undef mz126_53 rfl rfl (any_of HT_.out (by kernel_rfl)) (fun _ _ _ h => h) (Or.inr ⟨by rfl, rfl⟩) ?_ ?_ ?_
               (rotate_left; ·(simp only [Act.put, pq_z126]; rfl))
               refine pu_z126 53 (some 71) undef mz126_54 rfl rfl (any_of HT_.out (by kernel_rfl)) (fun _ _ _ h => h) (Or.inr ⟨by rfl, rfl⟩) ?_ ?_ ?_
               (rotate_left; ·(simp only [Act.put, pq_z126]; rfl))
               refine pu_z126 54 (some 72) undef mz126_55 rfl rfl (any_of HT_.out (by kernel_rfl)) (fun _ _ _ h => h) (Or.inr ⟨by rfl, rfl⟩) ?_ ?_ ?_
               (rotate_left; ·(simp only [Act.put, pq_z126]; rfl))
               refine pu_z126 55 (some 73) ?_ mz126_56 rfl rfl (any_of HT_.out (by kernel_rfl)) (fun _ _ _ h => h) (Or.inl ⟨by rfl, ?_⟩) ?_ ?_ ?_
               (rotate_left; ·(intro w'; go_simp; with_reducible rfl)); (rotate_left; ·(simp only [Act.put, pq_z126]; rfl))
               refine done_ (done_of HT_.out (by kernel_rfl)) ?_
               try go_wp2
               go_ret
               exact ⟨by first | rfl | (simp [errW_none, errW_some] <;> rfl) | (simp only [← hji19]; first | rfl | (simp [errW_none, errW_some] <;> rfl)) | (simp [*, errW_none, errW_some] <;> rfl), by repeat (first | (with_reducible first | exact HB.out | apply below_alloc | apply pw_below_drewN | apply below_drew1 | refine below_set ?_ GE669.out) | exact HB.out)⟩
              ·replace c23 := Bool.eq_false_iff.mpr c23
               subst c23
               have H1 : (if x3_1 ≤ (l0.length : Int) then ((spec_l10Known.f k1 (l0.take (x3_1 : Int).toNat) ((rd_T144 l0 x3_1).f0.f0) ((rd_T144 l0 x3_1).f0.f1) ((rd_T144 l0 x3_1).f1)).bind fun t680 => (if t680 = true then (some false) else (spec_l10OK.l0 k1 l0 (wrap64 (x3_1 + 1))))) else (none)) = some r := by rw [if_neg (show ¬ (false = true) by decide)] at H; exact H
               clear H
               have H := H1
               clear H1
               have c29b0 := eq_true (of_decide_eq_true (by first | (with_reducible assumption) | assumption) : 0 ≤ x3_1)
               by_cases c30 : x3_1 ≤ (l0.length : Int)
               ·rw [if_pos c30] at H
                have c30b0 := eq_true c30
                have c30b1 : decide (x3_1 ≤ (l0.length : Int)) = true := decide_eq_true c30
                clear c30
                obtain ⟨y676, hy676⟩ : ∃ y_ : List (S144), y_ = (l0.take (x3_1 : Int).toNat) := ⟨_, rfl⟩
                replace H : ((spec_l10Known.f k1 y676 ((rd_T144 l0 x3_1).f0.f0) ((rd_T144 l0 x3_1).f0.f1) ((rd_T144 l0 x3_1).f1)).bind fun t680 => (if t680 = true then (some false) else (spec_l10OK.l0 k1 l0 (wrap64 (x3_1 + 1))))) = some r := by first | (rw [hy676]; with_reducible exact H) | (have H2_ := (Option.bind_some _ _).symm.trans H; rw [hy676]; with_reducible exact H2_) | (have H2_ := (Option.bind_some _ _).symm.trans H; with_reducible exact H2_) | with_reducible exact H | (rw [hy676]; exact H) | exact H
                have Ny676 := Aside0.mk hy676
                clear hy676
                replace H := Option.bind_eq_some_iff.mp H
                obtain ⟨t680, A310, H⟩ := H
                replace H : (if t680 = true then (some false) else (spec_l10OK.l0 k1 l0 (wrap64 (x3_1 + 1)))) = some r := H
                have A31 := Aside0.mk A310
                clear A310
                by_cases c32 : t680 = true
                ·subst c32
                 have H1 : (some false) = some r := by rw [if_pos rfl] at H; exact H
                 clear H
                 have H := H1
                 clear H1
                 obtain rfl := Option.some.inj H
                 have p668 : 0 ≤ (x3_1 : Int) := of_decide_eq_true (by first | (with_reducible assumption) | assumption)
                 have q668 : x3_1 < (l0.length : Int) := of_decide_eq_true (by first | (with_reducible assumption) | assumption)
                 obtain ⟨ad668, e668, hx668_0, hx668_1, hx668_2, hx668_3⟩ := at_T144 HR0.out x3_1 p668 q668
                 cases e668
                 replace hx668_0 := (HB.out.cell (World.block_lt_of_cell? w _ hx668_0)).trans hx668_0
                 replace hx668_1 := (HB.out.cell (World.block_lt_of_cell? w _ hx668_1)).trans hx668_1
                 replace hx668_2 := (HB.out.cell (World.block_lt_of_cell? w _ hx668_2)).trans hx668_2
                 replace hx668_3 := (HB.out.cell (World.block_lt_of_cell? w _ hx668_3)).trans hx668_3
                 replace p668 := eq_true p668
                 replace q668 := eq_true q668
                 try go_wp2_with (first | ((with_reducible refine gate_dst (N := 4) rfl ?_); refine box_event ?hg (N := 4) ?hd (cs := #[.int .i64 0, .int .i64 0, .int .i64 0, .int .i64 0]) (t := 144) ?hr ?_; (case hd => rfl); (case hg => rfl); (case hr => first | (go_simp; done) | (go_simp; rfl)); intro gb669 hg w33 hbox hb; have n0_ := Aside0.mk (below_step (by repeat (first | (with_reducible first | exact HB.out | apply below_alloc | apply pw_below_drewN | apply below_drew1) | exact HB.out)) hb); have n1_ := Aside0.mk (hbox); have n2_ := Aside0.mk ((by rw [hg]; exact (below_size (by repeat (first | (with_reducible first | exact HB.out | apply below_alloc | apply pw_below_drewN | apply below_drew1) | exact HB.out))) : w.heap.size ≤ gb669)); have n3_ := Aside0.mk ((by rw [hg]; exact (below_size (by repeat (first | (with_reducible first | exact HB.out | apply below_alloc | apply pw_below_drewN | apply below_drew1) | exact HB.out))) : w.heap.size ≤ gb669)); clear HB; have HB := n0_; have BK669 := n1_; have GW669 := n2_; have GE669 := n3_; clear n0_ n1_ n2_ n3_; clear hb hbox hg; have hcz34_0 : w33.cell? ⟨gb669, 0, none⟩ = some (.int .i64 0) := (blk_cell BK669.out 0).trans rfl; have hcz34_1 : w33.cell? ⟨gb669, 1, none⟩ = some (.int .i64 0) := (blk_cell BK669.out 1).trans rfl; have hcz34_2 : w33.cell? ⟨gb669, 2, none⟩ = some (.int .i64 0) := (blk_cell BK669.out 2).trans rfl; have hcz34_3 : w33.cell? ⟨gb669, 3, none⟩ = some (.int .i64 0) := (blk_cell BK669.out 3).trans rfl; have hfz34_0 := blk_frozen BK669.out 0; have hfz34_1 := blk_frozen BK669.out 1; have hfz34_2 := blk_frozen BK669.out 2; have hfz34_3 := blk_frozen BK669.out 3))
                 have n0_ : Aside0 (((((w33.setCell ⟨gb669, 0, none⟩ (.int .i64 ((rd_T144 l0 x3_1).f0.f0))).setCell ⟨gb669, 1, none⟩ (.int .i64 ((rd_T144 l0 x3_1).f0.f1))).setCell ⟨gb669, 2, none⟩ (.int .i64 ((rd_T144 l0 x3_1).f1))).setCell ⟨gb669, 3, none⟩ (.int .i64 ((rd_T144 l0 x3_1).f2))).heap[gb669]? = some (.cells #[.int .i64 ((rd_T144 l0 x3_1).f0.f0), .int .i64 ((rd_T144 l0 x3_1).f0.f1), .int .i64 ((rd_T144 l0 x3_1).f1), .int .i64 ((rd_T144 l0 x3_1).f2)] 144 (0, 0))) := ⟨by (with_reducible repeat (first | refine blk_drewN ?_ _ | refine blk_drew ?_ | refine blk_alloc ?_ _)); refine blk_put (cs := #[.int .i64 ((rd_T144 l0 x3_1).f0.f0), .int .i64 ((rd_T144 l0 x3_1).f0.f1), .int .i64 ((rd_T144 l0 x3_1).f1), .int .i64 0]) ?_ 3 _ rfl; (with_reducible repeat (first | refine blk_drewN ?_ _ | refine blk_drew ?_ | refine blk_alloc ?_ _)); refine blk_put (cs := #[.int .i64 ((rd_T144 l0 x3_1).f0.f0), .int .i64 ((rd_T144 l0 x3_1).f0.f1), .int .i64 0, .int .i64 0]) ?_ 2 _ rfl; (with_reducible repeat (first | refine blk_drewN ?_ _ | refine blk_drew ?_ | refine blk_alloc ?_ _)); refine blk_put (cs := #[.int .i64 ((rd_T144 l0 x3_1).f0.f0), .int .i64 0, .int .i64 0, .int .i64 0]) ?_ 1 _ rfl; (with_reducible repeat (first | refine blk_drewN ?_ _ | refine blk_drew ?_ | refine blk_alloc ?_ _)); refine blk_put (cs := #[.int .i64 0, .int .i64 0, .int .i64 0, .int .i64 0]) ?_ 0 _ rfl; (with_reducible repeat (first | refine blk_drewN ?_ _ | refine blk_drew ?_ | refine blk_alloc ?_ _)); exact BK669.out⟩
                 have n1_ : Aside0 (Below w.heap.size w ((((w33.setCell ⟨gb669, 0, none⟩ (.int .i64 ((rd_T144 l0 x3_1).f0.f0))).setCell ⟨gb669, 1, none⟩ (.int .i64 ((rd_T144 l0 x3_1).f0.f1))).setCell ⟨gb669, 2, none⟩ (.int .i64 ((rd_T144 l0 x3_1).f1))).setCell ⟨gb669, 3, none⟩ (.int .i64 ((rd_T144 l0 x3_1).f2)))) := ⟨by repeat (first | (with_reducible first | exact HB.out | apply below_alloc | apply pw_below_drewN | apply below_drew1 | refine below_set ?_ GE669.out) | exact HB.out)⟩
                 (try clear BK669)
                 (try clear HB)
                 generalize ((((w33.setCell ⟨gb669, 0, none⟩ (.int .i64 ((rd_T144 l0 x3_1).f0.f0))).setCell ⟨gb669, 1, none⟩ (.int .i64 ((rd_T144 l0 x3_1).f0.f1))).setCell ⟨gb669, 2, none⟩ (.int .i64 ((rd_T144 l0 x3_1).f1))).setCell ⟨gb669, 3, none⟩ (.int .i64 ((rd_T144 l0 x3_1).f2))) = w35 at n0_ n1_ ⊢
                 have BK669 := n0_
                 have HB := n1_
                 clear n0_ n1_
                 have n0_ := Aside0.mk (blk_drew BK669.out)
                 have n1_ := Aside0.mk (below_drew1 HB.out)
                 clear BK669
                 clear HB
                 have BK669 := n0_
                 have HB := n1_
                 clear n0_ n1_
                 have p674 : 0 ≤ ((ji19) : Int) := of_decide_eq_true (by first | (with_reducible assumption) | assumption)
                 have q674 : (ji19) < (l0.length : Int) := of_decide_eq_true (by first | (with_reducible assumption) | assumption)
                 obtain ⟨ad674, e674, hx674_0, hx674_1, hx674_2, hx674_3⟩ := at_T144 HR0.out (ji19) p674 q674
                 have hw674_3 := hx674_3
                 have hw674_2 := hx674_2
                 have hw674_1 := hx674_1
                 have hw674_0 := hx674_0
                 obtain rfl : ad668 = ad674 := (by injection e674)
                 replace hx674_0 := (HB.out.cell (World.block_lt_of_cell? w _ hx674_0)).trans hx674_0
                 replace hx674_1 := (HB.out.cell (World.block_lt_of_cell? w _ hx674_1)).trans hx674_1
                 replace hx674_2 := (HB.out.cell (World.block_lt_of_cell? w _ hx674_2)).trans hx674_2
                 replace hx674_3 := (HB.out.cell (World.block_lt_of_cell? w _ hx674_3)).trans hx674_3
                 replace p674 := eq_true p674
                 replace q674 := eq_true q674
                 refine start_ (n := 56) (S := fun w' => w'.cell? ⟨gb669, 0, none⟩ = some (.int .i64 ((rd_T144 l0 x3_1).f0.f0)) ∧ w'.cell? ⟨gb669, 1, none⟩ = some (.int .i64 ((rd_T144 l0 x3_1).f0.f1)) ∧ w'.cell? ⟨gb669, 2, none⟩ = some (.int .i64 ((rd_T144 l0 x3_1).f1)) ∧ w'.cell? ⟨gb669, 3, none⟩ = some (.int .i64 ((rd_T144 l0 x3_1).f2)) ∧ w'.cell? (ad668.add (((ji19)).toNat * 4)) = some (.int .i64 ((rd_T144 l0 (ji19)).f0.f0)) ∧ w'.cell? ⟨(ad668.add (((ji19)).toNat * 4)).block, (ad668.add (((ji19)).toNat * 4)).off + 1, none⟩ = some (.int .i64 ((rd_T144 l0 (ji19)).f0.f1)) ∧ w'.cell? ⟨(ad668.add (((ji19)).toNat * 4)).block, (ad668.add (((ji19)).toNat * 4)).off + 2, none⟩ = some (.int .i64 ((rd_T144 l0 (ji19)).f1)) ∧ w'.cell? ⟨(ad668.add (((ji19)).toNat * 4)).block, (ad668.add (((ji19)).toNat * 4)).off + 3, none⟩ = some (.int .i64 ((rd_T144 l0 (ji19)).f2))) (ds := []) mz126_0 (by kernel_rfl) rfl rfl ⟨(blk_cell BK669.out 0).trans rfl, (blk_cell BK669.out 1).trans rfl, (blk_cell BK669.out 2).trans rfl, (blk_cell BK669.out 3).trans rfl, ((HB.out.cell (World.block_lt_of_cell? w _ hw674_0)).trans hw674_0), ((HB.out.cell (World.block_lt_of_cell? w _ hw674_1)).trans hw674_1), ((HB.out.cell (World.block_lt_of_cell? w _ hw674_2)).trans hw674_2), ((HB.out.cell (World.block_lt_of_cell? w _ hw674_3)).trans hw674_3)⟩ (fun hHeld => ?_); refine with_tabW spec_l10OK.tab7 spec_l10OK.bits7 (fun HT_ HW_ => ?_)
                 generalize w35.drew = w36 at BK669 HB hx674_0 hx674_1 hx674_2 hx674_3 hHeld ⊢
                 refine pu_z126 0 (some 18) ?_ mz126_1 rfl rfl (any_of HT_.out (by kernel_rfl)) (fun _ _ _ h => h) (Or.inl ⟨by rfl, ?_⟩) ?_ ?_ ?_
                 (rotate_left; ·(intro w'; go_simp; with_reducible rfl)); (rotate_left; ·(simp only [Act.put, pq_z126]; rfl))
                 refine pu_z126 1 (some 19) ?_ mz126_2 rfl rfl (any_of HT_.out (by kernel_rfl)) (fun _ _ _ h => h) (Or.inl ⟨by rfl, ?_⟩) ?_ ?_ ?_
                 (rotate_left; ·(intro w'; go_simp; with_reducible rfl)); (rotate_left; ·(simp only [Act.put, pq_z126]; rfl))
                 refine take_ (i := 2) (N := some 20) (v := ?_) (a' := ?_) mz126_3 rfl rfl (take_ofW HT_.out HW_.out (by kernel_rfl)) (fun _ _ _ h => h) (Or.inl ⟨by rfl, ?_⟩) hHeld ?_ ?_
                 (rotate_left; ·(rintro w' ⟨s0, s1, s2, s3, s4, s5, s6, s7⟩; go_simp; with_reducible rfl)); (rotate_left; ·(simp only [Act.put, pq_z126]; rfl))
                 refine one_ (i := 3) (N := some 21) mz126_4 rfl rfl (one_of HT_.out (by kernel_rfl)) (by decide) (fun K hK => ?_)
                 refine goes_ Try.func96 (by kernel_rfl) rfl #[.int .i64 ((rd_T144 l0 x3_1).f0.f0), .int .i64 1, .int .i64 4] (by rfl) rfl rfl (by (try simp only [List.map_toArray, List.map_cons, List.map_nil]); first | done | rfl | (simp only [List.length_drop, List.length_take]; rfl)) ?_
                 with_reducible refine (spec_l00In.calls ((rd_T144 l0 x3_1).f0.f0) 1 4 true _ A5.out).mono ?_
                 rintro e w' ⟨rfl, ⟨nd, rfl⟩⟩
                 refine ⟨_, rfl, ?_⟩
                 refine hK.out _ _ ⟨(blk_cell BK669.out 0).trans rfl, (blk_cell BK669.out 1).trans rfl, (blk_cell BK669.out 2).trans rfl, (blk_cell BK669.out 3).trans rfl, ((HB.out.cell (World.block_lt_of_cell? w _ hw674_0)).trans hw674_0), ((HB.out.cell (World.block_lt_of_cell? w _ hw674_1)).trans hw674_1), ((HB.out.cell (World.block_lt_of_cell? w _ hw674_2)).trans hw674_2), ((HB.out.cell (World.block_lt_of_cell? w _ hw674_3)).trans hw674_3)⟩ (fun hHeld => ?_)
                 clear hK K
                 refine norm_ (a' := ?_) ?_ ?_
                 (rotate_left; ·(show Act.put _ (some 21) _ = _; simp only [Act.put, pq_z126]; rfl))
                 refine pu_z126 4 (some 22) ?_ mz126_5 rfl rfl (any_of HT_.out (by kernel_rfl)) (fun _ _ _ h => h) (Or.inl ⟨by rfl, ?_⟩) ?_ ?_ ?_
                 (rotate_left; ·(intro w'; go_simp; with_reducible rfl)); (rotate_left; ·(simp only [Act.put, pq_z126]; rfl))
                 refine pu_z126 5 (some 23) ?_ mz126_6 rfl rfl (any_of HT_.out (by kernel_rfl)) (fun _ _ _ h => h) (Or.inl ⟨by rfl, ?_⟩) ?_ ?_ ?_
                 (rotate_left; ·(intro w'; go_simp; with_reducible rfl)); (rotate_left; ·(simp only [Act.put, pq_z126]; rfl))
                 refine pu_z126 6 (some 24) ?_ mz126_7 rfl rfl (any_of HT_.out (by kernel_rfl)) (fun _ _ _ h => h) (Or.inl ⟨by rfl, ?_⟩) ?_ ?_ ?_
                 (rotate_left; ·(intro w'; go_simp; with_reducible rfl)); (rotate_left; ·(simp only [Act.put, pq_z126]; rfl))
                 refine pu_z126 7 (some 25) ?_ mz126_8 rfl rfl (any_of HT_.out (by kernel_rfl)) (fun _ _ _ h => h) (Or.inl ⟨by rfl, ?_⟩) ?_ ?_ ?_
                 (rotate_left; ·(intro w'; go_simp; with_reducible rfl)); (rotate_left; ·(simp only [Act.put, pq_z126]; rfl))
                 refine take_ (i := 8) (N := some 26) (v := ?_) (a' := ?_) mz126_9 rfl rfl (take_ofW HT_.out HW_.out (by kernel_rfl)) (fun _ _ _ h => h) (Or.inl ⟨by rfl, ?_⟩) hHeld ?_ ?_
                 (rotate_left; ·(rintro w' ⟨s0, s1, s2, s3, s4, s5, s6, s7⟩; go_simp; with_reducible rfl)); (rotate_left; ·(simp only [Act.put, pq_z126]; rfl))
                 refine one_ (i := 9) (N := some 27) mz126_10 rfl rfl (one_of HT_.out (by kernel_rfl)) (by decide) (fun K hK => ?_)
                 refine goes_ Try.func96 (by kernel_rfl) rfl #[.int .i64 ((rd_T144 l0 x3_1).f0.f1), .int .i64 0, .int .i64 15] (by rfl) rfl rfl (by (try simp only [List.map_toArray, List.map_cons, List.map_nil]); first | done | rfl | (simp only [List.length_drop, List.length_take]; rfl)) ?_
                 with_reducible refine (spec_l00In.calls ((rd_T144 l0 x3_1).f0.f1) 0 15 true _ A7.out).mono ?_
                 rintro e w' ⟨rfl, ⟨nd, rfl⟩⟩
                 refine ⟨_, rfl, ?_⟩
                 refine hK.out _ _ ⟨(blk_cell BK669.out 0).trans rfl, (blk_cell BK669.out 1).trans rfl, (blk_cell BK669.out 2).trans rfl, (blk_cell BK669.out 3).trans rfl, ((HB.out.cell (World.block_lt_of_cell? w _ hw674_0)).trans hw674_0), ((HB.out.cell (World.block_lt_of_cell? w _ hw674_1)).trans hw674_1), ((HB.out.cell (World.block_lt_of_cell? w _ hw674_2)).trans hw674_2), ((HB.out.cell (World.block_lt_of_cell? w _ hw674_3)).trans hw674_3)⟩ (fun hHeld => ?_)
                 clear hK K
                 refine norm_ (a' := ?_) ?_ ?_
                 (rotate_left; ·(show Act.put _ (some 27) _ = _; simp only [Act.put, pq_z126]; rfl))
                 refine pu_z126 10 (some 28) ?_ mz126_11 rfl rfl (any_of HT_.out (by kernel_rfl)) (fun _ _ _ h => h) (Or.inl ⟨by rfl, ?_⟩) ?_ ?_ ?_
                 (rotate_left; ·(intro w'; go_simp; with_reducible rfl)); (rotate_left; ·(simp only [Act.put, pq_z126]; rfl))
                 refine pu_z126 11 (some 29) ?_ mz126_12 rfl rfl (any_of HT_.out (by kernel_rfl)) (fun _ _ _ h => h) (Or.inl ⟨by rfl, ?_⟩) ?_ ?_ ?_
                 (rotate_left; ·(intro w'; go_simp; with_reducible rfl)); (rotate_left; ·(simp only [Act.put, pq_z126]; rfl))
                 refine pu_z126 12 (some 30) ?_ mz126_13 rfl rfl (any_of HT_.out (by kernel_rfl)) (fun _ _ _ h => h) (Or.inl ⟨by rfl, ?_⟩) ?_ ?_ ?_
                 (rotate_left; ·(intro w'; go_simp; with_reducible rfl)); (rotate_left; ·(simp only [Act.put, pq_z126]; rfl))
                 refine pu_z126 13 (some 31) ?_ mz126_14 rfl rfl (any_of HT_.out (by kernel_rfl)) (fun _ _ _ h => h) (Or.inl ⟨by rfl, ?_⟩) ?_ ?_ ?_
                 (rotate_left; ·(intro w'; go_simp; with_reducible rfl)); (rotate_left; ·(simp only [Act.put, pq_z126]; rfl))
                 refine take_ (i := 14) (N := some 32) (v := ?_) (a' := ?_) mz126_15 rfl rfl (take_ofW HT_.out HW_.out (by kernel_rfl)) (fun _ _ _ h => h) (Or.inl ⟨by rfl, ?_⟩) hHeld ?_ ?_
                 (rotate_left; ·(rintro w' ⟨s0, s1, s2, s3, s4, s5, s6, s7⟩; go_simp; with_reducible rfl)); (rotate_left; ·(simp only [Act.put, pq_z126]; rfl))
                 refine one_ (i := 15) (N := some 33) mz126_16 rfl rfl (one_of HT_.out (by kernel_rfl)) (by decide) (fun K hK => ?_)
                 refine goes_ Try.func96 (by kernel_rfl) rfl #[.int .i64 ((rd_T144 l0 x3_1).f1), .int .i64 0, .int .i64 15] (by rfl) rfl rfl (by (try simp only [List.map_toArray, List.map_cons, List.map_nil]); first | done | rfl | (simp only [List.length_drop, List.length_take]; rfl)) ?_
                 with_reducible refine (spec_l00In.calls ((rd_T144 l0 x3_1).f1) 0 15 true _ A9.out).mono ?_
                 rintro e w' ⟨rfl, ⟨nd, rfl⟩⟩
                 refine ⟨_, rfl, ?_⟩
                 refine hK.out _ _ ⟨(blk_cell BK669.out 0).trans rfl, (blk_cell BK669.out 1).trans rfl, (blk_cell BK669.out 2).trans rfl, (blk_cell BK669.out 3).trans rfl, ((HB.out.cell (World.block_lt_of_cell? w _ hw674_0)).trans hw674_0), ((HB.out.cell (World.block_lt_of_cell? w _ hw674_1)).trans hw674_1), ((HB.out.cell (World.block_lt_of_cell? w _ hw674_2)).trans hw674_2), ((HB.out.cell (World.block_lt_of_cell? w _ hw674_3)).trans hw674_3)⟩ (fun hHeld => ?_)
                 clear hK K
                 refine norm_ (a' := ?_) ?_ ?_
                 (rotate_left; ·(show Act.put _ (some 33) _ = _; simp only [Act.put, pq_z126]; rfl))
                 refine pu_z126 16 (some 34) ?_ mz126_17 rfl rfl (any_of HT_.out (by kernel_rfl)) (fun _ _ _ h => h) (Or.inl ⟨by rfl, ?_⟩) ?_ ?_ ?_
                 (rotate_left; ·(intro w'; go_simp; with_reducible rfl)); (rotate_left; ·(simp only [Act.put, pq_z126]; rfl))
                 refine pu_z126 17 (some 35) ?_ mz126_18 rfl rfl (any_of HT_.out (by kernel_rfl)) (fun _ _ _ h => h) (Or.inl ⟨by rfl, ?_⟩) ?_ ?_ ?_
                 (rotate_left; ·(intro w'; go_simp; with_reducible rfl)); (rotate_left; ·(simp only [Act.put, pq_z126]; rfl))
                 refine pu_z126 18 (some 36) ?_ mz126_19 rfl rfl (any_of HT_.out (by kernel_rfl)) (fun _ _ _ h => h) (Or.inl ⟨by rfl, ?_⟩) ?_ ?_ ?_
                 (rotate_left; ·(intro w'; go_simp; with_reducible rfl)); (rotate_left; ·(simp only [Act.put, pq_z126]; rfl))
                 refine pu_z126 19 (some 37) ?_ mz126_20 rfl rfl (any_of HT_.out (by kernel_rfl)) (fun _ _ _ h => h) (Or.inl ⟨by rfl, ?_⟩) ?_ ?_ ?_
                 (rotate_left; ·(intro w'; go_simp; with_reducible rfl)); (rotate_left; ·(simp only [Act.put, pq_z126]; rfl))
                 refine take_ (i := 20) (N := some 38) (v := ?_) (a' := ?_) mz126_21 rfl rfl (take_ofW HT_.out HW_.out (by kernel_rfl)) (fun _ _ _ h => h) (Or.inl ⟨by rfl, ?_⟩) hHeld ?_ ?_
                 (rotate_left; ·(rintro w' ⟨s0, s1, s2, s3, s4, s5, s6, s7⟩; go_simp; with_reducible rfl)); (rotate_left; ·(simp only [Act.put, pq_z126]; rfl))
                 refine one_ (i := 21) (N := some 39) mz126_22 rfl rfl (one_of HT_.out (by kernel_rfl)) (by decide) (fun K hK => ?_)
                 refine goes_ Try.func96 (by kernel_rfl) rfl #[.int .i64 ((rd_T144 l0 x3_1).f2), .int .i64 0, .int .i64 15] (by rfl) rfl rfl (by (try simp only [List.map_toArray, List.map_cons, List.map_nil]); first | done | rfl | (simp only [List.length_drop, List.length_take]; rfl)) ?_
                 with_reducible refine (spec_l00In.calls ((rd_T144 l0 x3_1).f2) 0 15 true _ A11.out).mono ?_
                 rintro e w' ⟨rfl, ⟨nd, rfl⟩⟩
                 refine ⟨_, rfl, ?_⟩
                 refine hK.out _ _ ⟨(blk_cell BK669.out 0).trans rfl, (blk_cell BK669.out 1).trans rfl, (blk_cell BK669.out 2).trans rfl, (blk_cell BK669.out 3).trans rfl, ((HB.out.cell (World.block_lt_of_cell? w _ hw674_0)).trans hw674_0), ((HB.out.cell (World.block_lt_of_cell? w _ hw674_1)).trans hw674_1), ((HB.out.cell (World.block_lt_of_cell? w _ hw674_2)).trans hw674_2), ((HB.out.cell (World.block_lt_of_cell? w _ hw674_3)).trans hw674_3)⟩ (fun hHeld => ?_)
                 clear hK K
                 refine norm_ (a' := ?_) ?_ ?_
                 (rotate_left; ·(show Act.put _ (some 39) _ = _; simp only [Act.put, pq_z126]; rfl))
                 refine pu_z126 22 (some 40) ?_ mz126_23 rfl rfl (any_of HT_.out (by kernel_rfl)) (fun _ _ _ h => h) (Or.inl ⟨by rfl, ?_⟩) ?_ ?_ ?_
                 (rotate_left; ·(intro w'; go_simp; with_reducible rfl)); (rotate_left; ·(simp only [Act.put, pq_z126]; rfl))
                 refine pu_z126 23 (some 41) ?_ mz126_24 rfl rfl (any_of HT_.out (by kernel_rfl)) (fun _ _ _ h => h) (Or.inl ⟨by rfl, ?_⟩) ?_ ?_ ?_
                 (rotate_left; ·(intro w'; go_simp; with_reducible rfl)); (rotate_left; ·(simp only [Act.put, pq_z126]; rfl))
                 refine pu_z126 24 (some 42) ?_ mz126_25 rfl rfl (any_of HT_.out (by kernel_rfl)) (fun _ _ _ h => h) (Or.inl ⟨by rfl, ?_⟩) ?_ ?_ ?_
                 (rotate_left; ·(intro w'; go_simp; with_reducible rfl)); (rotate_left; ·(simp only [Act.put, pq_z126]; rfl))
                 refine pu_z126 25 (some 43) ?_ mz126_26 rfl rfl (any_of HT_.out (by kernel_rfl)) (fun _ _ _ h => h) (Or.inl ⟨by rfl, ?_⟩) ?_ ?_ ?_
                 (rotate_left; ·(intro w'; go_simp; with_reducible rfl)); (rotate_left; ·(simp only [Act.put, pq_z126]; rfl))
                 refine pu_z126 27 (some 45) ?_ mz126_27 rfl rfl (any_of HT_.out (by kernel_rfl)) (fun _ _ _ h => h) (Or.inl ⟨by rfl, ?_⟩) ?_ ?_ ?_
                 (rotate_left; ·(intro w'; go_simp; with_reducible rfl)); (rotate_left; ·(simp only [Act.put, pq_z126]; rfl))
                 refine take_ (i := 26) (N := some 44) (v := ?_) (a' := ?_) mz126_28 rfl rfl (take_ofW HT_.out HW_.out (by kernel_rfl)) (fun _ _ _ h => h) (Or.inl ⟨by rfl, ?_⟩) hHeld ?_ ?_
                 (rotate_left; ·(rintro w' ⟨s0, s1, s2, s3, s4, s5, s6, s7⟩; go_simp; with_reducible rfl)); (rotate_left; ·(simp only [Act.put, pq_z126]; rfl))
                 refine take_ (i := 28) (N := some 46) (v := ?_) (a' := ?_) mz126_29 rfl rfl (take_ofW HT_.out HW_.out (by kernel_rfl)) (fun _ _ _ h => h) (Or.inl ⟨by rfl, ?_⟩) hHeld ?_ ?_
                 (rotate_left; ·(rintro w' ⟨s0, s1, s2, s3, s4, s5, s6, s7⟩; go_simp; with_reducible rfl)); (rotate_left; ·(simp only [Act.put, pq_z126]; rfl))
                 refine pu_z126 29 (some 47) ?_ mz126_30 rfl rfl (any_of HT_.out (by kernel_rfl)) (fun _ _ _ h => h) (Or.inl ⟨by rfl, ?_⟩) ?_ ?_ ?_
                 (rotate_left; ·(intro w'; go_simp; with_reducible rfl)); (rotate_left; ·(simp only [Act.put, pq_z126]; rfl))
                 refine pu_z126 30 (some 48) ?_ mz126_31 rfl rfl (any_of HT_.out (by kernel_rfl)) (fun _ _ _ h => h) (Or.inl ⟨by rfl, ?_⟩) ?_ ?_ ?_
                 (rotate_left; ·(intro w'; go_simp; with_reducible rfl)); (rotate_left; ·(simp only [Act.put, pq_z126]; rfl))
                 refine pu_z126 31 (some 49) ?_ mz126_32 rfl rfl (any_of HT_.out (by kernel_rfl)) (fun _ _ _ h => h) (Or.inl ⟨by rfl, ?_⟩) ?_ ?_ ?_
                 (rotate_left; ·(intro w'; go_simp; with_reducible rfl)); (rotate_left; ·(simp only [Act.put, pq_z126]; rfl))
                 refine pu_z126 32 (some 50) ?_ mz126_33 rfl rfl (any_of HT_.out (by kernel_rfl)) (fun _ _ _ h => h) (Or.inl ⟨by rfl, ?_⟩) ?_ ?_ ?_
                 (rotate_left; ·(intro w'; go_simp; with_reducible rfl)); (rotate_left; ·(simp only [Act.put, pq_z126]; rfl))
                 refine pu_z126 33 (some 51) ?_ mz126_34 rfl rfl (any_of HT_.out (by kernel_rfl)) (fun _ _ _ h => h) (Or.inl ⟨by rfl, ?_⟩) ?_ ?_ ?_
                 (rotate_left; ·(intro w'; go_simp; with_reducible rfl)); (rotate_left; ·(simp only [Act.put, pq_z126]; rfl))
                 refine pu_z126 34 (some 52) ?_ mz126_35 rfl rfl (any_of HT_.out (by kernel_rfl)) (fun _ _ _ h => h) (Or.inl ⟨by rfl, ?_⟩) ?_ ?_ ?_
                 (rotate_left; ·(intro w'; go_simp; with_reducible rfl)); (rotate_left; ·(simp only [Act.put, pq_z126]; rfl))
                 refine pu_z126 35 (some 53) ?_ mz126_36 rfl rfl (any_of HT_.out (by kernel_rfl)) (fun _ _ _ h => h) (Or.inl ⟨by rfl, ?_⟩) ?_ ?_ ?_
                 (rotate_left; ·(intro w'; go_simp; with_reducible rfl)); (rotate_left; ·(simp only [Act.put, pq_z126]; rfl))
                 refine pu_z126 37 (some 55) ?_ mz126_57 rfl rfl (any_of HT_.out (by kernel_rfl)) (fun _ _ _ h => h) (Or.inl ⟨by rfl, ?_⟩) ?_ ?_ ?_
                 (rotate_left; ·(intro w'; go_simp; with_reducible rfl)); (rotate_left; ·(simp only [Act.put, pq_z126]; rfl))
                 refine pu_z126 38 (some 56) ?_ mz126_58 rfl rfl (any_of HT_.out (by kernel_rfl)) (fun _ _ _ h => h) (Or.inl ⟨by rfl, ?_⟩) ?_ ?_ ?_
                 (rotate_left; ·(intro w'; go_simp; with_reducible rfl)); (rotate_left; ·(simp only [Act.put, pq_z126]; rfl))
                 refine pu_z126 39 (some 57) ?_ mz126_59 rfl rfl (any_of HT_.out (by kernel_rfl)) (fun _ _ _ h => h) (Or.inl ⟨by rfl, ?_⟩) ?_ ?_ ?_
                 (rotate_left; ·(intro w'; go_simp; with_reducible rfl)); (rotate_left; ·(simp only [Act.put, pq_z126]; rfl))
                 refine pu_z126 40 (some 58) ?_ mz126_60 rfl rfl (any_of HT_.out (by kernel_rfl)) (fun _ _ _ h => h) (Or.inl ⟨by rfl, ?_⟩) ?_ ?_ ?_
                 (rotate_left; ·(intro w'; go_simp; with_reducible rfl)); (rotate_left; ·(simp only [Act.put, pq_z126]; rfl))
                 refine pu_z126 41 (some 59) ?_ mz126_61 rfl rfl (any_of HT_.out (by kernel_rfl)) (fun _ _ _ h => h) (Or.inl ⟨by rfl, ?_⟩) ?_ ?_ ?_
                 (rotate_left; ·(intro w'; go_simp; with_reducible rfl)); (rotate_left; ·(simp only [Act.put, pq_z126]; rfl))
                 refine take_ (i := 36) (N := some 54) (v := ?_) (a' := ?_) mz126_42 rfl rfl (take_ofW HT_.out HW_.out (by kernel_rfl)) (fun _ _ _ h => h) (Or.inl ⟨by rfl, ?_⟩) hHeld ?_ ?_
                 (rotate_left; ·(rintro w' ⟨s0, s1, s2, s3, s4, s5, s6, s7⟩; go_simp; with_reducible rfl)); (rotate_left; ·(simp only [Act.put, pq_z126]; rfl))
                 refine take_ (i := 42) (N := some 60) (v := ?_) (a' := ?_) mz126_43 rfl rfl (take_ofW HT_.out HW_.out (by kernel_rfl)) (fun _ _ _ h => h) (Or.inl ⟨by rfl, ?_⟩) hHeld ?_ ?_
                 (rotate_left; ·(rintro w' ⟨s0, s1, s2, s3, s4, s5, s6, s7⟩; go_simp; with_reducible rfl)); (rotate_left; ·(simp only [Act.put, pq_z126]; rfl))
                 refine one_ (i := 43) (N := some 61) mz126_44 rfl rfl (one_of HT_.out (by kernel_rfl)) (by decide) (fun K hK => ?_)
                 refine goes_ Try.func159 (by kernel_rfl) rfl #[.agg #[.int .i64 ((rd_T144 l0 x3_1).f0.f0), .int .i64 ((rd_T144 l0 x3_1).f0.f1)], .agg #[.int .i64 ((rd_T144 l0 (ji19)).f0.f0), .int .i64 ((rd_T144 l0 (ji19)).f0.f1)]] (by rfl) rfl rfl (by (try simp only [List.map_toArray, List.map_cons, List.map_nil]); first | done | (simp only [hji19]; rfl) | rfl | (simp only [List.length_drop, List.length_take]; rfl)) ?_
                 with_reducible refine (spec_l10Less.calls ((rd_T144 l0 x3_1).f0.f0) ((rd_T144 l0 x3_1).f0.f1) ((rd_T144 l0 (ji19)).f0.f0) ((rd_T144 l0 (ji19)).f0.f1) false _ A22.out).mono ?_
                 rintro e w37 ⟨rfl, hb⟩
                 refine ⟨_, rfl, ?_⟩
                 have n0_ := Aside0.mk (blk_below (g := gb669) (o := .cells #[.int .i64 ((rd_T144 l0 x3_1).f0.f0), .int .i64 ((rd_T144 l0 x3_1).f0.f1), .int .i64 ((rd_T144 l0 x3_1).f1), .int .i64 ((rd_T144 l0 x3_1).f2)] 144 (0, 0)) (by (with_reducible repeat (first | refine blk_drewN ?_ _ | refine blk_drew ?_ | refine blk_alloc ?_ _)); exact BK669.out) hb)
                 have n1_ := Aside0.mk (below_step (by repeat (first | (with_reducible first | exact HB.out | apply below_alloc | apply pw_below_drewN | apply below_drew1 | refine below_set ?_ GE669.out) | exact HB.out)) hb)
                 clear BK669
                 clear HB
                 have BK669 := n0_
                 have HB := n1_
                 clear n0_ n1_
                 (try clear hb)
                 (try clear hb2)
                 (try clear hk)
                 (try clear hi)
                 have q38 : (x3_1 : Int) ≤ ((l0.length : Int) : Int) := of_decide_eq_true (by first | (with_reducible assumption) | assumption)
                 obtain ⟨i038, hi038, _, hsz38, _⟩ := info_parts info144
                 have hroom38 : l0.length ≤ c0 := HC0.out
                 have hC38 : Kd.C k144 _ (some ad668) l0.length l0 := HR0.out
                 have hcut38 := cut_to (P := Try.prog) 98 144 .i64 Try.underlying98 hi038 (some ad668) l0.length c0 x3_1 (of_decide_eq_true (by first | (with_reducible assumption) | assumption)) q38 hroom38
                 have hr38 := Kd.C_take (m := (x3_1 : Int).toNat) hC38 (by omega)
                 have hy38 : y676.length = (x3_1 : Int).toNat := (by rw [Ny676.out, List.length_take]; omega)
                 rw [← Ny676.out] at hr38
                 rw [← hy38] at hcut38
                 have HR679 := Aside0.mk hr38
                 have HC679 := Aside0.mk (show y676.length ≤ c0 from by omega)
                 clear hr38 hC38 hroom38 hi038 hsz38
                 have KY38 := Aside0.mk hy38
                 clear hy38
                 replace q38 := eq_true q38
                 refine hK.out _ _ ⟨(blk_cell BK669.out 0).trans rfl, (blk_cell BK669.out 1).trans rfl, (blk_cell BK669.out 2).trans rfl, (blk_cell BK669.out 3).trans rfl, ((HB.out.cell (World.block_lt_of_cell? w _ hw674_0)).trans hw674_0), ((HB.out.cell (World.block_lt_of_cell? w _ hw674_1)).trans hw674_1), ((HB.out.cell (World.block_lt_of_cell? w _ hw674_2)).trans hw674_2), ((HB.out.cell (World.block_lt_of_cell? w _ hw674_3)).trans hw674_3)⟩ (fun hHeld => ?_)
                 clear hK K
                 refine norm_ (a' := ?_) ?_ ?_
                 (rotate_left; ·(show Act.put _ (some 61) _ = _; simp only [Act.put, pq_z126]; rfl))
                 refine pu_z126 44 (some 62) ?_ mz126_45 rfl rfl (any_of HT_.out (by kernel_rfl)) (fun _ _ _ h => h) (Or.inl ⟨by rfl, ?_⟩) ?_ ?_ ?_
                 (rotate_left; ·(intro w'; go_simp; with_reducible rfl)); (rotate_left; ·(simp only [Act.put, pq_z126]; rfl))
                 refine pu_z126 45 (some 63) ?_ mz126_46 rfl rfl (any_of HT_.out (by kernel_rfl)) (fun _ _ _ h => h) (Or.inl ⟨by rfl, ?_⟩) ?_ ?_ ?_
                 (rotate_left; ·(intro w'; go_simp; with_reducible rfl)); (rotate_left; ·(simp only [Act.put, pq_z126]; rfl))
                 refine pu_z126 46 (some 64) ?_ mz126_47 rfl rfl (any_of HT_.out (by kernel_rfl)) (fun _ _ _ h => h) (Or.inl ⟨by rfl, ?_⟩) ?_ ?_ ?_
                 (rotate_left; ·(intro w'; go_simp; with_reducible rfl)); (rotate_left; ·(simp only [Act.put, pq_z126]; rfl))
                 refine pu_z126 47 (some 65) ?_ mz126_48 rfl rfl (any_of HT_.out (by kernel_rfl)) (fun _ _ _ h => h) (Or.inl ⟨by rfl, ?_⟩) ?_ ?_ ?_
                 (rotate_left; ·(intro w'; go_simp; with_reducible rfl)); (rotate_left; ·(simp only [Act.put, pq_z126]; rfl))
                 refine pu_z126 48 (some 66) ?_ mz126_49 rfl rfl (any_of HT_.out (by kernel_rfl)) (fun _ _ _ h => h) (Or.inl ⟨by rfl, ?_⟩) ?_ ?_ ?_
                 (rotate_left; ·(intro w'; go_simp; with_reducible rfl)); (rotate_left; ·(simp only [Act.put, pq_z126]; rfl))
                 refine pu_z126 49 (some 67) ?_ mz126_50 rfl rfl (any_of HT_.out (by kernel_rfl)) (fun _ _ _ h => h) (Or.inl ⟨by rfl, ?_⟩) ?_ ?_ ?_
                 (rotate_left; ·(intro w'; go_simp; with_reducible rfl)); (rotate_left; ·(simp only [Act.put, pq_z126]; rfl))
                 refine pu_z126 50 (some 68) ?_ mz126_51 rfl rfl (any_of HT_.out (by kernel_rfl)) (fun _ _ _ h => h) (Or.inl ⟨by rfl, ?_⟩) ?_ ?_ ?_
                 (rotate_left; ·(intro w'; go_simp; with_reducible rfl)); (rotate_left; ·(simp only [Act.put, pq_z126]; rfl))
                 refine pu_z126 52 (some 70) ?_ mz126_62 rfl rfl (any_of HT_.out (by kernel_rfl)) (fun _ _ _ h => h) (Or.inl ⟨by rfl, ?_⟩) ?_ ?_ ?_
                 (rotate_left; ·(intro w'; go_simp; with_reducible rfl)); (rotate_left; ·(simp only [Act.put, pq_z126]; rfl))
                 refine take_ (i := 51) (N := some 69) (v := ?_) (a' := ?_) mz126_53 rfl rfl (take_ofW HT_.out HW_.out (by kernel_rfl)) (fun _ _ _ h => h) (Or.inl ⟨by rfl, ?_⟩) hHeld ?_ ?_
                 (rotate_left; ·(rintro w' ⟨s0, s1, s2, s3, s4, s5, s6, s7⟩; go_simp; with_reducible rfl)); (rotate_left; ·(simp only [Act.put, pq_z126]; rfl))
                 refine take_ (i := 53) (N := some 71) (v := ?_) (a' := ?_) mz126_54 rfl rfl (take_ofW HT_.out HW_.out (by kernel_rfl)) (fun _ _ _ h => h) (Or.inl ⟨by rfl, ?_⟩) hHeld ?_ ?_
                 (rotate_left; ·(rintro w' ⟨s0, s1, s2, s3, s4, s5, s6, s7⟩; go_simp; with_reducible rfl)); (rotate_left; ·(simp only [Act.put, pq_z126]; rfl))
                 refine one_ (i := 54) (N := some 72) mz126_55 rfl rfl (one_of HT_.out (by kernel_rfl)) (by decide) (fun K hK => ?_)
                 refine goes_ Try.func160 (by kernel_rfl) rfl #[.slice (some ad668) y676.length c0, .agg #[.int .i64 ((rd_T144 l0 x3_1).f0.f0), .int .i64 ((rd_T144 l0 x3_1).f0.f1)], .int .i64 ((rd_T144 l0 x3_1).f1)] (by rfl) rfl rfl (by (try simp only [List.map_toArray, List.map_cons, List.map_nil]); first | done | rfl | (simp only [List.length_drop, List.length_take]; rfl)) ?_
                 with_reducible refine (spec_l10Known.calls k1 _ _ y676 ((rd_T144 l0 x3_1).f0.f0) ((rd_T144 l0 x3_1).f0.f1) ((rd_T144 l0 x3_1).f1) true _ ?side1 ?side2 A31.out).mono ?_
                 (case side1 => repeat (first | exact (Kd.C_below HR679.out HB.out) | (with_reducible refine Kd.C_alloc ?_ _) | (with_reducible refine Kd.C_drewN ?_ _) | (with_reducible refine Kd.C_drew ?_)))
                 (case side2 => exact HC679.out)
                 rintro e w39 ⟨rfl, hb⟩
                 refine ⟨_, rfl, ?_⟩
                 have n0_ := Aside0.mk (blk_below (g := gb669) (o := .cells #[.int .i64 ((rd_T144 l0 x3_1).f0.f0), .int .i64 ((rd_T144 l0 x3_1).f0.f1), .int .i64 ((rd_T144 l0 x3_1).f1), .int .i64 ((rd_T144 l0 x3_1).f2)] 144 (0, 0)) (by (with_reducible repeat (first | refine blk_drewN ?_ _ | refine blk_drew ?_ | refine blk_alloc ?_ _)); exact BK669.out) hb)
                 have n1_ := Aside0.mk (below_step (by repeat (first | (with_reducible first | exact HB.out | apply below_alloc | apply pw_below_drewN | apply below_drew1 | refine below_set ?_ GE669.out) | exact HB.out)) hb)
                 clear BK669
                 clear HB
                 have BK669 := n0_
                 have HB := n1_
                 clear n0_ n1_
                 (try clear hb)
                 (try clear hb2)
                 (try clear hk)
                 (try clear hi)
                 refine hK.out _ _ ⟨(blk_cell BK669.out 0).trans rfl, (blk_cell BK669.out 1).trans rfl, (blk_cell BK669.out 2).trans rfl, (blk_cell BK669.out 3).trans rfl, ((HB.out.cell (World.block_lt_of_cell? w _ hw674_0)).trans hw674_0), ((HB.out.cell (World.block_lt_of_cell? w _ hw674_1)).trans hw674_1), ((HB.out.cell (World.block_lt_of_cell? w _ hw674_2)).trans hw674_2), ((HB.out.cell (World.block_lt_of_cell? w _ hw674_3)).trans hw674_3)⟩ (fun hHeld => ?_)
                 clear hK K
                 refine norm_ (a' := ?_) ?_ ?_
                 (rotate_left; ·(show Act.put _ (some 72) _ = _; simp only [Act.put, pq_z126]; rfl))
                 refine pu_z126 55 (some 73) ?_ mz126_56 rfl rfl (any_of HT_.out (by kernel_rfl)) (fun _ _ _ h => h) (Or.inl ⟨by rfl, ?_⟩) ?_ ?_ ?_
                 (rotate_left; ·(intro w'; go_simp; with_reducible rfl)); (rotate_left; ·(simp only [Act.put, pq_z126]; rfl))
                 refine done_ (done_of HT_.out (by kernel_rfl)) ?_
                 try go_wp2
                 go_ret
                 exact ⟨by first | rfl | (simp [errW_none, errW_some] <;> rfl) | (simp only [← hji19]; first | rfl | (simp [errW_none, errW_some] <;> rfl)) | (simp [*, errW_none, errW_some] <;> rfl), by repeat (first | (with_reducible first | exact HB.out | apply below_alloc | apply pw_below_drewN | apply below_drew1 | refine below_set ?_ GE669.out) | exact HB.out)⟩
                ·replace c32 := Bool.eq_false_iff.mpr c32
                 subst c32
                 have H1 : (spec_l10OK.l0 k1 l0 (wrap64 (x3_1 + 1))) = some r := by rw [if_neg (show ¬ (false = true) by decide)] at H; exact H
                 clear H
                 have H := H1
                 clear H1
                 have H' := Aside0.mk H
                 clear H
                 have p668 : 0 ≤ (x3_1 : Int) := of_decide_eq_true (by first | (with_reducible assumption) | assumption)
                 have q668 : x3_1 < (l0.length : Int) := of_decide_eq_true (by first | (with_reducible assumption) | assumption)
                 obtain ⟨ad668, e668, hx668_0, hx668_1, hx668_2, hx668_3⟩ := at_T144 HR0.out x3_1 p668 q668
                 cases e668
                 replace hx668_0 := (HB.out.cell (World.block_lt_of_cell? w _ hx668_0)).trans hx668_0
                 replace hx668_1 := (HB.out.cell (World.block_lt_of_cell? w _ hx668_1)).trans hx668_1
                 replace hx668_2 := (HB.out.cell (World.block_lt_of_cell? w _ hx668_2)).trans hx668_2
                 replace hx668_3 := (HB.out.cell (World.block_lt_of_cell? w _ hx668_3)).trans hx668_3
                 replace p668 := eq_true p668
                 replace q668 := eq_true q668
                 try go_wp2_with (first | ((with_reducible refine gate_dst (N := 4) rfl ?_); refine box_event ?hg (N := 4) ?hd (cs := #[.int .i64 0, .int .i64 0, .int .i64 0, .int .i64 0]) (t := 144) ?hr ?_; (case hd => rfl); (case hg => rfl); (case hr => first | (go_simp; done) | (go_simp; rfl)); intro gb669 hg w40 hbox hb; have n0_ := Aside0.mk (below_step (by repeat (first | (with_reducible first | exact HB.out | apply below_alloc | apply pw_below_drewN | apply below_drew1) | exact HB.out)) hb); have n1_ := Aside0.mk (hbox); have n2_ := Aside0.mk ((by rw [hg]; exact (below_size (by repeat (first | (with_reducible first | exact HB.out | apply below_alloc | apply pw_below_drewN | apply below_drew1) | exact HB.out))) : w.heap.size ≤ gb669)); have n3_ := Aside0.mk ((by rw [hg]; exact (below_size (by repeat (first | (with_reducible first | exact HB.out | apply below_alloc | apply pw_below_drewN | apply below_drew1) | exact HB.out))) : w.heap.size ≤ gb669)); clear HB; have HB := n0_; have BK669 := n1_; have GW669 := n2_; have GE669 := n3_; clear n0_ n1_ n2_ n3_; clear hb hbox hg; have hcz41_0 : w40.cell? ⟨gb669, 0, none⟩ = some (.int .i64 0) := (blk_cell BK669.out 0).trans rfl; have hcz41_1 : w40.cell? ⟨gb669, 1, none⟩ = some (.int .i64 0) := (blk_cell BK669.out 1).trans rfl; have hcz41_2 : w40.cell? ⟨gb669, 2, none⟩ = some (.int .i64 0) := (blk_cell BK669.out 2).trans rfl; have hcz41_3 : w40.cell? ⟨gb669, 3, none⟩ = some (.int .i64 0) := (blk_cell BK669.out 3).trans rfl; have hfz41_0 := blk_frozen BK669.out 0; have hfz41_1 := blk_frozen BK669.out 1; have hfz41_2 := blk_frozen BK669.out 2; have hfz41_3 := blk_frozen BK669.out 3))
                 have n0_ : Aside0 (((((w40.setCell ⟨gb669, 0, none⟩ (.int .i64 ((rd_T144 l0 x3_1).f0.f0))).setCell ⟨gb669, 1, none⟩ (.int .i64 ((rd_T144 l0 x3_1).f0.f1))).setCell ⟨gb669, 2, none⟩ (.int .i64 ((rd_T144 l0 x3_1).f1))).setCell ⟨gb669, 3, none⟩ (.int .i64 ((rd_T144 l0 x3_1).f2))).heap[gb669]? = some (.cells #[.int .i64 ((rd_T144 l0 x3_1).f0.f0), .int .i64 ((rd_T144 l0 x3_1).f0.f1), .int .i64 ((rd_T144 l0 x3_1).f1), .int .i64 ((rd_T144 l0 x3_1).f2)] 144 (0, 0))) := ⟨by (with_reducible repeat (first | refine blk_drewN ?_ _ | refine blk_drew ?_ | refine blk_alloc ?_ _)); refine blk_put (cs := #[.int .i64 ((rd_T144 l0 x3_1).f0.f0), .int .i64 ((rd_T144 l0 x3_1).f0.f1), .int .i64 ((rd_T144 l0 x3_1).f1), .int .i64 0]) ?_ 3 _ rfl; (with_reducible repeat (first | refine blk_drewN ?_ _ | refine blk_drew ?_ | refine blk_alloc ?_ _)); refine blk_put (cs := #[.int .i64 ((rd_T144 l0 x3_1).f0.f0), .int .i64 ((rd_T144 l0 x3_1).f0.f1), .int .i64 0, .int .i64 0]) ?_ 2 _ rfl; (with_reducible repeat (first | refine blk_drewN ?_ _ | refine blk_drew ?_ | refine blk_alloc ?_ _)); refine blk_put (cs := #[.int .i64 ((rd_T144 l0 x3_1).f0.f0), .int .i64 0, .int .i64 0, .int .i64 0]) ?_ 1 _ rfl; (with_reducible repeat (first | refine blk_drewN ?_ _ | refine blk_drew ?_ | refine blk_alloc ?_ _)); refine blk_put (cs := #[.int .i64 0, .int .i64 0, .int .i64 0, .int .i64 0]) ?_ 0 _ rfl; (with_reducible repeat (first | refine blk_drewN ?_ _ | refine blk_drew ?_ | refine blk_alloc ?_ _)); exact BK669.out⟩
                 have n1_ : Aside0 (Below w.heap.size w ((((w40.setCell ⟨gb669, 0, none⟩ (.int .i64 ((rd_T144 l0 x3_1).f0.f0))).setCell ⟨gb669, 1, none⟩ (.int .i64 ((rd_T144 l0 x3_1).f0.f1))).setCell ⟨gb669, 2, none⟩ (.int .i64 ((rd_T144 l0 x3_1).f1))).setCell ⟨gb669, 3, none⟩ (.int .i64 ((rd_T144 l0 x3_1).f2)))) := ⟨by repeat (first | (with_reducible first | exact HB.out | apply below_alloc | apply pw_below_drewN | apply below_drew1 | refine below_set ?_ GE669.out) | exact HB.out)⟩
                 (try clear BK669)
                 (try clear HB)
                 generalize ((((w40.setCell ⟨gb669, 0, none⟩ (.int .i64 ((rd_T144 l0 x3_1).f0.f0))).setCell ⟨gb669, 1, none⟩ (.int .i64 ((rd_T144 l0 x3_1).f0.f1))).setCell ⟨gb669, 2, none⟩ (.int .i64 ((rd_T144 l0 x3_1).f1))).setCell ⟨gb669, 3, none⟩ (.int .i64 ((rd_T144 l0 x3_1).f2))) = w42 at n0_ n1_ ⊢
                 have BK669 := n0_
                 have HB := n1_
                 clear n0_ n1_
                 have n0_ := Aside0.mk (blk_drew BK669.out)
                 have n1_ := Aside0.mk (below_drew1 HB.out)
                 clear BK669
                 clear HB
                 have BK669 := n0_
                 have HB := n1_
                 clear n0_ n1_
                 have p674 : 0 ≤ ((ji19) : Int) := of_decide_eq_true (by first | (with_reducible assumption) | assumption)
                 have q674 : (ji19) < (l0.length : Int) := of_decide_eq_true (by first | (with_reducible assumption) | assumption)
                 obtain ⟨ad674, e674, hx674_0, hx674_1, hx674_2, hx674_3⟩ := at_T144 HR0.out (ji19) p674 q674
                 have hw674_3 := hx674_3
                 have hw674_2 := hx674_2
                 have hw674_1 := hx674_1
                 have hw674_0 := hx674_0
                 obtain rfl : ad668 = ad674 := (by injection e674)
                 replace hx674_0 := (HB.out.cell (World.block_lt_of_cell? w _ hx674_0)).trans hx674_0
                 replace hx674_1 := (HB.out.cell (World.block_lt_of_cell? w _ hx674_1)).trans hx674_1
                 replace hx674_2 := (HB.out.cell (World.block_lt_of_cell? w _ hx674_2)).trans hx674_2
                 replace hx674_3 := (HB.out.cell (World.block_lt_of_cell? w _ hx674_3)).trans hx674_3
                 replace p674 := eq_true p674
                 replace q674 := eq_true q674
                 refine start_ (n := 56) (S := fun w' => w'.cell? ⟨gb669, 0, none⟩ = some (.int .i64 ((rd_T144 l0 x3_1).f0.f0)) ∧ w'.cell? ⟨gb669, 1, none⟩ = some (.int .i64 ((rd_T144 l0 x3_1).f0.f1)) ∧ w'.cell? ⟨gb669, 2, none⟩ = some (.int .i64 ((rd_T144 l0 x3_1).f1)) ∧ w'.cell? ⟨gb669, 3, none⟩ = some (.int .i64 ((rd_T144 l0 x3_1).f2)) ∧ w'.cell? (ad668.add (((ji19)).toNat * 4)) = some (.int .i64 ((rd_T144 l0 (ji19)).f0.f0)) ∧ w'.cell? ⟨(ad668.add (((ji19)).toNat * 4)).block, (ad668.add (((ji19)).toNat * 4)).off + 1, none⟩ = some (.int .i64 ((rd_T144 l0 (ji19)).f0.f1)) ∧ w'.cell? ⟨(ad668.add (((ji19)).toNat * 4)).block, (ad668.add (((ji19)).toNat * 4)).off + 2, none⟩ = some (.int .i64 ((rd_T144 l0 (ji19)).f1)) ∧ w'.cell? ⟨(ad668.add (((ji19)).toNat * 4)).block, (ad668.add (((ji19)).toNat * 4)).off + 3, none⟩ = some (.int .i64 ((rd_T144 l0 (ji19)).f2))) (ds := []) mz126_0 (by kernel_rfl) rfl rfl ⟨(blk_cell BK669.out 0).trans rfl, (blk_cell BK669.out 1).trans rfl, (blk_cell BK669.out 2).trans rfl, (blk_cell BK669.out 3).trans rfl, ((HB.out.cell (World.block_lt_of_cell? w _ hw674_0)).trans hw674_0), ((HB.out.cell (World.block_lt_of_cell? w _ hw674_1)).trans hw674_1), ((HB.out.cell (World.block_lt_of_cell? w _ hw674_2)).trans hw674_2), ((HB.out.cell (World.block_lt_of_cell? w _ hw674_3)).trans hw674_3)⟩ (fun hHeld => ?_); refine with_tabW spec_l10OK.tab7 spec_l10OK.bits7 (fun HT_ HW_ => ?_)
                 generalize w42.drew = w43 at BK669 HB hx674_0 hx674_1 hx674_2 hx674_3 hHeld ⊢
                 refine pu_z126 0 (some 18) ?_ mz126_1 rfl rfl (any_of HT_.out (by kernel_rfl)) (fun _ _ _ h => h) (Or.inl ⟨by rfl, ?_⟩) ?_ ?_ ?_
                 (rotate_left; ·(intro w'; go_simp; with_reducible rfl)); (rotate_left; ·(simp only [Act.put, pq_z126]; rfl))
                 refine pu_z126 1 (some 19) ?_ mz126_2 rfl rfl (any_of HT_.out (by kernel_rfl)) (fun _ _ _ h => h) (Or.inl ⟨by rfl, ?_⟩) ?_ ?_ ?_
                 (rotate_left; ·(intro w'; go_simp; with_reducible rfl)); (rotate_left; ·(simp only [Act.put, pq_z126]; rfl))
                 refine take_ (i := 2) (N := some 20) (v := ?_) (a' := ?_) mz126_3 rfl rfl (take_ofW HT_.out HW_.out (by kernel_rfl)) (fun _ _ _ h => h) (Or.inl ⟨by rfl, ?_⟩) hHeld ?_ ?_
                 (rotate_left; ·(rintro w' ⟨s0, s1, s2, s3, s4, s5, s6, s7⟩; go_simp; with_reducible rfl)); (rotate_left; ·(simp only [Act.put, pq_z126]; rfl))
                 refine one_ (i := 3) (N := some 21) mz126_4 rfl rfl (one_of HT_.out (by kernel_rfl)) (by decide) (fun K hK => ?_)
                 refine goes_ Try.func96 (by kernel_rfl) rfl #[.int .i64 ((rd_T144 l0 x3_1).f0.f0), .int .i64 1, .int .i64 4] (by rfl) rfl rfl (by (try simp only [List.map_toArray, List.map_cons, List.map_nil]); first | done | rfl | (simp only [List.length_drop, List.length_take]; rfl)) ?_
                 with_reducible refine (spec_l00In.calls ((rd_T144 l0 x3_1).f0.f0) 1 4 true _ A5.out).mono ?_
                 rintro e w' ⟨rfl, ⟨nd, rfl⟩⟩
                 refine ⟨_, rfl, ?_⟩
                 refine hK.out _ _ ⟨(blk_cell BK669.out 0).trans rfl, (blk_cell BK669.out 1).trans rfl, (blk_cell BK669.out 2).trans rfl, (blk_cell BK669.out 3).trans rfl, ((HB.out.cell (World.block_lt_of_cell? w _ hw674_0)).trans hw674_0), ((HB.out.cell (World.block_lt_of_cell? w _ hw674_1)).trans hw674_1), ((HB.out.cell (World.block_lt_of_cell? w _ hw674_2)).trans hw674_2), ((HB.out.cell (World.block_lt_of_cell? w _ hw674_3)).trans hw674_3)⟩ (fun hHeld => ?_)
                 clear hK K
                 refine norm_ (a' := ?_) ?_ ?_
                 (rotate_left; ·(show Act.put _ (some 21) _ = _; simp only [Act.put, pq_z126]; rfl))
                 refine pu_z126 4 (some 22) ?_ mz126_5 rfl rfl (any_of HT_.out (by kernel_rfl)) (fun _ _ _ h => h) (Or.inl ⟨by rfl, ?_⟩) ?_ ?_ ?_
                 (rotate_left; ·(intro w'; go_simp; with_reducible rfl)); (rotate_left; ·(simp only [Act.put, pq_z126]; rfl))
                 refine pu_z126 5 (some 23) ?_ mz126_6 rfl rfl (any_of HT_.out (by kernel_rfl)) (fun _ _ _ h => h) (Or.inl ⟨by rfl, ?_⟩) ?_ ?_ ?_
                 (rotate_left; ·(intro w'; go_simp; with_reducible rfl)); (rotate_left; ·(simp only [Act.put, pq_z126]; rfl))
                 refine pu_z126 6 (some 24) ?_ mz126_7 rfl rfl (any_of HT_.out (by kernel_rfl)) (fun _ _ _ h => h) (Or.inl ⟨by rfl, ?_⟩) ?_ ?_ ?_
                 (rotate_left; ·(intro w'; go_simp; with_reducible rfl)); (rotate_left; ·(simp only [Act.put, pq_z126]; rfl))
                 refine pu_z126 7 (some 25) ?_ mz126_8 rfl rfl (any_of HT_.out (by kernel_rfl)) (fun _ _ _ h => h) (Or.inl ⟨by rfl, ?_⟩) ?_ ?_ ?_
                 (rotate_left; ·(intro w'; go_simp; with_reducible rfl)); (rotate_left; ·(simp only [Act.put, pq_z126]; rfl))
                 refine take_ (i := 8) (N := some 26) (v := ?_) (a' := ?_) mz126_9 rfl rfl (take_ofW HT_.out HW_.out (by kernel_rfl)) (fun _ _ _ h => h) (Or.inl ⟨by rfl, ?_⟩) hHeld ?_ ?_
                 (rotate_left; ·(rintro w' ⟨s0, s1, s2, s3, s4, s5, s6, s7⟩; go_simp; with_reducible rfl)); (rotate_left; ·(simp only [Act.put, pq_z126]; rfl))
                 refine one_ (i := 9) (N := some 27) mz126_10 rfl rfl (one_of HT_.out (by kernel_rfl)) (by decide) (fun K hK => ?_)
                 refine goes_ Try.func96 (by kernel_rfl) rfl #[.int .i64 ((rd_T144 l0 x3_1).f0.f1), .int .i64 0, .int .i64 15] (by rfl) rfl rfl (by (try simp only [List.map_toArray, List.map_cons, List.map_nil]); first | done | rfl | (simp only [List.length_drop, List.length_take]; rfl)) ?_
                 with_reducible refine (spec_l00In.calls ((rd_T144 l0 x3_1).f0.f1) 0 15 true _ A7.out).mono ?_
                 rintro e w' ⟨rfl, ⟨nd, rfl⟩⟩
                 refine ⟨_, rfl, ?_⟩
                 refine hK.out _ _ ⟨(blk_cell BK669.out 0).trans rfl, (blk_cell BK669.out 1).trans rfl, (blk_cell BK669.out 2).trans rfl, (blk_cell BK669.out 3).trans rfl, ((HB.out.cell (World.block_lt_of_cell? w _ hw674_0)).trans hw674_0), ((HB.out.cell (World.block_lt_of_cell? w _ hw674_1)).trans hw674_1), ((HB.out.cell (World.block_lt_of_cell? w _ hw674_2)).trans hw674_2), ((HB.out.cell (World.block_lt_of_cell? w _ hw674_3)).trans hw674_3)⟩ (fun hHeld => ?_)
                 clear hK K
                 refine norm_ (a' := ?_) ?_ ?_
                 (rotate_left; ·(show Act.put _ (some 27) _ = _; simp only [Act.put, pq_z126]; rfl))
                 refine pu_z126 10 (some 28) ?_ mz126_11 rfl rfl (any_of HT_.out (by kernel_rfl)) (fun _ _ _ h => h) (Or.inl ⟨by rfl, ?_⟩) ?_ ?_ ?_
                 (rotate_left; ·(intro w'; go_simp; with_reducible rfl)); (rotate_left; ·(simp only [Act.put, pq_z126]; rfl))
                 refine pu_z126 11 (some 29) ?_ mz126_12 rfl rfl (any_of HT_.out (by kernel_rfl)) (fun _ _ _ h => h) (Or.inl ⟨by rfl, ?_⟩) ?_ ?_ ?_
                 (rotate_left; ·(intro w'; go_simp; with_reducible rfl)); (rotate_left; ·(simp only [Act.put, pq_z126]; rfl))
                 refine pu_z126 12 (some 30) ?_ mz126_13 rfl rfl (any_of HT_.out (by kernel_rfl)) (fun _ _ _ h => h) (Or.inl ⟨by rfl, ?_⟩) ?_ ?_ ?_
                 (rotate_left; ·(intro w'; go_simp; with_reducible rfl)); (rotate_left; ·(simp only [Act.put, pq_z126]; rfl))
                 refine pu_z126 13 (some 31) ?_ mz126_14 rfl rfl (any_of HT_.out (by kernel_rfl)) (fun _ _ _ h => h) (Or.inl ⟨by rfl, ?_⟩) ?_ ?_ ?_
                 (rotate_left; ·(intro w'; go_simp; with_reducible rfl)); (rotate_left; ·(simp only [Act.put, pq_z126]; rfl))
                 refine take_ (i := 14) (N := some 32) (v := ?_) (a' := ?_) mz126_15 rfl rfl (take_ofW HT_.out HW_.out (by kernel_rfl)) (fun _ _ _ h => h) (Or.inl ⟨by rfl, ?_⟩) hHeld ?_ ?_
                 (rotate_left; ·(rintro w' ⟨s0, s1, s2, s3, s4, s5, s6, s7⟩; go_simp; with_reducible rfl)); (rotate_left; ·(simp only [Act.put, pq_z126]; rfl))
                 refine one_ (i := 15) (N := some 33) mz126_16 rfl rfl (one_of HT_.out (by kernel_rfl)) (by decide) (fun K hK => ?_)
                 refine goes_ Try.func96 (by kernel_rfl) rfl #[.int .i64 ((rd_T144 l0 x3_1).f1), .int .i64 0, .int .i64 15] (by rfl) rfl rfl (by (try simp only [List.map_toArray, List.map_cons, List.map_nil]); first | done | rfl | (simp only [List.length_drop, List.length_take]; rfl)) ?_
                 with_reducible refine (spec_l00In.calls ((rd_T144 l0 x3_1).f1) 0 15 true _ A9.out).mono ?_
                 rintro e w' ⟨rfl, ⟨nd, rfl⟩⟩
                 refine ⟨_, rfl, ?_⟩
                 refine hK.out _ _ ⟨(blk_cell BK669.out 0).trans rfl, (blk_cell BK669.out 1).trans rfl, (blk_cell BK669.out 2).trans rfl, (blk_cell BK669.out 3).trans rfl, ((HB.out.cell (World.block_lt_of_cell? w _ hw674_0)).trans hw674_0), ((HB.out.cell (World.block_lt_of_cell? w _ hw674_1)).trans hw674_1), ((HB.out.cell (World.block_lt_of_cell? w _ hw674_2)).trans hw674_2), ((HB.out.cell (World.block_lt_of_cell? w _ hw674_3)).trans hw674_3)⟩ (fun hHeld => ?_)
                 clear hK K
                 refine norm_ (a' := ?_) ?_ ?_
                 (rotate_left; ·(show Act.put _ (some 33) _ = _; simp only [Act.put, pq_z126]; rfl))
                 refine pu_z126 16 (some 34) ?_ mz126_17 rfl rfl (any_of HT_.out (by kernel_rfl)) (fun _ _ _ h => h) (Or.inl ⟨by rfl, ?_⟩) ?_ ?_ ?_
                 (rotate_left; ·(intro w'; go_simp; with_reducible rfl)); (rotate_left; ·(simp only [Act.put, pq_z126]; rfl))
                 refine pu_z126 17 (some 35) ?_ mz126_18 rfl rfl (any_of HT_.out (by kernel_rfl)) (fun _ _ _ h => h) (Or.inl ⟨by rfl, ?_⟩) ?_ ?_ ?_
                 (rotate_left; ·(intro w'; go_simp; with_reducible rfl)); (rotate_left; ·(simp only [Act.put, pq_z126]; rfl))
                 refine pu_z126 18 (some 36) ?_ mz126_19 rfl rfl (any_of HT_.out (by kernel_rfl)) (fun _ _ _ h => h) (Or.inl ⟨by rfl, ?_⟩) ?_ ?_ ?_
                 (rotate_left; ·(intro w'; go_simp; with_reducible rfl)); (rotate_left; ·(simp only [Act.put, pq_z126]; rfl))
                 refine pu_z126 19 (some 37) ?_ mz126_20 rfl rfl (any_of HT_.out (by kernel_rfl)) (fun _ _ _ h => h) (Or.inl ⟨by rfl, ?_⟩) ?_ ?_ ?_
                 (rotate_left; ·(intro w'; go_simp; with_reducible rfl)); (rotate_left; ·(simp only [Act.put, pq_z126]; rfl))
                 refine take_ (i := 20) (N := some 38) (v := ?_) (a' := ?_) mz126_21 rfl rfl (take_ofW HT_.out HW_.out (by kernel_rfl)) (fun _ _ _ h => h) (Or.inl ⟨by rfl, ?_⟩) hHeld ?_ ?_
                 (rotate_left; ·(rintro w' ⟨s0, s1, s2, s3, s4, s5, s6, s7⟩; go_simp; with_reducible rfl)); (rotate_left; ·(simp only [Act.put, pq_z126]; rfl))
                 refine one_ (i := 21) (N := some 39) mz126_22 rfl rfl (one_of HT_.out (by kernel_rfl)) (by decide) (fun K hK => ?_)
                 refine goes_ Try.func96 (by kernel_rfl) rfl #[.int .i64 ((rd_T144 l0 x3_1).f2), .int .i64 0, .int .i64 15] (by rfl) rfl rfl (by (try simp only [List.map_toArray, List.map_cons, List.map_nil]); first | done | rfl | (simp only [List.length_drop, List.length_take]; rfl)) ?_
                 with_reducible refine (spec_l00In.calls ((rd_T144 l0 x3_1).f2) 0 15 true _ A11.out).mono ?_
                 rintro e w' ⟨rfl, ⟨nd, rfl⟩⟩
                 refine ⟨_, rfl, ?_⟩
                 refine hK.out _ _ ⟨(blk_cell BK669.out 0).trans rfl, (blk_cell BK669.out 1).trans rfl, (blk_cell BK669.out 2).trans rfl, (blk_cell BK669.out 3).trans rfl, ((HB.out.cell (World.block_lt_of_cell? w _ hw674_0)).trans hw674_0), ((HB.out.cell (World.block_lt_of_cell? w _ hw674_1)).trans hw674_1), ((HB.out.cell (World.block_lt_of_cell? w _ hw674_2)).trans hw674_2), ((HB.out.cell (World.block_lt_of_cell? w _ hw674_3)).trans hw674_3)⟩ (fun hHeld => ?_)
                 clear hK K
                 refine norm_ (a' := ?_) ?_ ?_
                 (rotate_left; ·(show Act.put _ (some 39) _ = _; simp only [Act.put, pq_z126]; rfl))
                 refine pu_z126 22 (some 40) ?_ mz126_23 rfl rfl (any_of HT_.out (by kernel_rfl)) (fun _ _ _ h => h) (Or.inl ⟨by rfl, ?_⟩) ?_ ?_ ?_
                 (rotate_left; ·(intro w'; go_simp; with_reducible rfl)); (rotate_left; ·(simp only [Act.put, pq_z126]; rfl))
                 refine pu_z126 23 (some 41) ?_ mz126_24 rfl rfl (any_of HT_.out (by kernel_rfl)) (fun _ _ _ h => h) (Or.inl ⟨by rfl, ?_⟩) ?_ ?_ ?_
                 (rotate_left; ·(intro w'; go_simp; with_reducible rfl)); (rotate_left; ·(simp only [Act.put, pq_z126]; rfl))
                 refine pu_z126 24 (some 42) ?_ mz126_25 rfl rfl (any_of HT_.out (by kernel_rfl)) (fun _ _ _ h => h) (Or.inl ⟨by rfl, ?_⟩) ?_ ?_ ?_
                 (rotate_left; ·(intro w'; go_simp; with_reducible rfl)); (rotate_left; ·(simp only [Act.put, pq_z126]; rfl))
                 refine pu_z126 25 (some 43) ?_ mz126_26 rfl rfl (any_of HT_.out (by kernel_rfl)) (fun _ _ _ h => h) (Or.inl ⟨by rfl, ?_⟩) ?_ ?_ ?_
                 (rotate_left; ·(intro w'; go_simp; with_reducible rfl)); (rotate_left; ·(simp only [Act.put, pq_z126]; rfl))
                 refine pu_z126 27 (some 45) ?_ mz126_27 rfl rfl (any_of HT_.out (by kernel_rfl)) (fun _ _ _ h => h) (Or.inl ⟨by rfl, ?_⟩) ?_ ?_ ?_
                 (rotate_left; ·(intro w'; go_simp; with_reducible rfl)); (rotate_left; ·(simp only [Act.put, pq_z126]; rfl))
                 refine take_ (i := 26) (N := some 44) (v := ?_) (a' := ?_) mz126_28 rfl rfl (take_ofW HT_.out HW_.out (by kernel_rfl)) (fun _ _ _ h => h) (Or.inl ⟨by rfl, ?_⟩) hHeld ?_ ?_
                 (rotate_left; ·(rintro w' ⟨s0, s1, s2, s3, s4, s5, s6, s7⟩; go_simp; with_reducible rfl)); (rotate_left; ·(simp only [Act.put, pq_z126]; rfl))
                 refine take_ (i := 28) (N := some 46) (v := ?_) (a' := ?_) mz126_29 rfl rfl (take_ofW HT_.out HW_.out (by kernel_rfl)) (fun _ _ _ h => h) (Or.inl ⟨by rfl, ?_⟩) hHeld ?_ ?_
                 (rotate_left; ·(rintro w' ⟨s0, s1, s2, s3, s4, s5, s6, s7⟩; go_simp; with_reducible rfl)); (rotate_left; ·(simp only [Act.put, pq_z126]; rfl))
                 refine pu_z126 29 (some 47) ?_ mz126_30 rfl rfl (any_of HT_.out (by kernel_rfl)) (fun _ _ _ h => h) (Or.inl ⟨by rfl, ?_⟩) ?_ ?_ ?_
                 (rotate_left; ·(intro w'; go_simp; with_reducible rfl)); (rotate_left; ·(simp only [Act.put, pq_z126]; rfl))
                 refine pu_z126 30 (some 48) ?_ mz126_31 rfl rfl (any_of HT_.out (by kernel_rfl)) (fun _ _ _ h => h) (Or.inl ⟨by rfl, ?_⟩) ?_ ?_ ?_
                 (rotate_left; ·(intro w'; go_simp; with_reducible rfl)); (rotate_left; ·(simp only [Act.put, pq_z126]; rfl))
                 refine pu_z126 31 (some 49) ?_ mz126_32 rfl rfl (any_of HT_.out (by kernel_rfl)) (fun _ _ _ h => h) (Or.inl ⟨by rfl, ?_⟩) ?_ ?_ ?_
                 (rotate_left; ·(intro w'; go_simp; with_reducible rfl)); (rotate_left; ·(simp only [Act.put, pq_z126]; rfl))
                 refine pu_z126 32 (some 50) ?_ mz126_33 rfl rfl (any_of HT_.out (by kernel_rfl)) (fun _ _ _ h => h) (Or.inl ⟨by rfl, ?_⟩) ?_ ?_ ?_
                 (rotate_left; ·(intro w'; go_simp; with_reducible rfl)); (rotate_left; ·(simp only [Act.put, pq_z126]; rfl))
                 refine pu_z126 33 (some 51) ?_ mz126_34 rfl rfl (any_of HT_.out (by kernel_rfl)) (fun _ _ _ h => h) (Or.inl ⟨by rfl, ?_⟩) ?_ ?_ ?_
                 (rotate_left; ·(intro w'; go_simp; with_reducible rfl)); (rotate_left; ·(simp only [Act.put, pq_z126]; rfl))
                 refine pu_z126 34 (some 52) ?_ mz126_35 rfl rfl (any_of HT_.out (by kernel_rfl)) (fun _ _ _ h => h) (Or.inl ⟨by rfl, ?_⟩) ?_ ?_ ?_
                 (rotate_left; ·(intro w'; go_simp; with_reducible rfl)); (rotate_left; ·(simp only [Act.put, pq_z126]; rfl))
                 refine pu_z126 35 (some 53) ?_ mz126_36 rfl rfl (any_of HT_.out (by kernel_rfl)) (fun _ _ _ h => h) (Or.inl ⟨by rfl, ?_⟩) ?_ ?_ ?_
                 (rotate_left; ·(intro w'; go_simp; with_reducible rfl)); (rotate_left; ·(simp only [Act.put, pq_z126]; rfl))
                 refine pu_z126 37 (some 55) ?_ mz126_57 rfl rfl (any_of HT_.out (by kernel_rfl)) (fun _ _ _ h => h) (Or.inl ⟨by rfl, ?_⟩) ?_ ?_ ?_
                 (rotate_left; ·(intro w'; go_simp; with_reducible rfl)); (rotate_left; ·(simp only [Act.put, pq_z126]; rfl))
                 refine pu_z126 38 (some 56) ?_ mz126_58 rfl rfl (any_of HT_.out (by kernel_rfl)) (fun _ _ _ h => h) (Or.inl ⟨by rfl, ?_⟩) ?_ ?_ ?_
                 (rotate_left; ·(intro w'; go_simp; with_reducible rfl)); (rotate_left; ·(simp only [Act.put, pq_z126]; rfl))
                 refine pu_z126 39 (some 57) ?_ mz126_59 rfl rfl (any_of HT_.out (by kernel_rfl)) (fun _ _ _ h => h) (Or.inl ⟨by rfl, ?_⟩) ?_ ?_ ?_
                 (rotate_left; ·(intro w'; go_simp; with_reducible rfl)); (rotate_left; ·(simp only [Act.put, pq_z126]; rfl))
                 refine pu_z126 40 (some 58) ?_ mz126_60 rfl rfl (any_of HT_.out (by kernel_rfl)) (fun _ _ _ h => h) (Or.inl ⟨by rfl, ?_⟩) ?_ ?_ ?_
                 (rotate_left; ·(intro w'; go_simp; with_reducible rfl)); (rotate_left; ·(simp only [Act.put, pq_z126]; rfl))
                 refine pu_z126 41 (some 59) ?_ mz126_61 rfl rfl (any_of HT_.out (by kernel_rfl)) (fun _ _ _ h => h) (Or.inl ⟨by rfl, ?_⟩) ?_ ?_ ?_
                 (rotate_left; ·(intro w'; go_simp; with_reducible rfl)); (rotate_left; ·(simp only [Act.put, pq_z126]; rfl))
                 refine take_ (i := 36) (N := some 54) (v := ?_) (a' := ?_) mz126_42 rfl rfl (take_ofW HT_.out HW_.out (by kernel_rfl)) (fun _ _ _ h => h) (Or.inl ⟨by rfl, ?_⟩) hHeld ?_ ?_
                 (rotate_left; ·(rintro w' ⟨s0, s1, s2, s3, s4, s5, s6, s7⟩; go_simp; with_reducible rfl)); (rotate_left; ·(simp only [Act.put, pq_z126]; rfl))
                 refine take_ (i := 42) (N := some 60) (v := ?_) (a' := ?_) mz126_43 rfl rfl (take_ofW HT_.out HW_.out (by kernel_rfl)) (fun _ _ _ h => h) (Or.inl ⟨by rfl, ?_⟩) hHeld ?_ ?_
                 (rotate_left; ·(rintro w' ⟨s0, s1, s2, s3, s4, s5, s6, s7⟩; go_simp; with_reducible rfl)); (rotate_left; ·(simp only [Act.put, pq_z126]; rfl))
                 refine one_ (i := 43) (N := some 61) mz126_44 rfl rfl (one_of HT_.out (by kernel_rfl)) (by decide) (fun K hK => ?_)
                 refine goes_ Try.func159 (by kernel_rfl) rfl #[.agg #[.int .i64 ((rd_T144 l0 x3_1).f0.f0), .int .i64 ((rd_T144 l0 x3_1).f0.f1)], .agg #[.int .i64 ((rd_T144 l0 (ji19)).f0.f0), .int .i64 ((rd_T144 l0 (ji19)).f0.f1)]] (by rfl) rfl rfl (by (try simp only [List.map_toArray, List.map_cons, List.map_nil]); first | done | (simp only [hji19]; rfl) | rfl | (simp only [List.length_drop, List.length_take]; rfl)) ?_
                 with_reducible refine (spec_l10Less.calls ((rd_T144 l0 x3_1).f0.f0) ((rd_T144 l0 x3_1).f0.f1) ((rd_T144 l0 (ji19)).f0.f0) ((rd_T144 l0 (ji19)).f0.f1) false _ A22.out).mono ?_
                 rintro e w44 ⟨rfl, hb⟩
                 refine ⟨_, rfl, ?_⟩
                 have n0_ := Aside0.mk (blk_below (g := gb669) (o := .cells #[.int .i64 ((rd_T144 l0 x3_1).f0.f0), .int .i64 ((rd_T144 l0 x3_1).f0.f1), .int .i64 ((rd_T144 l0 x3_1).f1), .int .i64 ((rd_T144 l0 x3_1).f2)] 144 (0, 0)) (by (with_reducible repeat (first | refine blk_drewN ?_ _ | refine blk_drew ?_ | refine blk_alloc ?_ _)); exact BK669.out) hb)
                 have n1_ := Aside0.mk (below_step (by repeat (first | (with_reducible first | exact HB.out | apply below_alloc | apply pw_below_drewN | apply below_drew1 | refine below_set ?_ GE669.out) | exact HB.out)) hb)
                 clear BK669
                 clear HB
                 have BK669 := n0_
                 have HB := n1_
                 clear n0_ n1_
                 (try clear hb)
                 (try clear hb2)
                 (try clear hk)
                 (try clear hi)
                 have q45 : (x3_1 : Int) ≤ ((l0.length : Int) : Int) := of_decide_eq_true (by first | (with_reducible assumption) | assumption)
                 obtain ⟨i045, hi045, _, hsz45, _⟩ := info_parts info144
                 have hroom45 : l0.length ≤ c0 := HC0.out
                 have hC45 : Kd.C k144 _ (some ad668) l0.length l0 := HR0.out
                 have hcut45 := cut_to (P := Try.prog) 98 144 .i64 Try.underlying98 hi045 (some ad668) l0.length c0 x3_1 (of_decide_eq_true (by first | (with_reducible assumption) | assumption)) q45 hroom45
                 have hr45 := Kd.C_take (m := (x3_1 : Int).toNat) hC45 (by omega)
                 have hy45 : y676.length = (x3_1 : Int).toNat := (by rw [Ny676.out, List.length_take]; omega)
                 rw [← Ny676.out] at hr45
                 rw [← hy45] at hcut45
                 have HR679 := Aside0.mk hr45
                 have HC679 := Aside0.mk (show y676.length ≤ c0 from by omega)
                 clear hr45 hC45 hroom45 hi045 hsz45
                 have KY45 := Aside0.mk hy45
                 clear hy45
                 replace q45 := eq_true q45
                 refine hK.out _ _ ⟨(blk_cell BK669.out 0).trans rfl, (blk_cell BK669.out 1).trans rfl, (blk_cell BK669.out 2).trans rfl, (blk_cell BK669.out 3).trans rfl, ((HB.out.cell (World.block_lt_of_cell? w _ hw674_0)).trans hw674_0), ((HB.out.cell (World.block_lt_of_cell? w _ hw674_1)).trans hw674_1), ((HB.out.cell (World.block_lt_of_cell? w _ hw674_2)).trans hw674_2), ((HB.out.cell (World.block_lt_of_cell? w _ hw674_3)).trans hw674_3)⟩ (fun hHeld => ?_)
                 clear hK K
                 refine norm_ (a' := ?_) ?_ ?_
                 (rotate_left; ·(show Act.put _ (some 61) _ = _; simp only [Act.put, pq_z126]; rfl))
                 refine pu_z126 44 (some 62) ?_ mz126_45 rfl rfl (any_of HT_.out (by kernel_rfl)) (fun _ _ _ h => h) (Or.inl ⟨by rfl, ?_⟩) ?_ ?_ ?_
                 (rotate_left; ·(intro w'; go_simp; with_reducible rfl)); (rotate_left; ·(simp only [Act.put, pq_z126]; rfl))
                 refine pu_z126 45 (some 63) ?_ mz126_46 rfl rfl (any_of HT_.out (by kernel_rfl)) (fun _ _ _ h => h) (Or.inl ⟨by rfl, ?_⟩) ?_ ?_ ?_
                 (rotate_left; ·(intro w'; go_simp; with_reducible rfl)); (rotate_left; ·(simp only [Act.put, pq_z126]; rfl))
                 refine pu_z126 46 (some 64) ?_ mz126_47 rfl rfl (any_of HT_.out (by kernel_rfl)) (fun _ _ _ h => h) (Or.inl ⟨by rfl, ?_⟩) ?_ ?_ ?_
                 (rotate_left; ·(intro w'; go_simp; with_reducible rfl)); (rotate_left; ·(simp only [Act.put, pq_z126]; rfl))
                 refine pu_z126 47 (some 65) ?_ mz126_48 rfl rfl (any_of HT_.out (by kernel_rfl)) (fun _ _ _ h => h) (Or.inl ⟨by rfl, ?_⟩) ?_ ?_ ?_
                 (rotate_left; ·(intro w'; go_simp; with_reducible rfl)); (rotate_left; ·(simp only [Act.put, pq_z126]; rfl))
                 refine pu_z126 48 (some 66) ?_ mz126_49 rfl rfl (any_of HT_.out (by kernel_rfl)) (fun _ _ _ h => h) (Or.inl ⟨by rfl, ?_⟩) ?_ ?_ ?_
                 (rotate_left; ·(intro w'; go_simp; with_reducible rfl)); (rotate_left; ·(simp only [Act.put, pq_z126]; rfl))
                 refine pu_z126 49 (some 67) ?_ mz126_50 rfl rfl (any_of HT_.out (by kernel_rfl)) (fun _ _ _ h => h) (Or.inl ⟨by rfl, ?_⟩) ?_ ?_ ?_
                 (rotate_left; ·(intro w'; go_simp; with_reducible rfl)); (rotate_left; ·(simp only [Act.put, pq_z126]; rfl))
                 refine pu_z126 50 (some 68) ?_ mz126_51 rfl rfl (any_of HT_.out (by kernel_rfl)) (fun _ _ _ h => h) (Or.inl ⟨by rfl, ?_⟩) ?_ ?_ ?_
                 (rotate_left; ·(intro w'; go_simp; with_reducible rfl)); (rotate_left; ·(simp only [Act.put, pq_z126]; rfl))
                 refine pu_z126 52 (some 70) ?_ mz126_62 rfl rfl (any_of HT_.out (by kernel_rfl)) (fun _ _ _ h => h) (Or.inl ⟨by rfl, ?_⟩) ?_ ?_ ?_
                 (rotate_left; ·(intro w'; go_simp; with_reducible rfl)); (rotate_left; ·(simp only [Act.put, pq_z126]; rfl))
                 refine take_ (i := 51) (N := some 69) (v := ?_) (a' := ?_) mz126_53 rfl rfl (take_ofW HT_.out HW_.out (by kernel_rfl)) (fun _ _ _ h => h) (Or.inl ⟨by rfl, ?_⟩) hHeld ?_ ?_
                 (rotate_left; ·(rintro w' ⟨s0, s1, s2, s3, s4, s5, s6, s7⟩; go_simp; with_reducible rfl)); (rotate_left; ·(simp only [Act.put, pq_z126]; rfl))
                 refine take_ (i := 53) (N := some 71) (v := ?_) (a' := ?_) mz126_54 rfl rfl (take_ofW HT_.out HW_.out (by kernel_rfl)) (fun _ _ _ h => h) (Or.inl ⟨by rfl, ?_⟩) hHeld ?_ ?_
                 (rotate_left; ·(rintro w' ⟨s0, s1, s2, s3, s4, s5, s6, s7⟩; go_simp; with_reducible rfl)); (rotate_left; ·(simp only [Act.put, pq_z126]; rfl))
                 refine one_ (i := 54) (N := some 72) mz126_55 rfl rfl (one_of HT_.out (by kernel_rfl)) (by decide) (fun K hK => ?_)
                 refine goes_ Try.func160 (by kernel_rfl) rfl #[.slice (some ad668) y676.length c0, .agg #[.int .i64 ((rd_T144 l0 x3_1).f0.f0), .int .i64 ((rd_T144 l0 x3_1).f0.f1)], .int .i64 ((rd_T144 l0 x3_1).f1)] (by rfl) rfl rfl (by (try simp only [List.map_toArray, List.map_cons, List.map_nil]); first | done | rfl | (simp only [List.length_drop, List.length_take]; rfl)) ?_
                 with_reducible refine (spec_l10Known.calls k1 _ _ y676 ((rd_T144 l0 x3_1).f0.f0) ((rd_T144 l0 x3_1).f0.f1) ((rd_T144 l0 x3_1).f1) false _ ?side1 ?side2 A31.out).mono ?_
                 (case side1 => repeat (first | exact (Kd.C_below HR679.out HB.out) | (with_reducible refine Kd.C_alloc ?_ _) | (with_reducible refine Kd.C_drewN ?_ _) | (with_reducible refine Kd.C_drew ?_)))
                 (case side2 => exact HC679.out)
                 rintro e w46 ⟨rfl, hb⟩
                 refine ⟨_, rfl, ?_⟩
                 have n0_ := Aside0.mk (blk_below (g := gb669) (o := .cells #[.int .i64 ((rd_T144 l0 x3_1).f0.f0), .int .i64 ((rd_T144 l0 x3_1).f0.f1), .int .i64 ((rd_T144 l0 x3_1).f1), .int .i64 ((rd_T144 l0 x3_1).f2)] 144 (0, 0)) (by (with_reducible repeat (first | refine blk_drewN ?_ _ | refine blk_drew ?_ | refine blk_alloc ?_ _)); exact BK669.out) hb)
                 have n1_ := Aside0.mk (below_step (by repeat (first | (with_reducible first | exact HB.out | apply below_alloc | apply pw_below_drewN | apply below_drew1 | refine below_set ?_ GE669.out) | exact HB.out)) hb)
                 clear BK669
                 clear HB
                 have BK669 := n0_
                 have HB := n1_
                 clear n0_ n1_
                 (try clear hb)
                 (try clear hb2)
                 (try clear hk)
                 (try clear hi)
                 refine hK.out _ _ ⟨(blk_cell BK669.out 0).trans rfl, (blk_cell BK669.out 1).trans rfl, (blk_cell BK669.out 2).trans rfl, (blk_cell BK669.out 3).trans rfl, ((HB.out.cell (World.block_lt_of_cell? w _ hw674_0)).trans hw674_0), ((HB.out.cell (World.block_lt_of_cell? w _ hw674_1)).trans hw674_1), ((HB.out.cell (World.block_lt_of_cell? w _ hw674_2)).trans hw674_2), ((HB.out.cell (World.block_lt_of_cell? w _ hw674_3)).trans hw674_3)⟩ (fun hHeld => ?_)
                 clear hK K
                 refine norm_ (a' := ?_) ?_ ?_
                 (rotate_left; ·(show Act.put _ (some 72) _ = _; simp only [Act.put, pq_z126]; rfl))
                 refine pu_z126 55 (some 73) ?_ mz126_56 rfl rfl (any_of HT_.out (by kernel_rfl)) (fun _ _ _ h => h) (Or.inl ⟨by rfl, ?_⟩) ?_ ?_ ?_
                 (rotate_left; ·(intro w'; go_simp; with_reducible rfl)); (rotate_left; ·(simp only [Act.put, pq_z126]; rfl))
                 refine done_ (done_of HT_.out (by kernel_rfl)) ?_
                 try go_wp2
                 go_roundg k1
                 case measure => have := HK1.out; omega
                 case rel => exact ⟨(wrap64 (x3_1 + 1)), (by first | rfl | (simp; done) | (simp [*]; done)), H', ⟨by have := HK1.out; omega⟩, ⟨by repeat (first | (with_reducible first | exact HB.out | apply below_alloc | apply pw_below_drewN | apply below_drew1 | refine below_set ?_ GE669.out) | exact HB.out)⟩⟩
               ·rw [if_neg c30] at H
                exact absurd H (by simp)
             ·rw [if_neg c21] at H
              exact absurd H (by simp)
            ·rw [if_neg c20] at H
             exact absurd H (by simp)
           ·rw [if_neg c18] at H
            have c18b0 : decide (0 < x3_1) = false := decide_eq_false c18
            clear c18
            have c47b0 := eq_true (of_decide_eq_true (by first | (with_reducible assumption) | assumption) : 0 ≤ x3_1)
            by_cases c48 : x3_1 ≤ (l0.length : Int)
            ·rw [if_pos c48] at H
             have c48b0 := eq_true c48
             have c48b1 : decide (x3_1 ≤ (l0.length : Int)) = true := decide_eq_true c48
             clear c48
             obtain ⟨y681, hy681⟩ : ∃ y_ : List (S144), y_ = (l0.take (x3_1 : Int).toNat) := ⟨_, rfl⟩
             replace H : ((spec_l10Known.f k1 y681 ((rd_T144 l0 x3_1).f0.f0) ((rd_T144 l0 x3_1).f0.f1) ((rd_T144 l0 x3_1).f1)).bind fun t685 => (if t685 = true then (some false) else (spec_l10OK.l0 k1 l0 (wrap64 (x3_1 + 1))))) = some r := by first | (rw [hy681]; with_reducible exact H) | (have H2_ := (Option.bind_some _ _).symm.trans H; rw [hy681]; with_reducible exact H2_) | (have H2_ := (Option.bind_some _ _).symm.trans H; with_reducible exact H2_) | with_reducible exact H | (rw [hy681]; exact H) | exact H
             have Ny681 := Aside0.mk hy681
             clear hy681
             replace H := Option.bind_eq_some_iff.mp H
             obtain ⟨t685, A490, H⟩ := H
             replace H : (if t685 = true then (some false) else (spec_l10OK.l0 k1 l0 (wrap64 (x3_1 + 1)))) = some r := H
             have A49 := Aside0.mk A490
             clear A490
             by_cases c50 : t685 = true
             ·subst c50
              have H1 : (some false) = some r := by rw [if_pos rfl] at H; exact H
              clear H
              have H := H1
              clear H1
              obtain rfl := Option.some.inj H
              have p668 : 0 ≤ (x3_1 : Int) := of_decide_eq_true (by first | (with_reducible assumption) | assumption)
              have q668 : x3_1 < (l0.length : Int) := of_decide_eq_true (by first | (with_reducible assumption) | assumption)
              obtain ⟨ad668, e668, hx668_0, hx668_1, hx668_2, hx668_3⟩ := at_T144 HR0.out x3_1 p668 q668
              cases e668
              replace hx668_0 := (HB.out.cell (World.block_lt_of_cell? w _ hx668_0)).trans hx668_0
              replace hx668_1 := (HB.out.cell (World.block_lt_of_cell? w _ hx668_1)).trans hx668_1
              replace hx668_2 := (HB.out.cell (World.block_lt_of_cell? w _ hx668_2)).trans hx668_2
              replace hx668_3 := (HB.out.cell (World.block_lt_of_cell? w _ hx668_3)).trans hx668_3
              replace p668 := eq_true p668
              replace q668 := eq_true q668
              try go_wp2_with (first | ((with_reducible refine gate_dst (N := 4) rfl ?_); refine box_event ?hg (N := 4) ?hd (cs := #[.int .i64 0, .int .i64 0, .int .i64 0, .int .i64 0]) (t := 144) ?hr ?_; (case hd => rfl); (case hg => rfl); (case hr => first | (go_simp; done) | (go_simp; rfl)); intro gb669 hg w51 hbox hb; have n0_ := Aside0.mk (below_step (by repeat (first | (with_reducible first | exact HB.out | apply below_alloc | apply pw_below_drewN | apply below_drew1) | exact HB.out)) hb); have n1_ := Aside0.mk (hbox); have n2_ := Aside0.mk ((by rw [hg]; exact (below_size (by repeat (first | (with_reducible first | exact HB.out | apply below_alloc | apply pw_below_drewN | apply below_drew1) | exact HB.out))) : w.heap.size ≤ gb669)); have n3_ := Aside0.mk ((by rw [hg]; exact (below_size (by repeat (first | (with_reducible first | exact HB.out | apply below_alloc | apply pw_below_drewN | apply below_drew1) | exact HB.out))) : w.heap.size ≤ gb669)); clear HB; have HB := n0_; have BK669 := n1_; have GW669 := n2_; have GE669 := n3_; clear n0_ n1_ n2_ n3_; clear hb hbox hg; have hcz52_0 : w51.cell? ⟨gb669, 0, none⟩ = some (.int .i64 0) := (blk_cell BK669.out 0).trans rfl; have hcz52_1 : w51.cell? ⟨gb669, 1, none⟩ = some (.int .i64 0) := (blk_cell BK669.out 1).trans rfl; have hcz52_2 : w51.cell? ⟨gb669, 2, none⟩ = some (.int .i64 0) := (blk_cell BK669.out 2).trans rfl; have hcz52_3 : w51.cell? ⟨gb669, 3, none⟩ = some (.int .i64 0) := (blk_cell BK669.out 3).trans rfl; have hfz52_0 := blk_frozen BK669.out 0; have hfz52_1 := blk_frozen BK669.out 1; have hfz52_2 := blk_frozen BK669.out 2; have hfz52_3 := blk_frozen BK669.out 3))
              have n0_ : Aside0 (((((w51.setCell ⟨gb669, 0, none⟩ (.int .i64 ((rd_T144 l0 x3_1).f0.f0))).setCell ⟨gb669, 1, none⟩ (.int .i64 ((rd_T144 l0 x3_1).f0.f1))).setCell ⟨gb669, 2, none⟩ (.int .i64 ((rd_T144 l0 x3_1).f1))).setCell ⟨gb669, 3, none⟩ (.int .i64 ((rd_T144 l0 x3_1).f2))).heap[gb669]? = some (.cells #[.int .i64 ((rd_T144 l0 x3_1).f0.f0), .int .i64 ((rd_T144 l0 x3_1).f0.f1), .int .i64 ((rd_T144 l0 x3_1).f1), .int .i64 ((rd_T144 l0 x3_1).f2)] 144 (0, 0))) := ⟨by (with_reducible repeat (first | refine blk_drewN ?_ _ | refine blk_drew ?_ | refine blk_alloc ?_ _)); refine blk_put (cs := #[.int .i64 ((rd_T144 l0 x3_1).f0.f0), .int .i64 ((rd_T144 l0 x3_1).f0.f1), .int .i64 ((rd_T144 l0 x3_1).f1), .int .i64 0]) ?_ 3 _ rfl; (with_reducible repeat (first | refine blk_drewN ?_ _ | refine blk_drew ?_ | refine blk_alloc ?_ _)); refine blk_put (cs := #[.int .i64 ((rd_T144 l0 x3_1).f0.f0), .int .i64 ((rd_T144 l0 x3_1).f0.f1), .int .i64 0, .int .i64 0]) ?_ 2 _ rfl; (with_reducible repeat (first | refine blk_drewN ?_ _ | refine blk_drew ?_ | refine blk_alloc ?_ _)); refine blk_put (cs := #[.int .i64 ((rd_T144 l0 x3_1).f0.f0), .int .i64 0, .int .i64 0, .int .i64 0]) ?_ 1 _ rfl; (with_reducible repeat (first | refine blk_drewN ?_ _ | refine blk_drew ?_ | refine blk_alloc ?_ _)); refine blk_put (cs := #[.int .i64 0, .int .i64 0, .int .i64 0, .int .i64 0]) ?_ 0 _ rfl; (with_reducible repeat (first | refine blk_drewN ?_ _ | refine blk_drew ?_ | refine blk_alloc ?_ _)); exact BK669.out⟩
              have n1_ : Aside0 (Below w.heap.size w ((((w51.setCell ⟨gb669, 0, none⟩ (.int .i64 ((rd_T144 l0 x3_1).f0.f0))).setCell ⟨gb669, 1, none⟩ (.int .i64 ((rd_T144 l0 x3_1).f0.f1))).setCell ⟨gb669, 2, none⟩ (.int .i64 ((rd_T144 l0 x3_1).f1))).setCell ⟨gb669, 3, none⟩ (.int .i64 ((rd_T144 l0 x3_1).f2)))) := ⟨by repeat (first | (with_reducible first | exact HB.out | apply below_alloc | apply pw_below_drewN | apply below_drew1 | refine below_set ?_ GE669.out) | exact HB.out)⟩
              (try clear BK669)
              (try clear HB)
              generalize ((((w51.setCell ⟨gb669, 0, none⟩ (.int .i64 ((rd_T144 l0 x3_1).f0.f0))).setCell ⟨gb669, 1, none⟩ (.int .i64 ((rd_T144 l0 x3_1).f0.f1))).setCell ⟨gb669, 2, none⟩ (.int .i64 ((rd_T144 l0 x3_1).f1))).setCell ⟨gb669, 3, none⟩ (.int .i64 ((rd_T144 l0 x3_1).f2))) = w53 at n0_ n1_ ⊢
              have BK669 := n0_
              have HB := n1_
              clear n0_ n1_
              have n0_ := Aside0.mk (blk_drew BK669.out)
              have n1_ := Aside0.mk (below_drew1 HB.out)
              clear BK669
              clear HB
              have BK669 := n0_
              have HB := n1_
              clear n0_ n1_
              refine start_ (n := 56) (S := fun w' => w'.cell? ⟨gb669, 0, none⟩ = some (.int .i64 ((rd_T144 l0 x3_1).f0.f0)) ∧ w'.cell? ⟨gb669, 1, none⟩ = some (.int .i64 ((rd_T144 l0 x3_1).f0.f1)) ∧ w'.cell? ⟨gb669, 2, none⟩ = some (.int .i64 ((rd_T144 l0 x3_1).f1)) ∧ w'.cell? ⟨gb669, 3, none⟩ = some (.int .i64 ((rd_T144 l0 x3_1).f2))) (ds := []) mz126_0 (by kernel_rfl) rfl rfl ⟨(blk_cell BK669.out 0).trans rfl, (blk_cell BK669.out 1).trans rfl, (blk_cell BK669.out 2).trans rfl, (blk_cell BK669.out 3).trans rfl⟩ (fun hHeld => ?_); refine with_tabW spec_l10OK.tab7 spec_l10OK.bits7 (fun HT_ HW_ => ?_)
              generalize w53.drew = w54 at BK669 HB hHeld ⊢
              refine pu_z126 0 (some 18) ?_ mz126_1 rfl rfl (any_of HT_.out (by kernel_rfl)) (fun _ _ _ h => h) (Or.inl ⟨by rfl, ?_⟩) ?_ ?_ ?_
              (rotate_left; ·(intro w'; go_simp; with_reducible rfl)); (rotate_left; ·(simp only [Act.put, pq_z126]; rfl))
              refine pu_z126 1 (some 19) ?_ mz126_2 rfl rfl (any_of HT_.out (by kernel_rfl)) (fun _ _ _ h => h) (Or.inl ⟨by rfl, ?_⟩) ?_ ?_ ?_
              (rotate_left; ·(intro w'; go_simp; with_reducible rfl)); (rotate_left; ·(simp only [Act.put, pq_z126]; rfl))
              refine take_ (i := 2) (N := some 20) (v := ?_) (a' := ?_) mz126_3 rfl rfl (take_ofW HT_.out HW_.out (by kernel_rfl)) (fun _ _ _ h => h) (Or.inl ⟨by rfl, ?_⟩) hHeld ?_ ?_
              (rotate_left; ·(rintro w' ⟨s0, s1, s2, s3⟩; go_simp; with_reducible rfl)); (rotate_left; ·(simp only [Act.put, pq_z126]; rfl))
              refine one_ (i := 3) (N := some 21) mz126_4 rfl rfl (one_of HT_.out (by kernel_rfl)) (by decide) (fun K hK => ?_)
              refine goes_ Try.func96 (by kernel_rfl) rfl #[.int .i64 ((rd_T144 l0 x3_1).f0.f0), .int .i64 1, .int .i64 4] (by rfl) rfl rfl (by (try simp only [List.map_toArray, List.map_cons, List.map_nil]); first | done | rfl | (simp only [List.length_drop, List.length_take]; rfl)) ?_
              with_reducible refine (spec_l00In.calls ((rd_T144 l0 x3_1).f0.f0) 1 4 true _ A5.out).mono ?_
              rintro e w' ⟨rfl, ⟨nd, rfl⟩⟩
              refine ⟨_, rfl, ?_⟩
              refine hK.out _ _ ⟨(blk_cell BK669.out 0).trans rfl, (blk_cell BK669.out 1).trans rfl, (blk_cell BK669.out 2).trans rfl, (blk_cell BK669.out 3).trans rfl⟩ (fun hHeld => ?_)
              clear hK K
              refine norm_ (a' := ?_) ?_ ?_
              (rotate_left; ·(show Act.put _ (some 21) _ = _; simp only [Act.put, pq_z126]; rfl))
              refine pu_z126 4 (some 22) ?_ mz126_5 rfl rfl (any_of HT_.out (by kernel_rfl)) (fun _ _ _ h => h) (Or.inl ⟨by rfl, ?_⟩) ?_ ?_ ?_
              (rotate_left; ·(intro w'; go_simp; with_reducible rfl)); (rotate_left; ·(simp only [Act.put, pq_z126]; rfl))
              refine pu_z126 5 (some 23) ?_ mz126_6 rfl rfl (any_of HT_.out (by kernel_rfl)) (fun _ _ _ h => h) (Or.inl ⟨by rfl, ?_⟩) ?_ ?_ ?_
              (rotate_left; ·(intro w'; go_simp; with_reducible rfl)); (rotate_left; ·(simp only [Act.put, pq_z126]; rfl))
              refine pu_z126 6 (some 24) ?_ mz126_7 rfl rfl (any_of HT_.out (by kernel_rfl)) (fun _ _ _ h => h) (Or.inl ⟨by rfl, ?_⟩) ?_ ?_ ?_
              (rotate_left; ·(intro w'; go_simp; with_reducible rfl)); (rotate_left; ·(simp only [Act.put, pq_z126]; rfl))
              refine pu_z126 7 (some 25) ?_ mz126_8 rfl rfl (any_of HT_.out (by kernel_rfl)) (fun _ _ _ h => h) (Or.inl ⟨by rfl, ?_⟩) ?_ ?_ ?_
              (rotate_left; ·(intro w'; go_simp; with_reducible rfl)); (rotate_left; ·(simp only [Act.put, pq_z126]; rfl))
              refine take_ (i := 8) (N := some 26) (v := ?_) (a' := ?_) mz126_9 rfl rfl (take_ofW HT_.out HW_.out (by kernel_rfl)) (fun _ _ _ h => h) (Or.inl ⟨by rfl, ?_⟩) hHeld ?_ ?_
              (rotate_left; ·(rintro w' ⟨s0, s1, s2, s3⟩; go_simp; with_reducible rfl)); (rotate_left; ·(simp only [Act.put, pq_z126]; rfl))
              refine one_ (i := 9) (N := some 27) mz126_10 rfl rfl (one_of HT_.out (by kernel_rfl)) (by decide) (fun K hK => ?_)
              refine goes_ Try.func96 (by kernel_rfl) rfl #[.int .i64 ((rd_T144 l0 x3_1).f0.f1), .int .i64 0, .int .i64 15] (by rfl) rfl rfl (by (try simp only [List.map_toArray, List.map_cons, List.map_nil]); first | done | rfl | (simp only [List.length_drop, List.length_take]; rfl)) ?_
              with_reducible refine (spec_l00In.calls ((rd_T144 l0 x3_1).f0.f1) 0 15 true _ A7.out).mono ?_
              rintro e w' ⟨rfl, ⟨nd, rfl⟩⟩
              refine ⟨_, rfl, ?_⟩
              refine hK.out _ _ ⟨(blk_cell BK669.out 0).trans rfl, (blk_cell BK669.out 1).trans rfl, (blk_cell BK669.out 2).trans rfl, (blk_cell BK669.out 3).trans rfl⟩ (fun hHeld => ?_)
              clear hK K
              refine norm_ (a' := ?_) ?_ ?_
              (rotate_left; ·(show Act.put _ (some 27) _ = _; simp only [Act.put, pq_z126]; rfl))
              refine pu_z126 10 (some 28) ?_ mz126_11 rfl rfl (any_of HT_.out (by kernel_rfl)) (fun _ _ _ h => h) (Or.inl ⟨by rfl, ?_⟩) ?_ ?_ ?_
              (rotate_left; ·(intro w'; go_simp; with_reducible rfl)); (rotate_left; ·(simp only [Act.put, pq_z126]; rfl))
              refine pu_z126 11 (some 29) ?_ mz126_12 rfl rfl (any_of HT_.out (by kernel_rfl)) (fun _ _ _ h => h) (Or.inl ⟨by rfl, ?_⟩) ?_ ?_ ?_
              (rotate_left; ·(intro w'; go_simp; with_reducible rfl)); (rotate_left; ·(simp only [Act.put, pq_z126]; rfl))
              refine pu_z126 12 (some 30) ?_ mz126_13 rfl rfl (any_of HT_.out (by kernel_rfl)) (fun _ _ _ h => h) (Or.inl ⟨by rfl, ?_⟩) ?_ ?_ ?_
              (rotate_left; ·(intro w'; go_simp; with_reducible rfl)); (rotate_left; ·(simp only [Act.put, pq_z126]; rfl))
              refine pu_z126 13 (some 31) ?_ mz126_14 rfl rfl (any_of HT_.out (by kernel_rfl)) (fun _ _ _ h => h) (Or.inl ⟨by rfl, ?_⟩) ?_ ?_ ?_
              (rotate_left; ·(intro w'; go_simp; with_reducible rfl)); (rotate_left; ·(simp only [Act.put, pq_z126]; rfl))
              refine take_ (i := 14) (N := some 32) (v := ?_) (a' := ?_) mz126_15 rfl rfl (take_ofW HT_.out HW_.out (by kernel_rfl)) (fun _ _ _ h => h) (Or.inl ⟨by rfl, ?_⟩) hHeld ?_ ?_
              (rotate_left; ·(rintro w' ⟨s0, s1, s2, s3⟩; go_simp; with_reducible rfl)); (rotate_left; ·(simp only [Act.put, pq_z126]; rfl))
              refine one_ (i := 15) (N := some 33) mz126_16 rfl rfl (one_of HT_.out (by kernel_rfl)) (by decide) (fun K hK => ?_)
              refine goes_ Try.func96 (by kernel_rfl) rfl #[.int .i64 ((rd_T144 l0 x3_1).f1), .int .i64 0, .int .i64 15] (by rfl) rfl rfl (by (try simp only [List.map_toArray, List.map_cons, List.map_nil]); first | done | rfl | (simp only [List.length_drop, List.length_take]; rfl)) ?_
              with_reducible refine (spec_l00In.calls ((rd_T144 l0 x3_1).f1) 0 15 true _ A9.out).mono ?_
              rintro e w' ⟨rfl, ⟨nd, rfl⟩⟩
              refine ⟨_, rfl, ?_⟩
              refine hK.out _ _ ⟨(blk_cell BK669.out 0).trans rfl, (blk_cell BK669.out 1).trans rfl, (blk_cell BK669.out 2).trans rfl, (blk_cell BK669.out 3).trans rfl⟩ (fun hHeld => ?_)
              clear hK K
              refine norm_ (a' := ?_) ?_ ?_
              (rotate_left; ·(show Act.put _ (some 33) _ = _; simp only [Act.put, pq_z126]; rfl))
              refine pu_z126 16 (some 34) ?_ mz126_17 rfl rfl (any_of HT_.out (by kernel_rfl)) (fun _ _ _ h => h) (Or.inl ⟨by rfl, ?_⟩) ?_ ?_ ?_
              (rotate_left; ·(intro w'; go_simp; with_reducible rfl)); (rotate_left; ·(simp only [Act.put, pq_z126]; rfl))
              refine pu_z126 17 (some 35) ?_ mz126_18 rfl rfl (any_of HT_.out (by kernel_rfl)) (fun _ _ _ h => h) (Or.inl ⟨by rfl, ?_⟩) ?_ ?_ ?_
              (rotate_left; ·(intro w'; go_simp; with_reducible rfl)); (rotate_left; ·(simp only [Act.put, pq_z126]; rfl))
              refine pu_z126 18 (some 36) ?_ mz126_19 rfl rfl (any_of HT_.out (by kernel_rfl)) (fun _ _ _ h => h) (Or.inl ⟨by rfl, ?_⟩) ?_ ?_ ?_
              (rotate_left; ·(intro w'; go_simp; with_reducible rfl)); (rotate_left; ·(simp only [Act.put, pq_z126]; rfl))
              refine pu_z126 19 (some 37) ?_ mz126_20 rfl rfl (any_of HT_.out (by kernel_rfl)) (fun _ _ _ h => h) (Or.inl ⟨by rfl, ?_⟩) ?_ ?_ ?_
              (rotate_left; ·(intro w'; go_simp; with_reducible rfl)); (rotate_left; ·(simp only [Act.put, pq_z126]; rfl))
              refine take_ (i := 20) (N := some 38) (v := ?_) (a' := ?_) mz126_21 rfl rfl (take_ofW HT_.out HW_.out (by kernel_rfl)) (fun _ _ _ h => h) (Or.inl ⟨by rfl, ?_⟩) hHeld ?_ ?_
              (rotate_left; ·(rintro w' ⟨s0, s1, s2, s3⟩; go_simp; with_reducible rfl)); (rotate_left; ·(simp only [Act.put, pq_z126]; rfl))
              refine one_ (i := 21) (N := some 39) mz126_22 rfl rfl (one_of HT_.out (by kernel_rfl)) (by decide) (fun K hK => ?_)
              refine goes_ Try.func96 (by kernel_rfl) rfl #[.int .i64 ((rd_T144 l0 x3_1).f2), .int .i64 0, .int .i64 15] (by rfl) rfl rfl (by (try simp only [List.map_toArray, List.map_cons, List.map_nil]); first | done | rfl | (simp only [List.length_drop, List.length_take]; rfl)) ?_
              with_reducible refine (spec_l00In.calls ((rd_T144 l0 x3_1).f2) 0 15 true _ A11.out).mono ?_
              rintro e w' ⟨rfl, ⟨nd, rfl⟩⟩
              refine ⟨_, rfl, ?_⟩
              have q55 : (x3_1 : Int) ≤ ((l0.length : Int) : Int) := of_decide_eq_true (by first | (with_reducible assumption) | assumption)
              obtain ⟨i055, hi055, _, hsz55, _⟩ := info_parts info144
              have hroom55 : l0.length ≤ c0 := HC0.out
              have hC55 : Kd.C k144 _ (some ad668) l0.length l0 := HR0.out
              have hcut55 := cut_to (P := Try.prog) 98 144 .i64 Try.underlying98 hi055 (some ad668) l0.length c0 x3_1 (of_decide_eq_true (by first | (with_reducible assumption) | assumption)) q55 hroom55
              have hr55 := Kd.C_take (m := (x3_1 : Int).toNat) hC55 (by omega)
              have hy55 : y681.length = (x3_1 : Int).toNat := (by rw [Ny681.out, List.length_take]; omega)
              rw [← Ny681.out] at hr55
              rw [← hy55] at hcut55
              have HR684 := Aside0.mk hr55
              have HC684 := Aside0.mk (show y681.length ≤ c0 from by omega)
              clear hr55 hC55 hroom55 hi055 hsz55
              have KY55 := Aside0.mk hy55
              clear hy55
              replace q55 := eq_true q55
              refine hK.out _ _ ⟨(blk_cell BK669.out 0).trans rfl, (blk_cell BK669.out 1).trans rfl, (blk_cell BK669.out 2).trans rfl, (blk_cell BK669.out 3).trans rfl⟩ (fun hHeld => ?_)
              clear hK K
              refine norm_ (a' := ?_) ?_ ?_
              (rotate_left; ·(show Act.put _ (some 39) _ = _; simp only [Act.put, pq_z126]; rfl))
              refine pu_z126 22 (some 40) ?_ mz126_23 rfl rfl (any_of HT_.out (by kernel_rfl)) (fun _ _ _ h => h) (Or.inl ⟨by rfl, ?_⟩) ?_ ?_ ?_
              (rotate_left; ·(intro w'; go_simp; with_reducible rfl)); (rotate_left; ·(simp only [Act.put, pq_z126]; rfl))
              refine pu_z126 23 (some 41) ?_ mz126_24 rfl rfl (any_of HT_.out (by kernel_rfl)) (fun _ _ _ h => h) (Or.inl ⟨by rfl, ?_⟩) ?_ ?_ ?_
              (rotate_left; ·(intro w'; go_simp; with_reducible rfl)); (rotate_left; ·(simp only [Act.put, pq_z126]; rfl))
              refine pu_z126 24 (some 42) ?_ mz126_25 rfl rfl (any_of HT_.out (by kernel_rfl)) (fun _ _ _ h => h) (Or.inl ⟨by rfl, ?_⟩) ?_ ?_ ?_
              (rotate_left; ·(intro w'; go_simp; with_reducible rfl)); (rotate_left; ·(simp only [Act.put, pq_z126]; rfl))
              refine pu_z126 25 (some 43) ?_ mz126_26 rfl rfl (any_of HT_.out (by kernel_rfl)) (fun _ _ _ h => h) (Or.inl ⟨by rfl, ?_⟩) ?_ ?_ ?_
              (rotate_left; ·(intro w'; go_simp; with_reducible rfl)); (rotate_left; ·(simp only [Act.put, pq_z126]; rfl))
              refine pu_z126 27 (some 45) ?_ mz126_27 rfl rfl (any_of HT_.out (by kernel_rfl)) (fun _ _ _ h => h) (Or.inl ⟨by rfl, ?_⟩) ?_ ?_ ?_
              (rotate_left; ·(intro w'; go_simp; with_reducible rfl)); (rotate_left; ·(simp only [Act.put, pq_z126]; rfl))
              refine take_ (i := 26) (N := some 44) (v := ?_) (a' := ?_) mz126_28 rfl rfl (take_ofW HT_.out HW_.out (by kernel_rfl)) (fun _ _ _ h => h) (Or.inl ⟨by rfl, ?_⟩) hHeld ?_ ?_
              (rotate_left; ·(rintro w' ⟨s0, s1, s2, s3⟩; go_simp; with_reducible rfl)); (rotate_left; ·(simp only [Act.put, pq_z126]; rfl))
              refine take_ (i := 28) (N := some 46) (v := ?_) (a' := ?_) mz126_29 rfl rfl (take_ofW HT_.out HW_.out (by kernel_rfl)) (fun _ _ _ h => h) (Or.inl ⟨by rfl, ?_⟩) hHeld ?_ ?_
              (rotate_left; ·(rintro w' ⟨s0, s1, s2, s3⟩; go_simp; with_reducible rfl)); (rotate_left; ·(simp only [Act.put, pq_z126]; rfl))
              refine pu_z126 29 (some 47) ?_ mz126_30 rfl rfl (any_of HT_.out (by kernel_rfl)) (fun _ _ _ h => h) (Or.inl ⟨by rfl, ?_⟩) ?_ ?_ ?_
              (rotate_left; ·(intro w'; go_simp; with_reducible rfl)); (rotate_left; ·(simp only [Act.put, pq_z126]; rfl))
              refine pu_z126 30 (some 48) ?_ mz126_31 rfl rfl (any_of HT_.out (by kernel_rfl)) (fun _ _ _ h => h) (Or.inl ⟨by rfl, ?_⟩) ?_ ?_ ?_
              (rotate_left; ·(intro w'; go_simp; with_reducible rfl)); (rotate_left; ·(simp only [Act.put, pq_z126]; rfl))
              refine pu_z126 31 (some 49) ?_ mz126_32 rfl rfl (any_of HT_.out (by kernel_rfl)) (fun _ _ _ h => h) (Or.inl ⟨by rfl, ?_⟩) ?_ ?_ ?_
              (rotate_left; ·(intro w'; go_simp; with_reducible rfl)); (rotate_left; ·(simp only [Act.put, pq_z126]; rfl))
              refine pu_z126 32 (some 50) ?_ mz126_33 rfl rfl (any_of HT_.out (by kernel_rfl)) (fun _ _ _ h => h) (Or.inl ⟨by rfl, ?_⟩) ?_ ?_ ?_
              (rotate_left; ·(intro w'; go_simp; with_reducible rfl)); (rotate_left; ·(simp only [Act.put, pq_z126]; rfl))
              refine pu_z126 33 (some 51) ?_ mz126_34 rfl rfl (any_of HT_.out (by kernel_rfl)) (fun _ _ _ h => h) (Or.inl ⟨by rfl, ?_⟩) ?_ ?_ ?_
              (rotate_left; ·(intro w'; go_simp; with_reducible rfl)); (rotate_left; ·(simp only [Act.put, pq_z126]; rfl))
              refine pu_z126 34 (some 52) ?_ mz126_35 rfl rfl (any_of HT_.out (by kernel_rfl)) (fun _ _ _ h => h) (Or.inl ⟨by rfl, ?_⟩) ?_ ?_ ?_
              (rotate_left; ·(intro w'; go_simp; with_reducible rfl)); (rotate_left; ·(simp only [Act.put, pq_z126]; rfl))
              refine pu_z126 35 (some 53) undef mz126_36 rfl rfl (any_of HT_.out (by kernel_rfl)) (fun _ _ _ h => h) (Or.inr ⟨by rfl, rfl⟩) ?_ ?_ ?_
              (rotate_left; ·(simp only [Act.put, pq_z126]; rfl))
              refine pu_z126 36 (some 54) undef mz126_37 rfl rfl (any_of HT_.out (by kernel_rfl)) (fun _ _ _ h => h) (Or.inr ⟨by rfl, rfl⟩) ?_ ?_ ?_
              (rotate_left; ·(simp only [Act.put, pq_z126]; rfl))
              refine pu_z126 37 (some 55) undef mz126_38 rfl rfl (any_of HT_.out (by kernel_rfl)) (fun _ _ _ h => h) (Or.inr ⟨by rfl, rfl⟩) ?_ ?_ ?_
              (rotate_left; ·(simp only [Act.put, pq_z126]; rfl))
              refine pu_z126 38 (some 56) undef mz126_39 rfl rfl (any_of HT_.out (by kernel_rfl)) (fun _ _ _ h => h) (Or.inr ⟨by rfl, rfl⟩) ?_ ?_ ?_
              (rotate_left; ·(simp only [Act.put, pq_z126]; rfl))
              refine pu_z126 39 (some 57) undef mz126_40 rfl rfl (any_of HT_.out (by kernel_rfl)) (fun _ _ _ h => h) (Or.inr ⟨by rfl, rfl⟩) ?_ ?_ ?_
              (rotate_left; ·(simp only [Act.put, pq_z126]; rfl))
              refine pu_z126 40 (some 58) undef mz126_41 rfl rfl (any_of HT_.out (by kernel_rfl)) (fun _ _ _ h => h) (Or.inr ⟨by rfl, rfl⟩) ?_ ?_ ?_
              (rotate_left; ·(simp only [Act.put, pq_z126]; rfl))
              refine pu_z126 41 (some 59) undef mz126_42 rfl rfl (any_of HT_.out (by kernel_rfl)) (fun _ _ _ h => h) (Or.inr ⟨by rfl, rfl⟩) ?_ ?_ ?_
              (rotate_left; ·(simp only [Act.put, pq_z126]; rfl))
              refine pu_z126 42 (some 60) undef mz126_43 rfl rfl (any_of HT_.out (by kernel_rfl)) (fun _ _ _ h => h) (Or.inr ⟨by rfl, rfl⟩) ?_ ?_ ?_
              (rotate_left; ·(simp only [Act.put, pq_z126]; rfl))
              refine pu_z126 43 (some 61) undef mz126_44 rfl rfl (any_of HT_.out (by kernel_rfl)) (fun _ _ _ h => h) (Or.inr ⟨by rfl, rfl⟩) ?_ ?_ ?_
              (rotate_left; ·(simp only [Act.put, pq_z126]; rfl))
              refine pu_z126 44 (some 62) ?_ mz126_45 rfl rfl (any_of HT_.out (by kernel_rfl)) (fun _ _ _ h => h) (Or.inl ⟨by rfl, ?_⟩) ?_ ?_ ?_
              (rotate_left; ·(intro w'; go_simp; with_reducible rfl)); (rotate_left; ·(simp only [Act.put, pq_z126]; rfl))
              refine pu_z126 45 (some 63) ?_ mz126_46 rfl rfl (any_of HT_.out (by kernel_rfl)) (fun _ _ _ h => h) (Or.inl ⟨by rfl, ?_⟩) ?_ ?_ ?_
              (rotate_left; ·(intro w'; go_simp; with_reducible rfl)); (rotate_left; ·(simp only [Act.put, pq_z126]; rfl))
              refine pu_z126 46 (some 64) ?_ mz126_47 rfl rfl (any_of HT_.out (by kernel_rfl)) (fun _ _ _ h => h) (Or.inl ⟨by rfl, ?_⟩) ?_ ?_ ?_
              (rotate_left; ·(intro w'; go_simp; with_reducible rfl)); (rotate_left; ·(simp only [Act.put, pq_z126]; rfl))
              refine pu_z126 47 (some 65) ?_ mz126_48 rfl rfl (any_of HT_.out (by kernel_rfl)) (fun _ _ _ h => h) (Or.inl ⟨by rfl, ?_⟩) ?_ ?_ ?_
              (rotate_left; ·(intro w'; go_simp; with_reducible rfl)); (rotate_left; ·(simp only [Act.put, pq_z126]; rfl))
              refine pu_z126 48 (some 66) ?_ mz126_49 rfl rfl (any_of HT_.out (by kernel_rfl)) (fun _ _ _ h => h) (Or.inl ⟨by rfl, ?_⟩) ?_ ?_ ?_
              (rotate_left; ·(intro w'; go_simp; with_reducible rfl)); (rotate_left; ·(simp only [Act.put, pq_z126]; rfl))
              refine pu_z126 49 (some 67) ?_ mz126_50 rfl rfl (any_of HT_.out (by kernel_rfl)) (fun _ _ _ h => h) (Or.inl ⟨by rfl, ?_⟩) ?_ ?_ ?_
              (rotate_left; ·(intro w'; go_simp; with_reducible rfl)); (rotate_left; ·(simp only [Act.put, pq_z126]; rfl))
              refine pu_z126 50 (some 68) ?_ mz126_51 rfl rfl (any_of HT_.out (by kernel_rfl)) (fun _ _ _ h => h) (Or.inl ⟨by rfl, ?_⟩) ?_ ?_ ?_
              (rotate_left; ·(intro w'; go_simp; with_reducible rfl)); (rotate_left; ·(simp only [Act.put, pq_z126]; rfl))
              refine pu_z126 52 (some 70) ?_ mz126_62 rfl rfl (any_of HT_.out (by kernel_rfl)) (fun _ _ _ h => h) (Or.inl ⟨by rfl, ?_⟩) ?_ ?_ ?_
              (rotate_left; ·(intro w'; go_simp; with_reducible rfl)); (rotate_left; ·(simp only [Act.put, pq_z126]; rfl))
              refine take_ (i := 51) (N := some 69) (v := ?_) (a' := ?_) mz126_53 rfl rfl (take_ofW HT_.out HW_.out (by kernel_rfl)) (fun _ _ _ h => h) (Or.inl ⟨by rfl, ?_⟩) hHeld ?_ ?_
              (rotate_left; ·(rintro w' ⟨s0, s1, s2, s3⟩; go_simp; with_reducible rfl)); (rotate_left; ·(simp only [Act.put, pq_z126]; rfl))
              refine take_ (i := 53) (N := some 71) (v := ?_) (a' := ?_) mz126_54 rfl rfl (take_ofW HT_.out HW_.out (by kernel_rfl)) (fun _ _ _ h => h) (Or.inl ⟨by rfl, ?_⟩) hHeld ?_ ?_
              (rotate_left; ·(rintro w' ⟨s0, s1, s2, s3⟩; go_simp; with_reducible rfl)); (rotate_left; ·(simp only [Act.put, pq_z126]; rfl))
              refine one_ (i := 54) (N := some 72) mz126_55 rfl rfl (one_of HT_.out (by kernel_rfl)) (by decide) (fun K hK => ?_)
              refine goes_ Try.func160 (by kernel_rfl) rfl #[.slice (some ad668) y681.length c0, .agg #[.int .i64 ((rd_T144 l0 x3_1).f0.f0), .int .i64 ((rd_T144 l0 x3_1).f0.f1)], .int .i64 ((rd_T144 l0 x3_1).f1)] (by rfl) rfl rfl (by (try simp only [List.map_toArray, List.map_cons, List.map_nil]); first | done | rfl | (simp only [List.length_drop, List.length_take]; rfl)) ?_
              with_reducible refine (spec_l10Known.calls k1 _ _ y681 ((rd_T144 l0 x3_1).f0.f0) ((rd_T144 l0 x3_1).f0.f1) ((rd_T144 l0 x3_1).f1) true _ ?side1 ?side2 A49.out).mono ?_
              (case side1 => repeat (first | exact (Kd.C_below HR684.out (by repeat (first | (with_reducible first | exact HB.out | apply below_alloc | apply pw_below_drewN | apply below_drew1 | refine below_set ?_ GE669.out) | exact HB.out))) | (with_reducible refine Kd.C_alloc ?_ _) | (with_reducible refine Kd.C_drewN ?_ _) | (with_reducible refine Kd.C_drew ?_)))
              (case side2 => exact HC684.out)
              rintro e w56 ⟨rfl, hb⟩
              refine ⟨_, rfl, ?_⟩
              have n0_ := Aside0.mk (blk_below (g := gb669) (o := .cells #[.int .i64 ((rd_T144 l0 x3_1).f0.f0), .int .i64 ((rd_T144 l0 x3_1).f0.f1), .int .i64 ((rd_T144 l0 x3_1).f1), .int .i64 ((rd_T144 l0 x3_1).f2)] 144 (0, 0)) (by (with_reducible repeat (first | refine blk_drewN ?_ _ | refine blk_drew ?_ | refine blk_alloc ?_ _)); exact BK669.out) hb)
              have n1_ := Aside0.mk (below_step (by repeat (first | (with_reducible first | exact HB.out | apply below_alloc | apply pw_below_drewN | apply below_drew1 | refine below_set ?_ GE669.out) | exact HB.out)) hb)
              clear BK669
              clear HB
              have BK669 := n0_
              have HB := n1_
              clear n0_ n1_
              (try clear hb)
              (try clear hb2)
              (try clear hk)
              (try clear hi)
              refine hK.out _ _ ⟨(blk_cell BK669.out 0).trans rfl, (blk_cell BK669.out 1).trans rfl, (blk_cell BK669.out 2).trans rfl, (blk_cell BK669.out 3).trans rfl⟩ (fun hHeld => ?_)
              clear hK K
              refine norm_ (a' := ?_) ?_ ?_
              (rotate_left; ·(show Act.put _ (some 72) _ = _; simp only [Act.put, pq_z126]; rfl))
              refine pu_z126 55 (some 73) ?_ mz126_56 rfl rfl (any_of HT_.out (by kernel_rfl)) (fun _ _ _ h => h) (Or.inl ⟨by rfl, ?_⟩) ?_ ?_ ?_
              (rotate_left; ·(intro w'; go_simp; with_reducible rfl)); (rotate_left; ·(simp only [Act.put, pq_z126]; rfl))
              refine done_ (done_of HT_.out (by kernel_rfl)) ?_
              try go_wp2
              go_ret
              exact ⟨by first | rfl | (simp [errW_none, errW_some] <;> rfl) | (simp [*, errW_none, errW_some] <;> rfl), by repeat (first | (with_reducible first | exact HB.out | apply below_alloc | apply pw_below_drewN | apply below_drew1 | refine below_set ?_ GE669.out) | exact HB.out)⟩
             ·replace c50 := Bool.eq_false_iff.mpr c50
              subst c50
              have H1 : (spec_l10OK.l0 k1 l0 (wrap64 (x3_1 + 1))) = some r := by rw [if_neg (show ¬ (false = true) by decide)] at H; exact H
              clear H
              have H := H1
              clear H1
              have H' := Aside0.mk H
              clear H
              have p668 : 0 ≤ (x3_1 : Int) := of_decide_eq_true (by first | (with_reducible assumption) | assumption)
              have q668 : x3_1 < (l0.length : Int) := of_decide_eq_true (by first | (with_reducible assumption) | assumption)
              obtain ⟨ad668, e668, hx668_0, hx668_1, hx668_2, hx668_3⟩ := at_T144 HR0.out x3_1 p668 q668
              cases e668
              replace hx668_0 := (HB.out.cell (World.block_lt_of_cell? w _ hx668_0)).trans hx668_0
              replace hx668_1 := (HB.out.cell (World.block_lt_of_cell? w _ hx668_1)).trans hx668_1
              replace hx668_2 := (HB.out.cell (World.block_lt_of_cell? w _ hx668_2)).trans hx668_2
              replace hx668_3 := (HB.out.cell (World.block_lt_of_cell? w _ hx668_3)).trans hx668_3
              replace p668 := eq_true p668
              replace q668 := eq_true q668
              try go_wp2_with (first | ((with_reducible refine gate_dst (N := 4) rfl ?_); refine box_event ?hg (N := 4) ?hd (cs := #[.int .i64 0, .int .i64 0, .int .i64 0, .int .i64 0]) (t := 144) ?hr ?_; (case hd => rfl); (case hg => rfl); (case hr => first | (go_simp; done) | (go_simp; rfl)); intro gb669 hg w57 hbox hb; have n0_ := Aside0.mk (below_step (by repeat (first | (with_reducible first | exact HB.out | apply below_alloc | apply pw_below_drewN | apply below_drew1) | exact HB.out)) hb); have n1_ := Aside0.mk (hbox); have n2_ := Aside0.mk ((by rw [hg]; exact (below_size (by repeat (first | (with_reducible first | exact HB.out | apply below_alloc | apply pw_below_drewN | apply below_drew1) | exact HB.out))) : w.heap.size ≤ gb669)); have n3_ := Aside0.mk ((by rw [hg]; exact (below_size (by repeat (first | (with_reducible first | exact HB.out | apply below_alloc | apply pw_below_drewN | apply below_drew1) | exact HB.out))) : w.heap.size ≤ gb669)); clear HB; have HB := n0_; have BK669 := n1_; have GW669 := n2_; have GE669 := n3_; clear n0_ n1_ n2_ n3_; clear hb hbox hg; have hcz58_0 : w57.cell? ⟨gb669, 0, none⟩ = some (.int .i64 0) := (blk_cell BK669.out 0).trans rfl; have hcz58_1 : w57.cell? ⟨gb669, 1, none⟩ = some (.int .i64 0) := (blk_cell BK669.out 1).trans rfl; have hcz58_2 : w57.cell? ⟨gb669, 2, none⟩ = some (.int .i64 0) := (blk_cell BK669.out 2).trans rfl; have hcz58_3 : w57.cell? ⟨gb669, 3, none⟩ = some (.int .i64 0) := (blk_cell BK669.out 3).trans rfl; have hfz58_0 := blk_frozen BK669.out 0; have hfz58_1 := blk_frozen BK669.out 1; have hfz58_2 := blk_frozen BK669.out 2; have hfz58_3 := blk_frozen BK669.out 3))
              have n0_ : Aside0 (((((w57.setCell ⟨gb669, 0, none⟩ (.int .i64 ((rd_T144 l0 x3_1).f0.f0))).setCell ⟨gb669, 1, none⟩ (.int .i64 ((rd_T144 l0 x3_1).f0.f1))).setCell ⟨gb669, 2, none⟩ (.int .i64 ((rd_T144 l0 x3_1).f1))).setCell ⟨gb669, 3, none⟩ (.int .i64 ((rd_T144 l0 x3_1).f2))).heap[gb669]? = some (.cells #[.int .i64 ((rd_T144 l0 x3_1).f0.f0), .int .i64 ((rd_T144 l0 x3_1).f0.f1), .int .i64 ((rd_T144 l0 x3_1).f1), .int .i64 ((rd_T144 l0 x3_1).f2)] 144 (0, 0))) := ⟨by (with_reducible repeat (first | refine blk_drewN ?_ _ | refine blk_drew ?_ | refine blk_alloc ?_ _)); refine blk_put (cs := #[.int .i64 ((rd_T144 l0 x3_1).f0.f0), .int .i64 ((rd_T144 l0 x3_1).f0.f1), .int .i64 ((rd_T144 l0 x3_1).f1), .int .i64 0]) ?_ 3 _ rfl; (with_reducible repeat (first | refine blk_drewN ?_ _ | refine blk_drew ?_ | refine blk_alloc ?_ _)); refine blk_put (cs := #[.int .i64 ((rd_T144 l0 x3_1).f0.f0), .int .i64 ((rd_T144 l0 x3_1).f0.f1), .int .i64 0, .int .i64 0]) ?_ 2 _ rfl; (with_reducible repeat (first | refine blk_drewN ?_ _ | refine blk_drew ?_ | refine blk_alloc ?_ _)); refine blk_put (cs := #[.int .i64 ((rd_T144 l0 x3_1).f0.f0), .int .i64 0, .int .i64 0, .int .i64 0]) ?_ 1 _ rfl; (with_reducible repeat (first | refine blk_drewN ?_ _ | refine blk_drew ?_ | refine blk_alloc ?_ _)); refine blk_put (cs := #[.int .i64 0, .int .i64 0, .int .i64 0, .int .i64 0]) ?_ 0 _ rfl; (with_reducible repeat (first | refine blk_drewN ?_ _ | refine blk_drew ?_ | refine blk_alloc ?_ _)); exact BK669.out⟩
              have n1_ : Aside0 (Below w.heap.size w ((((w57.setCell ⟨gb669, 0, none⟩ (.int .i64 ((rd_T144 l0 x3_1).f0.f0))).setCell ⟨gb669, 1, none⟩ (.int .i64 ((rd_T144 l0 x3_1).f0.f1))).setCell ⟨gb669, 2, none⟩ (.int .i64 ((rd_T144 l0 x3_1).f1))).setCell ⟨gb669, 3, none⟩ (.int .i64 ((rd_T144 l0 x3_1).f2)))) := ⟨by repeat (first | (with_reducible first | exact HB.out | apply below_alloc | apply pw_below_drewN | apply below_drew1 | refine below_set ?_ GE669.out) | exact HB.out)⟩
              (try clear BK669)
              (try clear HB)
              generalize ((((w57.setCell ⟨gb669, 0, none⟩ (.int .i64 ((rd_T144 l0 x3_1).f0.f0))).setCell ⟨gb669, 1, none⟩ (.int .i64 ((rd_T144 l0 x3_1).f0.f1))).setCell ⟨gb669, 2, none⟩ (.int .i64 ((rd_T144 l0 x3_1).f1))).setCell ⟨gb669, 3, none⟩ (.int .i64 ((rd_T144 l0 x3_1).f2))) = w59 at n0_ n1_ ⊢
              have BK669 := n0_
              have HB := n1_
              clear n0_ n1_
              have n0_ := Aside0.mk (blk_drew BK669.out)
              have n1_ := Aside0.mk (below_drew1 HB.out)
              clear BK669
              clear HB
              have BK669 := n0_
              have HB := n1_
              clear n0_ n1_
              refine start_ (n := 56) (S := fun w' => w'.cell? ⟨gb669, 0, none⟩ = some (.int .i64 ((rd_T144 l0 x3_1).f0.f0)) ∧ w'.cell? ⟨gb669, 1, none⟩ = some (.int .i64 ((rd_T144 l0 x3_1).f0.f1)) ∧ w'.cell? ⟨gb669, 2, none⟩ = some (.int .i64 ((rd_T144 l0 x3_1).f1)) ∧ w'.cell? ⟨gb669, 3, none⟩ = some (.int .i64 ((rd_T144 l0 x3_1).f2))) (ds := []) mz126_0 (by kernel_rfl) rfl rfl ⟨(blk_cell BK669.out 0).trans rfl, (blk_cell BK669.out 1).trans rfl, (blk_cell BK669.out 2).trans rfl, (blk_cell BK669.out 3).trans rfl⟩ (fun hHeld => ?_); refine with_tabW spec_l10OK.tab7 spec_l10OK.bits7 (fun HT_ HW_ => ?_)
              generalize w59.drew = w60 at BK669 HB hHeld ⊢
              refine pu_z126 0 (some 18) ?_ mz126_1 rfl rfl (any_of HT_.out (by kernel_rfl)) (fun _ _ _ h => h) (Or.inl ⟨by rfl, ?_⟩) ?_ ?_ ?_
              (rotate_left; ·(intro w'; go_simp; with_reducible rfl)); (rotate_left; ·(simp only [Act.put, pq_z126]; rfl))
              refine pu_z126 1 (some 19) ?_ mz126_2 rfl rfl (any_of HT_.out (by kernel_rfl)) (fun _ _ _ h => h) (Or.inl ⟨by rfl, ?_⟩) ?_ ?_ ?_
              (rotate_left; ·(intro w'; go_simp; with_reducible rfl)); (rotate_left; ·(simp only [Act.put, pq_z126]; rfl))
              refine take_ (i := 2) (N := some 20) (v := ?_) (a' := ?_) mz126_3 rfl rfl (take_ofW HT_.out HW_.out (by kernel_rfl)) (fun _ _ _ h => h) (Or.inl ⟨by rfl, ?_⟩) hHeld ?_ ?_
              (rotate_left; ·(rintro w' ⟨s0, s1, s2, s3⟩; go_simp; with_reducible rfl)); (rotate_left; ·(simp only [Act.put, pq_z126]; rfl))
              refine one_ (i := 3) (N := some 21) mz126_4 rfl rfl (one_of HT_.out (by kernel_rfl)) (by decide) (fun K hK => ?_)
              refine goes_ Try.func96 (by kernel_rfl) rfl #[.int .i64 ((rd_T144 l0 x3_1).f0.f0), .int .i64 1, .int .i64 4] (by rfl) rfl rfl (by (try simp only [List.map_toArray, List.map_cons, List.map_nil]); first | done | rfl | (simp only [List.length_drop, List.length_take]; rfl)) ?_
              with_reducible refine (spec_l00In.calls ((rd_T144 l0 x3_1).f0.f0) 1 4 true _ A5.out).mono ?_
              rintro e w' ⟨rfl, ⟨nd, rfl⟩⟩
              refine ⟨_, rfl, ?_⟩
              refine hK.out _ _ ⟨(blk_cell BK669.out 0).trans rfl, (blk_cell BK669.out 1).trans rfl, (blk_cell BK669.out 2).trans rfl, (blk_cell BK669.out 3).trans rfl⟩ (fun hHeld => ?_)
              clear hK K
              refine norm_ (a' := ?_) ?_ ?_
              (rotate_left; ·(show Act.put _ (some 21) _ = _; simp only [Act.put, pq_z126]; rfl))
              refine pu_z126 4 (some 22) ?_ mz126_5 rfl rfl (any_of HT_.out (by kernel_rfl)) (fun _ _ _ h => h) (Or.inl ⟨by rfl, ?_⟩) ?_ ?_ ?_
              (rotate_left; ·(intro w'; go_simp; with_reducible rfl)); (rotate_left; ·(simp only [Act.put, pq_z126]; rfl))
              refine pu_z126 5 (some 23) ?_ mz126_6 rfl rfl (any_of HT_.out (by kernel_rfl)) (fun _ _ _ h => h) (Or.inl ⟨by rfl, ?_⟩) ?_ ?_ ?_
              (rotate_left; ·(intro w'; go_simp; with_reducible rfl)); (rotate_left; ·(simp only [Act.put, pq_z126]; rfl))
              refine pu_z126 6 (some 24) ?_ mz126_7 rfl rfl (any_of HT_.out (by kernel_rfl)) (fun _ _ _ h => h) (Or.inl ⟨by rfl, ?_⟩) ?_ ?_ ?_
              (rotate_left; ·(intro w'; go_simp; with_reducible rfl)); (rotate_left; ·(simp only [Act.put, pq_z126]; rfl))
              refine pu_z126 7 (some 25) ?_ mz126_8 rfl rfl (any_of HT_.out (by kernel_rfl)) (fun _ _ _ h => h) (Or.inl ⟨by rfl, ?_⟩) ?_ ?_ ?_
              (rotate_left; ·(intro w'; go_simp; with_reducible rfl)); (rotate_left; ·(simp only [Act.put, pq_z126]; rfl))
              refine take_ (i := 8) (N := some 26) (v := ?_) (a' := ?_) mz126_9 rfl rfl (take_ofW HT_.out HW_.out (by kernel_rfl)) (fun _ _ _ h => h) (Or.inl ⟨by rfl, ?_⟩) hHeld ?_ ?_
              (rotate_left; ·(rintro w' ⟨s0, s1, s2, s3⟩; go_simp; with_reducible rfl)); (rotate_left; ·(simp only [Act.put, pq_z126]; rfl))
              refine one_ (i := 9) (N := some 27) mz126_10 rfl rfl (one_of HT_.out (by kernel_rfl)) (by decide) (fun K hK => ?_)
              refine goes_ Try.func96 (by kernel_rfl) rfl #[.int .i64 ((rd_T144 l0 x3_1).f0.f1), .int .i64 0, .int .i64 15] (by rfl) rfl rfl (by (try simp only [List.map_toArray, List.map_cons, List.map_nil]); first | done | rfl | (simp only [List.length_drop, List.length_take]; rfl)) ?_
              with_reducible refine (spec_l00In.calls ((rd_T144 l0 x3_1).f0.f1) 0 15 true _ A7.out).mono ?_
              rintro e w' ⟨rfl, ⟨nd, rfl⟩⟩
              refine ⟨_, rfl, ?_⟩
              refine hK.out _ _ ⟨(blk_cell BK669.out 0).trans rfl, (blk_cell BK669.out 1).trans rfl, (blk_cell BK669.out 2).trans rfl, (blk_cell BK669.out 3).trans rfl⟩ (fun hHeld => ?_)
              clear hK K
              refine norm_ (a' := ?_) ?_ ?_
              (rotate_left; ·(show Act.put _ (some 27) _ = _; simp only [Act.put, pq_z126]; rfl))
              refine pu_z126 10 (some 28) ?_ mz126_11 rfl rfl (any_of HT_.out (by kernel_rfl)) (fun _ _ _ h => h) (Or.inl ⟨by rfl, ?_⟩) ?_ ?_ ?_
              (rotate_left; ·(intro w'; go_simp; with_reducible rfl)); (rotate_left; ·(simp only [Act.put, pq_z126]; rfl))
              refine pu_z126 11 (some 29) ?_ mz126_12 rfl rfl (any_of HT_.out (by kernel_rfl)) (fun _ _ _ h => h) (Or.inl ⟨by rfl, ?_⟩) ?_ ?_ ?_
              (rotate_left; ·(intro w'; go_simp; with_reducible rfl)); (rotate_left; ·(simp only [Act.put, pq_z126]; rfl))
              refine pu_z126 12 (some 30) ?_ mz126_13 rfl rfl (any_of HT_.out (by kernel_rfl)) (fun _ _ _ h => h) (Or.inl ⟨by rfl, ?_⟩) ?_ ?_ ?_
              (rotate_left; ·(intro w'; go_simp; with_reducible rfl)); (rotate_left; ·(simp only [Act.put, pq_z126]; rfl))
              refine pu_z126 13 (some 31) ?_ mz126_14 rfl rfl (any_of HT_.out (by kernel_rfl)) (fun _ _ _ h => h) (Or.inl ⟨by rfl, ?_⟩) ?_ ?_ ?_
              (rotate_left; ·(intro w'; go_simp; with_reducible rfl)); (rotate_left; ·(simp only [Act.put, pq_z126]; rfl))
              refine take_ (i := 14) (N := some 32) (v := ?_) (a' := ?_) mz126_15 rfl rfl (take_ofW HT_.out HW_.out (by kernel_rfl)) (fun _ _ _ h => h) (Or.inl ⟨by rfl, ?_⟩) hHeld ?_ ?_
              (rotate_left; ·(rintro w' ⟨s0, s1, s2, s3⟩; go_simp; with_reducible rfl)); (rotate_left; ·(simp only [Act.put, pq_z126]; rfl))
              refine one_ (i := 15) (N := some 33) mz126_16 rfl rfl (one_of HT_.out (by kernel_rfl)) (by decide) (fun K hK => ?_)
              refine goes_ Try.func96 (by kernel_rfl) rfl #[.int .i64 ((rd_T144 l0 x3_1).f1), .int .i64 0, .int .i64 15] (by rfl) rfl rfl (by (try simp only [List.map_toArray, List.map_cons, List.map_nil]); first | done | rfl | (simp only [List.length_drop, List.length_take]; rfl)) ?_
              with_reducible refine (spec_l00In.calls ((rd_T144 l0 x3_1).f1) 0 15 true _ A9.out).mono ?_
              rintro e w' ⟨rfl, ⟨nd, rfl⟩⟩
              refine ⟨_, rfl, ?_⟩
              refine hK.out _ _ ⟨(blk_cell BK669.out 0).trans rfl, (blk_cell BK669.out 1).trans rfl, (blk_cell BK669.out 2).trans rfl, (blk_cell BK669.out 3).trans rfl⟩ (fun hHeld => ?_)
              clear hK K
              refine norm_ (a' := ?_) ?_ ?_
              (rotate_left; ·(show Act.put _ (some 33) _ = _; simp only [Act.put, pq_z126]; rfl))
              refine pu_z126 16 (some 34) ?_ mz126_17 rfl rfl (any_of HT_.out (by kernel_rfl)) (fun _ _ _ h => h) (Or.inl ⟨by rfl, ?_⟩) ?_ ?_ ?_
              (rotate_left; ·(intro w'; go_simp; with_reducible rfl)); (rotate_left; ·(simp only [Act.put, pq_z126]; rfl))
              refine pu_z126 17 (some 35) ?_ mz126_18 rfl rfl (any_of HT_.out (by kernel_rfl)) (fun _ _ _ h => h) (Or.inl ⟨by rfl, ?_⟩) ?_ ?_ ?_
              (rotate_left; ·(intro w'; go_simp; with_reducible rfl)); (rotate_left; ·(simp only [Act.put, pq_z126]; rfl))
              refine pu_z126 18 (some 36) ?_ mz126_19 rfl rfl (any_of HT_.out (by kernel_rfl)) (fun _ _ _ h => h) (Or.inl ⟨by rfl, ?_⟩) ?_ ?_ ?_
              (rotate_left; ·(intro w'; go_simp; with_reducible rfl)); (rotate_left; ·(simp only [Act.put, pq_z126]; rfl))
              refine pu_z126 19 (some 37) ?_ mz126_20 rfl rfl (any_of HT_.out (by kernel_rfl)) (fun _ _ _ h => h) (Or.inl ⟨by rfl, ?_⟩) ?_ ?_ ?_
              (rotate_left; ·(intro w'; go_simp; with_reducible rfl)); (rotate_left; ·(simp only [Act.put, pq_z126]; rfl))
              refine take_ (i := 20) (N := some 38) (v := ?_) (a' := ?_) mz126_21 rfl rfl (take_ofW HT_.out HW_.out (by kernel_rfl)) (fun _ _ _ h => h) (Or.inl ⟨by rfl, ?_⟩) hHeld ?_ ?_
              (rotate_left; ·(rintro w' ⟨s0, s1, s2, s3⟩; go_simp; with_reducible rfl)); (rotate_left; ·(simp only [Act.put, pq_z126]; rfl))
              refine one_ (i := 21) (N := some 39) mz126_22 rfl rfl (one_of HT_.out (by kernel_rfl)) (by decide) (fun K hK => ?_)
              refine goes_ Try.func96 (by kernel_rfl) rfl #[.int .i64 ((rd_T144 l0 x3_1).f2), .int .i64 0, .int .i64 15] (by rfl) rfl rfl (by (try simp only [List.map_toArray, List.map_cons, List.map_nil]); first | done | rfl | (simp only [List.length_drop, List.length_take]; rfl)) ?_
              with_reducible refine (spec_l00In.calls ((rd_T144 l0 x3_1).f2) 0 15 true _ A11.out).mono ?_
              rintro e w' ⟨rfl, ⟨nd, rfl⟩⟩
              refine ⟨_, rfl, ?_⟩
              have q61 : (x3_1 : Int) ≤ ((l0.length : Int) : Int) := of_decide_eq_true (by first | (with_reducible assumption) | assumption)
              obtain ⟨i061, hi061, _, hsz61, _⟩ := info_parts info144
              have hroom61 : l0.length ≤ c0 := HC0.out
              have hC61 : Kd.C k144 _ (some ad668) l0.length l0 := HR0.out
              have hcut61 := cut_to (P := Try.prog) 98 144 .i64 Try.underlying98 hi061 (some ad668) l0.length c0 x3_1 (of_decide_eq_true (by first | (with_reducible assumption) | assumption)) q61 hroom61
              have hr61 := Kd.C_take (m := (x3_1 : Int).toNat) hC61 (by omega)
              have hy61 : y681.length = (x3_1 : Int).toNat := (by rw [Ny681.out, List.length_take]; omega)
              rw [← Ny681.out] at hr61
              rw [← hy61] at hcut61
              have HR684 := Aside0.mk hr61
              have HC684 := Aside0.mk (show y681.length ≤ c0 from by omega)
              clear hr61 hC61 hroom61 hi061 hsz61
              have KY61 := Aside0.mk hy61
              clear hy61
              replace q61 := eq_true q61
              refine hK.out _ _ ⟨(blk_cell BK669.out 0).trans rfl, (blk_cell BK669.out 1).trans rfl, (blk_cell BK669.out 2).trans rfl, (blk_cell BK669.out 3).trans rfl⟩ (fun hHeld => ?_)
              clear hK K
              refine norm_ (a' := ?_) ?_ ?_
              (rotate_left; ·(show Act.put _ (some 39) _ = _; simp only [Act.put, pq_z126]; rfl))
              refine pu_z126 22 (some 40) ?_ mz126_23 rfl rfl (any_of HT_.out (by kernel_rfl)) (fun _ _ _ h => h) (Or.inl ⟨by rfl, ?_⟩) ?_ ?_ ?_
              (rotate_left; ·(intro w'; go_simp; with_reducible rfl)); (rotate_left; ·(simp only [Act.put, pq_z126]; rfl))
              refine pu_z126 23 (some 41) ?_ mz126_24 rfl rfl (any_of HT_.out (by kernel_rfl)) (fun _ _ _ h => h) (Or.inl ⟨by rfl, ?_⟩) ?_ ?_ ?_
              (rotate_left; ·(intro w'; go_simp; with_reducible rfl)); (rotate_left; ·(simp only [Act.put, pq_z126]; rfl))
              refine pu_z126 24 (some 42) ?_ mz126_25 rfl rfl (any_of HT_.out (by kernel_rfl)) (fun _ _ _ h => h) (Or.inl ⟨by rfl, ?_⟩) ?_ ?_ ?_
              (rotate_left; ·(intro w'; go_simp; with_reducible rfl)); (rotate_left; ·(simp only [Act.put, pq_z126]; rfl))
              refine pu_z126 25 (some 43) ?_ mz126_26 rfl rfl (any_of HT_.out (by kernel_rfl)) (fun _ _ _ h => h) (Or.inl ⟨by rfl, ?_⟩) ?_ ?_ ?_
              (rotate_left; ·(intro w'; go_simp; with_reducible rfl)); (rotate_left; ·(simp only [Act.put, pq_z126]; rfl))
              refine pu_z126 27 (some 45) ?_ mz126_27 rfl rfl (any_of HT_.out (by kernel_rfl)) (fun _ _ _ h => h) (Or.inl ⟨by rfl, ?_⟩) ?_ ?_ ?_
              (rotate_left; ·(intro w'; go_simp; with_reducible rfl)); (rotate_left; ·(simp only [Act.put, pq_z126]; rfl))
              refine take_ (i := 26) (N := some 44) (v := ?_) (a' := ?_) mz126_28 rfl rfl (take_ofW HT_.out HW_.out (by kernel_rfl)) (fun _ _ _ h => h) (Or.inl ⟨by rfl, ?_⟩) hHeld ?_ ?_
              (rotate_left; ·(rintro w' ⟨s0, s1, s2, s3⟩; go_simp; with_reducible rfl)); (rotate_left; ·(simp only [Act.put, pq_z126]; rfl))
              refine take_ (i := 28) (N := some 46) (v := ?_) (a' := ?_) mz126_29 rfl rfl (take_ofW HT_.out HW_.out (by kernel_rfl)) (fun _ _ _ h => h) (Or.inl ⟨by rfl, ?_⟩) hHeld ?_ ?_
              (rotate_left; ·(rintro w' ⟨s0, s1, s2, s3⟩; go_simp; with_reducible rfl)); (rotate_left; ·(simp only [Act.put, pq_z126]; rfl))
              refine pu_z126 29 (some 47) ?_ mz126_30 rfl rfl (any_of HT_.out (by kernel_rfl)) (fun _ _ _ h => h) (Or.inl ⟨by rfl, ?_⟩) ?_ ?_ ?_
              (rotate_left; ·(intro w'; go_simp; with_reducible rfl)); (rotate_left; ·(simp only [Act.put, pq_z126]; rfl))
              refine pu_z126 30 (some 48) ?_ mz126_31 rfl rfl (any_of HT_.out (by kernel_rfl)) (fun _ _ _ h => h) (Or.inl ⟨by rfl, ?_⟩) ?_ ?_ ?_
              (rotate_left; ·(intro w'; go_simp; with_reducible rfl)); (rotate_left; ·(simp only [Act.put, pq_z126]; rfl))
              refine pu_z126 31 (some 49) ?_ mz126_32 rfl rfl (any_of HT_.out (by kernel_rfl)) (fun _ _ _ h => h) (Or.inl ⟨by rfl, ?_⟩) ?_ ?_ ?_
              (rotate_left; ·(intro w'; go_simp; with_reducible rfl)); (rotate_left; ·(simp only [Act.put, pq_z126]; rfl))
              refine pu_z126 32 (some 50) ?_ mz126_33 rfl rfl (any_of HT_.out (by kernel_rfl)) (fun _ _ _ h => h) (Or.inl ⟨by rfl, ?_⟩) ?_ ?_ ?_
              (rotate_left; ·(intro w'; go_simp; with_reducible rfl)); (rotate_left; ·(simp only [Act.put, pq_z126]; rfl))
              refine pu_z126 33 (some 51) ?_ mz126_34 rfl rfl (any_of HT_.out (by kernel_rfl)) (fun _ _ _ h => h) (Or.inl ⟨by rfl, ?_⟩) ?_ ?_ ?_
              (rotate_left; ·(intro w'; go_simp; with_reducible rfl)); (rotate_left; ·(simp only [Act.put, pq_z126]; rfl))
              refine pu_z126 34 (some 52) ?_ mz126_35 rfl rfl (any_of HT_.out (by kernel_rfl)) (fun _ _ _ h => h) (Or.inl ⟨by rfl, ?_⟩) ?_ ?_ ?_
              (rotate_left; ·(intro w'; go_simp; with_reducible rfl)); (rotate_left; ·(simp only [Act.put, pq_z126]; rfl))
              refine pu_z126 35 (some 53) undef mz126_36 rfl rfl (any_of HT_.out (by kernel_rfl)) (fun _ _ _ h => h) (Or.inr ⟨by rfl, rfl⟩) ?_ ?_ ?_
              (rotate_left; ·(simp only [Act.put, pq_z126]; rfl))
              refine pu_z126 36 (some 54) undef mz126_37 rfl rfl (any_of HT_.out (by kernel_rfl)) (fun _ _ _ h => h) (Or.inr ⟨by rfl, rfl⟩) ?_ ?_ ?_
              (rotate_left; ·(simp only [Act.put, pq_z126]; rfl))
              refine pu_z126 37 (some 55) undef mz126_38 rfl rfl (any_of HT_.out (by kernel_rfl)) (fun _ _ _ h => h) (Or.inr ⟨by rfl, rfl⟩) ?_ ?_ ?_
              (rotate_left; ·(simp only [Act.put, pq_z126]; rfl))
              refine pu_z126 38 (some 56) undef mz126_39 rfl rfl (any_of HT_.out (by kernel_rfl)) (fun _ _ _ h => h) (Or.inr ⟨by rfl, rfl⟩) ?_ ?_ ?_
              (rotate_left; ·(simp only [Act.put, pq_z126]; rfl))
              refine pu_z126 39 (some 57) undef mz126_40 rfl rfl (any_of HT_.out (by kernel_rfl)) (fun _ _ _ h => h) (Or.inr ⟨by rfl, rfl⟩) ?_ ?_ ?_
              (rotate_left; ·(simp only [Act.put, pq_z126]; rfl))
              refine pu_z126 40 (some 58) undef mz126_41 rfl rfl (any_of HT_.out (by kernel_rfl)) (fun _ _ _ h => h) (Or.inr ⟨by rfl, rfl⟩) ?_ ?_ ?_
              (rotate_left; ·(simp only [Act.put, pq_z126]; rfl))
              refine pu_z126 41 (some 59) undef mz126_42 rfl rfl (any_of HT_.out (by kernel_rfl)) (fun _ _ _ h => h) (Or.inr ⟨by rfl, rfl⟩) ?_ ?_ ?_
              (rotate_left; ·(simp only [Act.put, pq_z126]; rfl))
              refine pu_z126 42 (some 60) undef mz126_43 rfl rfl (any_of HT_.out (by kernel_rfl)) (fun _ _ _ h => h) (Or.inr ⟨by rfl, rfl⟩) ?_ ?_ ?_
              (rotate_left; ·(simp only [Act.put, pq_z126]; rfl))
              refine pu_z126 43 (some 61) undef mz126_44 rfl rfl (any_of HT_.out (by kernel_rfl)) (fun _ _ _ h => h) (Or.inr ⟨by rfl, rfl⟩) ?_ ?_ ?_
              (rotate_left; ·(simp only [Act.put, pq_z126]; rfl))
              refine pu_z126 44 (some 62) ?_ mz126_45 rfl rfl (any_of HT_.out (by kernel_rfl)) (fun _ _ _ h => h) (Or.inl ⟨by rfl, ?_⟩) ?_ ?_ ?_
              (rotate_left; ·(intro w'; go_simp; with_reducible rfl)); (rotate_left; ·(simp only [Act.put, pq_z126]; rfl))
              refine pu_z126 45 (some 63) ?_ mz126_46 rfl rfl (any_of HT_.out (by kernel_rfl)) (fun _ _ _ h => h) (Or.inl ⟨by rfl, ?_⟩) ?_ ?_ ?_
              (rotate_left; ·(intro w'; go_simp; with_reducible rfl)); (rotate_left; ·(simp only [Act.put, pq_z126]; rfl))
              refine pu_z126 46 (some 64) ?_ mz126_47 rfl rfl (any_of HT_.out (by kernel_rfl)) (fun _ _ _ h => h) (Or.inl ⟨by rfl, ?_⟩) ?_ ?_ ?_
              (rotate_left; ·(intro w'; go_simp; with_reducible rfl)); (rotate_left; ·(simp only [Act.put, pq_z126]; rfl))
              refine pu_z126 47 (some 65) ?_ mz126_48 rfl rfl (any_of HT_.out (by kernel_rfl)) (fun _ _ _ h => h) (Or.inl ⟨by rfl, ?_⟩) ?_ ?_ ?_
              (rotate_left; ·(intro w'; go_simp; with_reducible rfl)); (rotate_left; ·(simp only [Act.put, pq_z126]; rfl))
              refine pu_z126 48 (some 66) ?_ mz126_49 rfl rfl (any_of HT_.out (by kernel_rfl)) (fun _ _ _ h => h) (Or.inl ⟨by rfl, ?_⟩) ?_ ?_ ?_
              (rotate_left; ·(intro w'; go_simp; with_reducible rfl)); (rotate_left; ·(simp only [Act.put, pq_z126]; rfl))
              refine pu_z126 49 (some 67) ?_ mz126_50 rfl rfl (any_of HT_.out (by kernel_rfl)) (fun _ _ _ h => h) (Or.inl ⟨by rfl, ?_⟩) ?_ ?_ ?_
              (rotate_left; ·(intro w'; go_simp; with_reducible rfl)); (rotate_left; ·(simp only [Act.put, pq_z126]; rfl))
              refine pu_z126 50 (some 68) ?_ mz126_51 rfl rfl (any_of HT_.out (by kernel_rfl)) (fun _ _ _ h => h) (Or.inl ⟨by rfl, ?_⟩) ?_ ?_ ?_
              (rotate_left; ·(intro w'; go_simp; with_reducible rfl)); (rotate_left; ·(simp only [Act.put, pq_z126]; rfl))
              refine pu_z126 52 (some 70) ?_ mz126_62 rfl rfl (any_of HT_.out (by kernel_rfl)) (fun _ _ _ h => h) (Or.inl ⟨by rfl, ?_⟩) ?_ ?_ ?_
              (rotate_left; ·(intro w'; go_simp; with_reducible rfl)); (rotate_left; ·(simp only [Act.put, pq_z126]; rfl))
              refine take_ (i := 51) (N := some 69) (v := ?_) (a' := ?_) mz126_53 rfl rfl (take_ofW HT_.out HW_.out (by kernel_rfl)) (fun _ _ _ h => h) (Or.inl ⟨by rfl, ?_⟩) hHeld ?_ ?_
              (rotate_left; ·(rintro w' ⟨s0, s1, s2, s3⟩; go_simp; with_reducible rfl)); (rotate_left; ·(simp only [Act.put, pq_z126]; rfl))
              refine take_ (i := 53) (N := some 71) (v := ?_) (a' := ?_) mz126_54 rfl rfl (take_ofW HT_.out HW_.out (by kernel_rfl)) (fun _ _ _ h => h) (Or.inl ⟨by rfl, ?_⟩) hHeld ?_ ?_
              (rotate_left; ·(rintro w' ⟨s0, s1, s2, s3⟩; go_simp; with_reducible rfl)); (rotate_left; ·(simp only [Act.put, pq_z126]; rfl))
              refine one_ (i := 54) (N := some 72) mz126_55 rfl rfl (one_of HT_.out (by kernel_rfl)) (by decide) (fun K hK => ?_)
              refine goes_ Try.func160 (by kernel_rfl) rfl #[.slice (some ad668) y681.length c0, .agg #[.int .i64 ((rd_T144 l0 x3_1).f0.f0), .int .i64 ((rd_T144 l0 x3_1).f0.f1)], .int .i64 ((rd_T144 l0 x3_1).f1)] (by rfl) rfl rfl (by (try simp only [List.map_toArray, List.map_cons, List.map_nil]); first | done | rfl | (simp only [List.length_drop, List.length_take]; rfl)) ?_
              with_reducible refine (spec_l10Known.calls k1 _ _ y681 ((rd_T144 l0 x3_1).f0.f0) ((rd_T144 l0 x3_1).f0.f1) ((rd_T144 l0 x3_1).f1) false _ ?side1 ?side2 A49.out).mono ?_
              (case side1 => repeat (first | exact (Kd.C_below HR684.out (by repeat (first | (with_reducible first | exact HB.out | apply below_alloc | apply pw_below_drewN | apply below_drew1 | refine below_set ?_ GE669.out) | exact HB.out))) | (with_reducible refine Kd.C_alloc ?_ _) | (with_reducible refine Kd.C_drewN ?_ _) | (with_reducible refine Kd.C_drew ?_)))
              (case side2 => exact HC684.out)
              rintro e w62 ⟨rfl, hb⟩
              refine ⟨_, rfl, ?_⟩
              have n0_ := Aside0.mk (blk_below (g := gb669) (o := .cells #[.int .i64 ((rd_T144 l0 x3_1).f0.f0), .int .i64 ((rd_T144 l0 x3_1).f0.f1), .int .i64 ((rd_T144 l0 x3_1).f1), .int .i64 ((rd_T144 l0 x3_1).f2)] 144 (0, 0)) (by (with_reducible repeat (first | refine blk_drewN ?_ _ | refine blk_drew ?_ | refine blk_alloc ?_ _)); exact BK669.out) hb)
              have n1_ := Aside0.mk (below_step (by repeat (first | (with_reducible first | exact HB.out | apply below_alloc | apply pw_below_drewN | apply below_drew1 | refine below_set ?_ GE669.out) | exact HB.out)) hb)
              clear BK669
              clear HB
              have BK669 := n0_
              have HB := n1_
              clear n0_ n1_
              (try clear hb)
              (try clear hb2)
              (try clear hk)
              (try clear hi)
              refine hK.out _ _ ⟨(blk_cell BK669.out 0).trans rfl, (blk_cell BK669.out 1).trans rfl, (blk_cell BK669.out 2).trans rfl, (blk_cell BK669.out 3).trans rfl⟩ (fun hHeld => ?_)
              clear hK K
              refine norm_ (a' := ?_) ?_ ?_
              (rotate_left; ·(show Act.put _ (some 72) _ = _; simp only [Act.put, pq_z126]; rfl))
              refine pu_z126 55 (some 73) ?_ mz126_56 rfl rfl (any_of HT_.out (by kernel_rfl)) (fun _ _ _ h => h) (Or.inl ⟨by rfl, ?_⟩) ?_ ?_ ?_
              (rotate_left; ·(intro w'; go_simp; with_reducible rfl)); (rotate_left; ·(simp only [Act.put, pq_z126]; rfl))
              refine done_ (done_of HT_.out (by kernel_rfl)) ?_
              try go_wp2
              go_roundg k1
              case measure => have := HK1.out; omega
              case rel => exact ⟨(wrap64 (x3_1 + 1)), (by first | rfl | (simp; done) | (simp [*]; done)), H', ⟨by have := HK1.out; omega⟩, ⟨by repeat (first | (with_reducible first | exact HB.out | apply below_alloc | apply pw_below_drewN | apply below_drew1 | refine below_set ?_ GE669.out) | exact HB.out)⟩⟩
            ·rw [if_neg c48] at H
             exact absurd H (by simp)
         ·replace c12 := Bool.eq_false_iff.mpr c12
          subst c12
          have H1 : (some false) = some r := by rw [if_neg (show ¬ (false = true) by decide)] at H; exact H
          clear H
          have H := H1
          clear H1
          obtain rfl := Option.some.inj H
          have p668 : 0 ≤ (x3_1 : Int) := of_decide_eq_true (by first | (with_reducible assumption) | assumption)
          have q668 : x3_1 < (l0.length : Int) := of_decide_eq_true (by first | (with_reducible assumption) | assumption)
          obtain ⟨ad668, e668, hx668_0, hx668_1, hx668_2, hx668_3⟩ := at_T144 HR0.out x3_1 p668 q668
          cases e668
          replace hx668_0 := (HB.out.cell (World.block_lt_of_cell? w _ hx668_0)).trans hx668_0
          replace hx668_1 := (HB.out.cell (World.block_lt_of_cell? w _ hx668_1)).trans hx668_1
          replace hx668_2 := (HB.out.cell (World.block_lt_of_cell? w _ hx668_2)).trans hx668_2
          replace hx668_3 := (HB.out.cell (World.block_lt_of_cell? w _ hx668_3)).trans hx668_3
          replace p668 := eq_true p668
          replace q668 := eq_true q668
          try go_wp2_with (first | ((with_reducible refine gate_dst (N := 4) rfl ?_); refine box_event ?hg (N := 4) ?hd (cs := #[.int .i64 0, .int .i64 0, .int .i64 0, .int .i64 0]) (t := 144) ?hr ?_; (case hd => rfl); (case hg => rfl); (case hr => first | (go_simp; done) | (go_simp; rfl)); intro gb669 hg w63 hbox hb; have n0_ := Aside0.mk (below_step (by repeat (first | (with_reducible first | exact HB.out | apply below_alloc | apply pw_below_drewN | apply below_drew1) | exact HB.out)) hb); have n1_ := Aside0.mk (hbox); have n2_ := Aside0.mk ((by rw [hg]; exact (below_size (by repeat (first | (with_reducible first | exact HB.out | apply below_alloc | apply pw_below_drewN | apply below_drew1) | exact HB.out))) : w.heap.size ≤ gb669)); have n3_ := Aside0.mk ((by rw [hg]; exact (below_size (by repeat (first | (with_reducible first | exact HB.out | apply below_alloc | apply pw_below_drewN | apply below_drew1) | exact HB.out))) : w.heap.size ≤ gb669)); clear HB; have HB := n0_; have BK669 := n1_; have GW669 := n2_; have GE669 := n3_; clear n0_ n1_ n2_ n3_; clear hb hbox hg; have hcz64_0 : w63.cell? ⟨gb669, 0, none⟩ = some (.int .i64 0) := (blk_cell BK669.out 0).trans rfl; have hcz64_1 : w63.cell? ⟨gb669, 1, none⟩ = some (.int .i64 0) := (blk_cell BK669.out 1).trans rfl; have hcz64_2 : w63.cell? ⟨gb669, 2, none⟩ = some (.int .i64 0) := (blk_cell BK669.out 2).trans rfl; have hcz64_3 : w63.cell? ⟨gb669, 3, none⟩ = some (.int .i64 0) := (blk_cell BK669.out 3).trans rfl; have hfz64_0 := blk_frozen BK669.out 0; have hfz64_1 := blk_frozen BK669.out 1; have hfz64_2 := blk_frozen BK669.out 2; have hfz64_3 := blk_frozen BK669.out 3))
          have n0_ : Aside0 (((((w63.setCell ⟨gb669, 0, none⟩ (.int .i64 ((rd_T144 l0 x3_1).f0.f0))).setCell ⟨gb669, 1, none⟩ (.int .i64 ((rd_T144 l0 x3_1).f0.f1))).setCell ⟨gb669, 2, none⟩ (.int .i64 ((rd_T144 l0 x3_1).f1))).setCell ⟨gb669, 3, none⟩ (.int .i64 ((rd_T144 l0 x3_1).f2))).heap[gb669]? = some (.cells #[.int .i64 ((rd_T144 l0 x3_1).f0.f0), .int .i64 ((rd_T144 l0 x3_1).f0.f1), .int .i64 ((rd_T144 l0 x3_1).f1), .int .i64 ((rd_T144 l0 x3_1).f2)] 144 (0, 0))) := ⟨by (with_reducible repeat (first | refine blk_drewN ?_ _ | refine blk_drew ?_ | refine blk_alloc ?_ _)); refine blk_put (cs := #[.int .i64 ((rd_T144 l0 x3_1).f0.f0), .int .i64 ((rd_T144 l0 x3_1).f0.f1), .int .i64 ((rd_T144 l0 x3_1).f1), .int .i64 0]) ?_ 3 _ rfl; (with_reducible repeat (first | refine blk_drewN ?_ _ | refine blk_drew ?_ | refine blk_alloc ?_ _)); refine blk_put (cs := #[.int .i64 ((rd_T144 l0 x3_1).f0.f0), .int .i64 ((rd_T144 l0 x3_1).f0.f1), .int .i64 0, .int .i64 0]) ?_ 2 _ rfl; (with_reducible repeat (first | refine blk_drewN ?_ _ | refine blk_drew ?_ | refine blk_alloc ?_ _)); refine blk_put (cs := #[.int .i64 ((rd_T144 l0 x3_1).f0.f0), .int .i64 0, .int .i64 0, .int .i64 0]) ?_ 1 _ rfl; (with_reducible repeat (first | refine blk_drewN ?_ _ | refine blk_drew ?_ | refine blk_alloc ?_ _)); refine blk_put (cs := #[.int .i64 0, .int .i64 0, .int .i64 0, .int .i64 0]) ?_ 0 _ rfl; (with_reducible repeat (first | refine blk_drewN ?_ _ | refine blk_drew ?_ | refine blk_alloc ?_ _)); exact BK669.out⟩
          have n1_ : Aside0 (Below w.heap.size w ((((w63.setCell ⟨gb669, 0, none⟩ (.int .i64 ((rd_T144 l0 x3_1).f0.f0))).setCell ⟨gb669, 1, none⟩ (.int .i64 ((rd_T144 l0 x3_1).f0.f1))).setCell ⟨gb669, 2, none⟩ (.int .i64 ((rd_T144 l0 x3_1).f1))).setCell ⟨gb669, 3, none⟩ (.int .i64 ((rd_T144 l0 x3_1).f2)))) := ⟨by repeat (first | (with_reducible first | exact HB.out | apply below_alloc | apply pw_below_drewN | apply below_drew1 | refine below_set ?_ GE669.out) | exact HB.out)⟩
          (try clear BK669)
          (try clear HB)
          generalize ((((w63.setCell ⟨gb669, 0, none⟩ (.int .i64 ((rd_T144 l0 x3_1).f0.f0))).setCell ⟨gb669, 1, none⟩ (.int .i64 ((rd_T144 l0 x3_1).f0.f1))).setCell ⟨gb669, 2, none⟩ (.int .i64 ((rd_T144 l0 x3_1).f1))).setCell ⟨gb669, 3, none⟩ (.int .i64 ((rd_T144 l0 x3_1).f2))) = w65 at n0_ n1_ ⊢
          have BK669 := n0_
          have HB := n1_
          clear n0_ n1_
          have n0_ := Aside0.mk (blk_drew BK669.out)
          have n1_ := Aside0.mk (below_drew1 HB.out)
          clear BK669
          clear HB
          have BK669 := n0_
          have HB := n1_
          clear n0_ n1_
          refine start_ (n := 56) (S := fun w' => w'.cell? ⟨gb669, 0, none⟩ = some (.int .i64 ((rd_T144 l0 x3_1).f0.f0)) ∧ w'.cell? ⟨gb669, 1, none⟩ = some (.int .i64 ((rd_T144 l0 x3_1).f0.f1)) ∧ w'.cell? ⟨gb669, 2, none⟩ = some (.int .i64 ((rd_T144 l0 x3_1).f1)) ∧ w'.cell? ⟨gb669, 3, none⟩ = some (.int .i64 ((rd_T144 l0 x3_1).f2))) (ds := []) mz126_0 (by kernel_rfl) rfl rfl ⟨(blk_cell BK669.out 0).trans rfl, (blk_cell BK669.out 1).trans rfl, (blk_cell BK669.out 2).trans rfl, (blk_cell BK669.out 3).trans rfl⟩ (fun hHeld => ?_); refine with_tabW spec_l10OK.tab7 spec_l10OK.bits7 (fun HT_ HW_ => ?_)
          generalize w65.drew = w66 at BK669 HB hHeld ⊢
          refine pu_z126 0 (some 18) ?_ mz126_1 rfl rfl (any_of HT_.out (by kernel_rfl)) (fun _ _ _ h => h) (Or.inl ⟨by rfl, ?_⟩) ?_ ?_ ?_
          (rotate_left; ·(intro w'; go_simp; with_reducible rfl)); (rotate_left; ·(simp only [Act.put, pq_z126]; rfl))
          refine pu_z126 1 (some 19) ?_ mz126_2 rfl rfl (any_of HT_.out (by kernel_rfl)) (fun _ _ _ h => h) (Or.inl ⟨by rfl, ?_⟩) ?_ ?_ ?_
          (rotate_left; ·(intro w'; go_simp; with_reducible rfl)); (rotate_left; ·(simp only [Act.put, pq_z126]; rfl))
          refine take_ (i := 2) (N := some 20) (v := ?_) (a' := ?_) mz126_3 rfl rfl (take_ofW HT_.out HW_.out (by kernel_rfl)) (fun _ _ _ h => h) (Or.inl ⟨by rfl, ?_⟩) hHeld ?_ ?_
          (rotate_left; ·(rintro w' ⟨s0, s1, s2, s3⟩; go_simp; with_reducible rfl)); (rotate_left; ·(simp only [Act.put, pq_z126]; rfl))
          refine one_ (i := 3) (N := some 21) mz126_4 rfl rfl (one_of HT_.out (by kernel_rfl)) (by decide) (fun K hK => ?_)
          refine goes_ Try.func96 (by kernel_rfl) rfl #[.int .i64 ((rd_T144 l0 x3_1).f0.f0), .int .i64 1, .int .i64 4] (by rfl) rfl rfl (by (try simp only [List.map_toArray, List.map_cons, List.map_nil]); first | done | rfl | (simp only [List.length_drop, List.length_take]; rfl)) ?_
          with_reducible refine (spec_l00In.calls ((rd_T144 l0 x3_1).f0.f0) 1 4 true _ A5.out).mono ?_
          rintro e w' ⟨rfl, ⟨nd, rfl⟩⟩
          refine ⟨_, rfl, ?_⟩
          refine hK.out _ _ ⟨(blk_cell BK669.out 0).trans rfl, (blk_cell BK669.out 1).trans rfl, (blk_cell BK669.out 2).trans rfl, (blk_cell BK669.out 3).trans rfl⟩ (fun hHeld => ?_)
          clear hK K
          refine norm_ (a' := ?_) ?_ ?_
          (rotate_left; ·(show Act.put _ (some 21) _ = _; simp only [Act.put, pq_z126]; rfl))
          refine pu_z126 4 (some 22) ?_ mz126_5 rfl rfl (any_of HT_.out (by kernel_rfl)) (fun _ _ _ h => h) (Or.inl ⟨by rfl, ?_⟩) ?_ ?_ ?_
          (rotate_left; ·(intro w'; go_simp; with_reducible rfl)); (rotate_left; ·(simp only [Act.put, pq_z126]; rfl))
          refine pu_z126 5 (some 23) ?_ mz126_6 rfl rfl (any_of HT_.out (by kernel_rfl)) (fun _ _ _ h => h) (Or.inl ⟨by rfl, ?_⟩) ?_ ?_ ?_
          (rotate_left; ·(intro w'; go_simp; with_reducible rfl)); (rotate_left; ·(simp only [Act.put, pq_z126]; rfl))
          refine pu_z126 6 (some 24) ?_ mz126_7 rfl rfl (any_of HT_.out (by kernel_rfl)) (fun _ _ _ h => h) (Or.inl ⟨by rfl, ?_⟩) ?_ ?_ ?_
          (rotate_left; ·(intro w'; go_simp; with_reducible rfl)); (rotate_left; ·(simp only [Act.put, pq_z126]; rfl))
          refine pu_z126 7 (some 25) ?_ mz126_8 rfl rfl (any_of HT_.out (by kernel_rfl)) (fun _ _ _ h => h) (Or.inl ⟨by rfl, ?_⟩) ?_ ?_ ?_
          (rotate_left; ·(intro w'; go_simp; with_reducible rfl)); (rotate_left; ·(simp only [Act.put, pq_z126]; rfl))
          refine take_ (i := 8) (N := some 26) (v := ?_) (a' := ?_) mz126_9 rfl rfl (take_ofW HT_.out HW_.out (by kernel_rfl)) (fun _ _ _ h => h) (Or.inl ⟨by rfl, ?_⟩) hHeld ?_ ?_
          (rotate_left; ·(rintro w' ⟨s0, s1, s2, s3⟩; go_simp; with_reducible rfl)); (rotate_left; ·(simp only [Act.put, pq_z126]; rfl))
          refine one_ (i := 9) (N := some 27) mz126_10 rfl rfl (one_of HT_.out (by kernel_rfl)) (by decide) (fun K hK => ?_)
          refine goes_ Try.func96 (by kernel_rfl) rfl #[.int .i64 ((rd_T144 l0 x3_1).f0.f1), .int .i64 0, .int .i64 15] (by rfl) rfl rfl (by (try simp only [List.map_toArray, List.map_cons, List.map_nil]); first | done | rfl | (simp only [List.length_drop, List.length_take]; rfl)) ?_
          with_reducible refine (spec_l00In.calls ((rd_T144 l0 x3_1).f0.f1) 0 15 true _ A7.out).mono ?_
          rintro e w' ⟨rfl, ⟨nd, rfl⟩⟩
          refine ⟨_, rfl, ?_⟩
          refine hK.out _ _ ⟨(blk_cell BK669.out 0).trans rfl, (blk_cell BK669.out 1).trans rfl, (blk_cell BK669.out 2).trans rfl, (blk_cell BK669.out 3).trans rfl⟩ (fun hHeld => ?_)
          clear hK K
          refine norm_ (a' := ?_) ?_ ?_
          (rotate_left; ·(show Act.put _ (some 27) _ = _; simp only [Act.put, pq_z126]; rfl))
          refine pu_z126 10 (some 28) ?_ mz126_11 rfl rfl (any_of HT_.out (by kernel_rfl)) (fun _ _ _ h => h) (Or.inl ⟨by rfl, ?_⟩) ?_ ?_ ?_
          (rotate_left; ·(intro w'; go_simp; with_reducible rfl)); (rotate_left; ·(simp only [Act.put, pq_z126]; rfl))
          refine pu_z126 11 (some 29) ?_ mz126_12 rfl rfl (any_of HT_.out (by kernel_rfl)) (fun _ _ _ h => h) (Or.inl ⟨by rfl, ?_⟩) ?_ ?_ ?_
          (rotate_left; ·(intro w'; go_simp; with_reducible rfl)); (rotate_left; ·(simp only [Act.put, pq_z126]; rfl))
          refine pu_z126 12 (some 30) ?_ mz126_13 rfl rfl (any_of HT_.out (by kernel_rfl)) (fun _ _ _ h => h) (Or.inl ⟨by rfl, ?_⟩) ?_ ?_ ?_
          (rotate_left; ·(intro w'; go_simp; with_reducible rfl)); (rotate_left; ·(simp only [Act.put, pq_z126]; rfl))
          refine pu_z126 13 (some 31) ?_ mz126_14 rfl rfl (any_of HT_.out (by kernel_rfl)) (fun _ _ _ h => h) (Or.inl ⟨by rfl, ?_⟩) ?_ ?_ ?_
          (rotate_left; ·(intro w'; go_simp; with_reducible rfl)); (rotate_left; ·(simp only [Act.put, pq_z126]; rfl))
          refine take_ (i := 14) (N := some 32) (v := ?_) (a' := ?_) mz126_15 rfl rfl (take_ofW HT_.out HW_.out (by kernel_rfl)) (fun _ _ _ h => h) (Or.inl ⟨by rfl, ?_⟩) hHeld ?_ ?_
          (rotate_left; ·(rintro w' ⟨s0, s1, s2, s3⟩; go_simp; with_reducible rfl)); (rotate_left; ·(simp only [Act.put, pq_z126]; rfl))
          refine one_ (i := 15) (N := some 33) mz126_16 rfl rfl (one_of HT_.out (by kernel_rfl)) (by decide) (fun K hK => ?_)
          refine goes_ Try.func96 (by kernel_rfl) rfl #[.int .i64 ((rd_T144 l0 x3_1).f1), .int .i64 0, .int .i64 15] (by rfl) rfl rfl (by (try simp only [List.map_toArray, List.map_cons, List.map_nil]); first | done | rfl | (simp only [List.length_drop, List.length_take]; rfl)) ?_
          with_reducible refine (spec_l00In.calls ((rd_T144 l0 x3_1).f1) 0 15 true _ A9.out).mono ?_
          rintro e w' ⟨rfl, ⟨nd, rfl⟩⟩
          refine ⟨_, rfl, ?_⟩
          refine hK.out _ _ ⟨(blk_cell BK669.out 0).trans rfl, (blk_cell BK669.out 1).trans rfl, (blk_cell BK669.out 2).trans rfl, (blk_cell BK669.out 3).trans rfl⟩ (fun hHeld => ?_)
          clear hK K
          refine norm_ (a' := ?_) ?_ ?_
          (rotate_left; ·(show Act.put _ (some 33) _ = _; simp only [Act.put, pq_z126]; rfl))
          refine pu_z126 16 (some 34) ?_ mz126_17 rfl rfl (any_of HT_.out (by kernel_rfl)) (fun _ _ _ h => h) (Or.inl ⟨by rfl, ?_⟩) ?_ ?_ ?_
          (rotate_left; ·(intro w'; go_simp; with_reducible rfl)); (rotate_left; ·(simp only [Act.put, pq_z126]; rfl))
          refine pu_z126 17 (some 35) ?_ mz126_18 rfl rfl (any_of HT_.out (by kernel_rfl)) (fun _ _ _ h => h) (Or.inl ⟨by rfl, ?_⟩) ?_ ?_ ?_
          (rotate_left; ·(intro w'; go_simp; with_reducible rfl)); (rotate_left; ·(simp only [Act.put, pq_z126]; rfl))
          refine pu_z126 18 (some 36) ?_ mz126_19 rfl rfl (any_of HT_.out (by kernel_rfl)) (fun _ _ _ h => h) (Or.inl ⟨by rfl, ?_⟩) ?_ ?_ ?_
          (rotate_left; ·(intro w'; go_simp; with_reducible rfl)); (rotate_left; ·(simp only [Act.put, pq_z126]; rfl))
          refine pu_z126 19 (some 37) ?_ mz126_20 rfl rfl (any_of HT_.out (by kernel_rfl)) (fun _ _ _ h => h) (Or.inl ⟨by rfl, ?_⟩) ?_ ?_ ?_
          (rotate_left; ·(intro w'; go_simp; with_reducible rfl)); (rotate_left; ·(simp only [Act.put, pq_z126]; rfl))
          refine take_ (i := 20) (N := some 38) (v := ?_) (a' := ?_) mz126_21 rfl rfl (take_ofW HT_.out HW_.out (by kernel_rfl)) (fun _ _ _ h => h) (Or.inl ⟨by rfl, ?_⟩) hHeld ?_ ?_
          (rotate_left; ·(rintro w' ⟨s0, s1, s2, s3⟩; go_simp; with_reducible rfl)); (rotate_left; ·(simp only [Act.put, pq_z126]; rfl))
          refine one_ (i := 21) (N := some 39) mz126_22 rfl rfl (one_of HT_.out (by kernel_rfl)) (by decide) (fun K hK => ?_)
          refine goes_ Try.func96 (by kernel_rfl) rfl #[.int .i64 ((rd_T144 l0 x3_1).f2), .int .i64 0, .int .i64 15] (by rfl) rfl rfl (by (try simp only [List.map_toArray, List.map_cons, List.map_nil]); first | done | rfl | (simp only [List.length_drop, List.length_take]; rfl)) ?_
          with_reducible refine (spec_l00In.calls ((rd_T144 l0 x3_1).f2) 0 15 false _ A11.out).mono ?_
          rintro e w' ⟨rfl, ⟨nd, rfl⟩⟩
          refine ⟨_, rfl, ?_⟩
          refine hK.out _ _ ⟨(blk_cell BK669.out 0).trans rfl, (blk_cell BK669.out 1).trans rfl, (blk_cell BK669.out 2).trans rfl, (blk_cell BK669.out 3).trans rfl⟩ (fun hHeld => ?_)
          clear hK K
          refine norm_ (a' := ?_) ?_ ?_
          (rotate_left; ·(show Act.put _ (some 39) _ = _; simp only [Act.put, pq_z126]; rfl))
          refine pu_z126 22 (some 40) ?_ mz126_23 rfl rfl (any_of HT_.out (by kernel_rfl)) (fun _ _ _ h => h) (Or.inl ⟨by rfl, ?_⟩) ?_ ?_ ?_
          (rotate_left; ·(intro w'; go_simp; with_reducible rfl)); (rotate_left; ·(simp only [Act.put, pq_z126]; rfl))
          refine pu_z126 23 (some 41) ?_ mz126_24 rfl rfl (any_of HT_.out (by kernel_rfl)) (fun _ _ _ h => h) (Or.inl ⟨by rfl, ?_⟩) ?_ ?_ ?_
          (rotate_left; ·(intro w'; go_simp; with_reducible rfl)); (rotate_left; ·(simp only [Act.put, pq_z126]; rfl))
          refine pu_z126 24 (some 42) ?_ mz126_25 rfl rfl (any_of HT_.out (by kernel_rfl)) (fun _ _ _ h => h) (Or.inl ⟨by rfl, ?_⟩) ?_ ?_ ?_
          (rotate_left; ·(intro w'; go_simp; with_reducible rfl)); (rotate_left; ·(simp only [Act.put, pq_z126]; rfl))
          refine pu_z126 25 (some 43) undef mz126_26 rfl rfl (any_of HT_.out (by kernel_rfl)) (fun _ _ _ h => h) (Or.inr ⟨by rfl, rfl⟩) ?_ ?_ ?_
          (rotate_left; ·(simp only [Act.put, pq_z126]; rfl))
          refine pu_z126 26 (some 44) undef mz126_63 rfl rfl (any_of HT_.out (by kernel_rfl)) (fun _ _ _ h => h) (Or.inr ⟨by rfl, rfl⟩) ?_ ?_ ?_
          (rotate_left; ·(simp only [Act.put, pq_z126]; rfl))
          refine pu_z126 27 (some 45) undef mz126_28 rfl rfl (any_of HT_.out (by kernel_rfl)) (fun _ _ _ h => h) (Or.inr ⟨by rfl, rfl⟩) ?_ ?_ ?_
          (rotate_left; ·(simp only [Act.put, pq_z126]; rfl))
          refine pu_z126 28 (some 46) undef mz126_29 rfl rfl (any_of HT_.out (by kernel_rfl)) (fun _ _ _ h => h) (Or.inr ⟨by rfl, rfl⟩) ?_ ?_ ?_
          (rotate_left; ·(simp only [Act.put, pq_z126]; rfl))
          refine pu_z126 29 (some 47) undef mz126_30 rfl rfl (any_of HT_.out (by kernel_rfl)) (fun _ _ _ h => h) (Or.inr ⟨by rfl, rfl⟩) ?_ ?_ ?_
          (rotate_left; ·(simp only [Act.put, pq_z126]; rfl))
          refine pu_z126 30 (some 48) ?_ mz126_31 rfl rfl (any_of HT_.out (by kernel_rfl)) (fun _ _ _ h => h) (Or.inl ⟨by rfl, ?_⟩) ?_ ?_ ?_
          (rotate_left; ·(intro w'; go_simp; with_reducible rfl)); (rotate_left; ·(simp only [Act.put, pq_z126]; rfl))
          refine pu_z126 31 (some 49) ?_ mz126_32 rfl rfl (any_of HT_.out (by kernel_rfl)) (fun _ _ _ h => h) (Or.inl ⟨by rfl, ?_⟩) ?_ ?_ ?_
          (rotate_left; ·(intro w'; go_simp; with_reducible rfl)); (rotate_left; ·(simp only [Act.put, pq_z126]; rfl))
          refine pu_z126 32 (some 50) undef mz126_33 rfl rfl (any_of HT_.out (by kernel_rfl)) (fun _ _ _ h => h) (Or.inr ⟨by rfl, rfl⟩) ?_ ?_ ?_
          (rotate_left; ·(simp only [Act.put, pq_z126]; rfl))
          refine pu_z126 33 (some 51) undef mz126_34 rfl rfl (any_of HT_.out (by kernel_rfl)) (fun _ _ _ h => h) (Or.inr ⟨by rfl, rfl⟩) ?_ ?_ ?_
          (rotate_left; ·(simp only [Act.put, pq_z126]; rfl))
          refine pu_z126 34 (some 52) undef mz126_35 rfl rfl (any_of HT_.out (by kernel_rfl)) (fun _ _ _ h => h) (Or.inr ⟨by rfl, rfl⟩) ?_ ?_ ?_
          (rotate_left; ·(simp only [Act.put, pq_z126]; rfl))
          refine pu_z126 35 (some 53) undef mz126_36 rfl rfl (any_of HT_.out (by kernel_rfl)) (fun _ _ _ h => h) (Or.inr ⟨by rfl, rfl⟩) ?_ ?_ ?_
          (rotate_left; ·(simp only [Act.put, pq_z126]; rfl))
          refine pu_z126 36 (some 54) undef mz126_37 rfl rfl (any_of HT_.out (by kernel_rfl)) (fun _ _ _ h => h) (Or.inr ⟨by rfl, rfl⟩) ?_ ?_ ?_
          (rotate_left; ·(simp only [Act.put, pq_z126]; rfl))
          refine pu_z126 37 (some 55) undef mz126_38 rfl rfl (any_of HT_.out (by kernel_rfl)) (fun _ _ _ h => h) (Or.inr ⟨by rfl, rfl⟩) ?_ ?_ ?_
          (rotate_left; ·(simp only [Act.put, pq_z126]; rfl))
          refine pu_z126 38 (some 56) undef mz126_39 rfl rfl (any_of HT_.out (by kernel_rfl)) (fun _ _ _ h => h) (Or.inr ⟨by rfl, rfl⟩) ?_ ?_ ?_
          (rotate_left; ·(simp only [Act.put, pq_z126]; rfl))
          refine pu_z126 39 (some 57) undef mz126_40 rfl rfl (any_of HT_.out (by kernel_rfl)) (fun _ _ _ h => h) (Or.inr ⟨by rfl, rfl⟩) ?_ ?_ ?_
          (rotate_left; ·(simp only [Act.put, pq_z126]; rfl))
          refine pu_z126 40 (some 58) undef mz126_41 rfl rfl (any_of HT_.out (by kernel_rfl)) (fun _ _ _ h => h) (Or.inr ⟨by rfl, rfl⟩) ?_ ?_ ?_
          (rotate_left; ·(simp only [Act.put, pq_z126]; rfl))
          refine pu_z126 41 (some 59) undef mz126_42 rfl rfl (any_of HT_.out (by kernel_rfl)) (fun _ _ _ h => h) (Or.inr ⟨by rfl, rfl⟩) ?_ ?_ ?_
          (rotate_left; ·(simp only [Act.put, pq_z126]; rfl))
          refine pu_z126 42 (some 60) undef mz126_43 rfl rfl (any_of HT_.out (by kernel_rfl)) (fun _ _ _ h => h) (Or.inr ⟨by rfl, rfl⟩) ?_ ?_ ?_
          (rotate_left; ·(simp only [Act.put, pq_z126]; rfl))
          refine pu_z126 43 (some 61) undef mz126_44 rfl rfl (any_of HT_.out (by kernel_rfl)) (fun _ _ _ h => h) (Or.inr ⟨by rfl, rfl⟩) ?_ ?_ ?_
          (rotate_left; ·(simp only [Act.put, pq_z126]; rfl))
          refine pu_z126 44 (some 62) undef mz126_45 rfl rfl (any_of HT_.out (by kernel_rfl)) (fun _ _ _ h => h) (Or.inr ⟨by rfl, rfl⟩) ?_ ?_ ?_
          (rotate_left; ·(simp only [Act.put, pq_z126]; rfl))
          refine pu_z126 45 (some 63) ?_ mz126_46 rfl rfl (any_of HT_.out (by kernel_rfl)) (fun _ _ _ h => h) (Or.inl ⟨by rfl, ?_⟩) ?_ ?_ ?_
          (rotate_left; ·(intro w'; go_simp; with_reducible rfl)); (rotate_left; ·(simp only [Act.put, pq_z126]; rfl))
          refine pu_z126 46 (some 64) ?_ mz126_47 rfl rfl (any_of HT_.out (by kernel_rfl)) (fun _ _ _ h => h) (Or.inl ⟨by rfl, ?_⟩) ?_ ?_ ?_
          (rotate_left; ·(intro w'; go_simp; with_reducible rfl)); (rotate_left; ·(simp only [Act.put, pq_z126]; rfl))
          refine pu_z126 47 (some 65) undef mz126_48 rfl rfl (any_of HT_.out (by kernel_rfl)) (fun _ _ _ h => h) (Or.inr ⟨by rfl, rfl⟩) ?_ ?_ ?_
          (rotate_left; ·(simp only [Act.put, pq_z126]; rfl))
          refine pu_z126 48 (some 66) undef mz126_49 rfl rfl (any_of HT_.out (by kernel_rfl)) (fun _ _ _ h => h) (Or.inr ⟨by rfl, rfl⟩) ?_ ?_ ?_
          (rotate_left; ·(simp only [Act.put, pq_z126]; rfl))
          refine pu_z126 49 (some 67) undef mz126_50 rfl rfl (any_of HT_.out (by kernel_rfl)) (fun _ _ _ h => h) (Or.inr ⟨by rfl, rfl⟩) ?_ ?_ ?_
          (rotate_left; ·(simp only [Act.put, pq_z126]; rfl))
          refine pu_z126 50 (some 68) undef mz126_51 rfl rfl (any_of HT_.out (by kernel_rfl)) (fun _ _ _ h => h) (Or.inr ⟨by rfl, rfl⟩) ?_ ?_ ?_
          (rotate_left; ·(simp only [Act.put, pq_z126]; rfl))
          refine pu_z126 51 (some 69) undef mz126_52 rfl rfl (any_of HT_.out (by kernel_rfl)) (fun _ _ _ h => h) (Or.inr ⟨by rfl, rfl⟩) ?_ ?_ ?_
          (rotate_left; ·(simp only [Act.put, pq_z126]; rfl))
          refine pu_z126 52 (some 70) undef mz126_53 rfl rfl (any_of HT_.out (by kernel_rfl)) (fun _ _ _ h => h) (Or.inr ⟨by rfl, rfl⟩) ?_ ?_ ?_
          (rotate_left; ·(simp only [Act.put, pq_z126]; rfl))
          refine pu_z126 53 (some 71) undef mz126_54 rfl rfl (any_of HT_.out (by kernel_rfl)) (fun _ _ _ h => h) (Or.inr ⟨by rfl, rfl⟩) ?_ ?_ ?_
          (rotate_left; ·(simp only [Act.put, pq_z126]; rfl))
          refine pu_z126 54 (some 72) undef mz126_55 rfl rfl (any_of HT_.out (by kernel_rfl)) (fun _ _ _ h => h) (Or.inr ⟨by rfl, rfl⟩) ?_ ?_ ?_
          (rotate_left; ·(simp only [Act.put, pq_z126]; rfl))
          refine pu_z126 55 (some 73) ?_ mz126_56 rfl rfl (any_of HT_.out (by kernel_rfl)) (fun _ _ _ h => h) (Or.inl ⟨by rfl, ?_⟩) ?_ ?_ ?_
          (rotate_left; ·(intro w'; go_simp; with_reducible rfl)); (rotate_left; ·(simp only [Act.put, pq_z126]; rfl))
          refine done_ (done_of HT_.out (by kernel_rfl)) ?_
          try go_wp2
          go_ret
          exact ⟨by first | rfl | (simp [errW_none, errW_some] <;> rfl) | (simp [*, errW_none, errW_some] <;> rfl), by repeat (first | (with_reducible first | exact HB.out | apply below_alloc | apply pw_below_drewN | apply below_drew1 | refine below_set ?_ GE669.out) | exact HB.out)⟩
        ·replace c10 := Bool.eq_false_iff.mpr c10
         subst c10
         have H1 : (some false) = some r := by rw [if_neg (show ¬ (false = true) by decide)] at H; exact H
         clear H
         have H := H1
         clear H1
         obtain rfl := Option.some.inj H
         have p668 : 0 ≤ (x3_1 : Int) := of_decide_eq_true (by first | (with_reducible assumption) | assumption)
         have q668 : x3_1 < (l0.length : Int) := of_decide_eq_true (by first | (with_reducible assumption) | assumption)
         obtain ⟨ad668, e668, hx668_0, hx668_1, hx668_2, hx668_3⟩ := at_T144 HR0.out x3_1 p668 q668
         cases e668
         replace hx668_0 := (HB.out.cell (World.block_lt_of_cell? w _ hx668_0)).trans hx668_0
         replace hx668_1 := (HB.out.cell (World.block_lt_of_cell? w _ hx668_1)).trans hx668_1
         replace hx668_2 := (HB.out.cell (World.block_lt_of_cell? w _ hx668_2)).trans hx668_2
         replace hx668_3 := (HB.out.cell (World.block_lt_of_cell? w _ hx668_3)).trans hx668_3
         replace p668 := eq_true p668
         replace q668 := eq_true q668
         try go_wp2_with (first | ((with_reducible refine gate_dst (N := 4) rfl ?_); refine box_event ?hg (N := 4) ?hd (cs := #[.int .i64 0, .int .i64 0, .int .i64 0, .int .i64 0]) (t := 144) ?hr ?_; (case hd => rfl); (case hg => rfl); (case hr => first | (go_simp; done) | (go_simp; rfl)); intro gb669 hg w67 hbox hb; have n0_ := Aside0.mk (below_step (by repeat (first | (with_reducible first | exact HB.out | apply below_alloc | apply pw_below_drewN | apply below_drew1) | exact HB.out)) hb); have n1_ := Aside0.mk (hbox); have n2_ := Aside0.mk ((by rw [hg]; exact (below_size (by repeat (first | (with_reducible first | exact HB.out | apply below_alloc | apply pw_below_drewN | apply below_drew1) | exact HB.out))) : w.heap.size ≤ gb669)); have n3_ := Aside0.mk ((by rw [hg]; exact (below_size (by repeat (first | (with_reducible first | exact HB.out | apply below_alloc | apply pw_below_drewN | apply below_drew1) | exact HB.out))) : w.heap.size ≤ gb669)); clear HB; have HB := n0_; have BK669 := n1_; have GW669 := n2_; have GE669 := n3_; clear n0_ n1_ n2_ n3_; clear hb hbox hg; have hcz68_0 : w67.cell? ⟨gb669, 0, none⟩ = some (.int .i64 0) := (blk_cell BK669.out 0).trans rfl; have hcz68_1 : w67.cell? ⟨gb669, 1, none⟩ = some (.int .i64 0) := (blk_cell BK669.out 1).trans rfl; have hcz68_2 : w67.cell? ⟨gb669, 2, none⟩ = some (.int .i64 0) := (blk_cell BK669.out 2).trans rfl; have hcz68_3 : w67.cell? ⟨gb669, 3, none⟩ = some (.int .i64 0) := (blk_cell BK669.out 3).trans rfl; have hfz68_0 := blk_frozen BK669.out 0; have hfz68_1 := blk_frozen BK669.out 1; have hfz68_2 := blk_frozen BK669.out 2; have hfz68_3 := blk_frozen BK669.out 3))
         have n0_ : Aside0 (((((w67.setCell ⟨gb669, 0, none⟩ (.int .i64 ((rd_T144 l0 x3_1).f0.f0))).setCell ⟨gb669, 1, none⟩ (.int .i64 ((rd_T144 l0 x3_1).f0.f1))).setCell ⟨gb669, 2, none⟩ (.int .i64 ((rd_T144 l0 x3_1).f1))).setCell ⟨gb669, 3, none⟩ (.int .i64 ((rd_T144 l0 x3_1).f2))).heap[gb669]? = some (.cells #[.int .i64 ((rd_T144 l0 x3_1).f0.f0), .int .i64 ((rd_T144 l0 x3_1).f0.f1), .int .i64 ((rd_T144 l0 x3_1).f1), .int .i64 ((rd_T144 l0 x3_1).f2)] 144 (0, 0))) := ⟨by (with_reducible repeat (first | refine blk_drewN ?_ _ | refine blk_drew ?_ | refine blk_alloc ?_ _)); refine blk_put (cs := #[.int .i64 ((rd_T144 l0 x3_1).f0.f0), .int .i64 ((rd_T144 l0 x3_1).f0.f1), .int .i64 ((rd_T144 l0 x3_1).f1), .int .i64 0]) ?_ 3 _ rfl; (with_reducible repeat (first | refine blk_drewN ?_ _ | refine blk_drew ?_ | refine blk_alloc ?_ _)); refine blk_put (cs := #[.int .i64 ((rd_T144 l0 x3_1).f0.f0), .int .i64 ((rd_T144 l0 x3_1).f0.f1), .int .i64 0, .int .i64 0]) ?_ 2 _ rfl; (with_reducible repeat (first | refine blk_drewN ?_ _ | refine blk_drew ?_ | refine blk_alloc ?_ _)); refine blk_put (cs := #[.int .i64 ((rd_T144 l0 x3_1).f0.f0), .int .i64 0, .int .i64 0, .int .i64 0]) ?_ 1 _ rfl; (with_reducible repeat (first | refine blk_drewN ?_ _ | refine blk_drew ?_ | refine blk_alloc ?_ _)); refine blk_put (cs := #[.int .i64 0, .int .i64 0, .int .i64 0, .int .i64 0]) ?_ 0 _ rfl; (with_reducible repeat (first | refine blk_drewN ?_ _ | refine blk_drew ?_ | refine blk_alloc ?_ _)); exact BK669.out⟩
         have n1_ : Aside0 (Below w.heap.size w ((((w67.setCell ⟨gb669, 0, none⟩ (.int .i64 ((rd_T144 l0 x3_1).f0.f0))).setCell ⟨gb669, 1, none⟩ (.int .i64 ((rd_T144 l0 x3_1).f0.f1))).setCell ⟨gb669, 2, none⟩ (.int .i64 ((rd_T144 l0 x3_1).f1))).setCell ⟨gb669, 3, none⟩ (.int .i64 ((rd_T144 l0 x3_1).f2)))) := ⟨by repeat (first | (with_reducible first | exact HB.out | apply below_alloc | apply pw_below_drewN | apply below_drew1 | refine below_set ?_ GE669.out) | exact HB.out)⟩
         (try clear BK669)
         (try clear HB)
         generalize ((((w67.setCell ⟨gb669, 0, none⟩ (.int .i64 ((rd_T144 l0 x3_1).f0.f0))).setCell ⟨gb669, 1, none⟩ (.int .i64 ((rd_T144 l0 x3_1).f0.f1))).setCell ⟨gb669, 2, none⟩ (.int .i64 ((rd_T144 l0 x3_1).f1))).setCell ⟨gb669, 3, none⟩ (.int .i64 ((rd_T144 l0 x3_1).f2))) = w69 at n0_ n1_ ⊢
         have BK669 := n0_
         have HB := n1_
         clear n0_ n1_
         have n0_ := Aside0.mk (blk_drew BK669.out)
         have n1_ := Aside0.mk (below_drew1 HB.out)
         clear BK669
         clear HB
         have BK669 := n0_
         have HB := n1_
         clear n0_ n1_
         refine start_ (n := 56) (S := fun w' => w'.cell? ⟨gb669, 0, none⟩ = some (.int .i64 ((rd_T144 l0 x3_1).f0.f0)) ∧ w'.cell? ⟨gb669, 1, none⟩ = some (.int .i64 ((rd_T144 l0 x3_1).f0.f1)) ∧ w'.cell? ⟨gb669, 2, none⟩ = some (.int .i64 ((rd_T144 l0 x3_1).f1)) ∧ w'.cell? ⟨gb669, 3, none⟩ = some (.int .i64 ((rd_T144 l0 x3_1).f2))) (ds := []) mz126_0 (by kernel_rfl) rfl rfl ⟨(blk_cell BK669.out 0).trans rfl, (blk_cell BK669.out 1).trans rfl, (blk_cell BK669.out 2).trans rfl, (blk_cell BK669.out 3).trans rfl⟩ (fun hHeld => ?_); refine with_tabW spec_l10OK.tab7 spec_l10OK.bits7 (fun HT_ HW_ => ?_)
         generalize w69.drew = w70 at BK669 HB hHeld ⊢
         refine pu_z126 0 (some 18) ?_ mz126_1 rfl rfl (any_of HT_.out (by kernel_rfl)) (fun _ _ _ h => h) (Or.inl ⟨by rfl, ?_⟩) ?_ ?_ ?_
         (rotate_left; ·(intro w'; go_simp; with_reducible rfl)); (rotate_left; ·(simp only [Act.put, pq_z126]; rfl))
         refine pu_z126 1 (some 19) ?_ mz126_2 rfl rfl (any_of HT_.out (by kernel_rfl)) (fun _ _ _ h => h) (Or.inl ⟨by rfl, ?_⟩) ?_ ?_ ?_
         (rotate_left; ·(intro w'; go_simp; with_reducible rfl)); (rotate_left; ·(simp only [Act.put, pq_z126]; rfl))
         refine take_ (i := 2) (N := some 20) (v := ?_) (a' := ?_) mz126_3 rfl rfl (take_ofW HT_.out HW_.out (by kernel_rfl)) (fun _ _ _ h => h) (Or.inl ⟨by rfl, ?_⟩) hHeld ?_ ?_
         (rotate_left; ·(rintro w' ⟨s0, s1, s2, s3⟩; go_simp; with_reducible rfl)); (rotate_left; ·(simp only [Act.put, pq_z126]; rfl))
         refine one_ (i := 3) (N := some 21) mz126_4 rfl rfl (one_of HT_.out (by kernel_rfl)) (by decide) (fun K hK => ?_)
         refine goes_ Try.func96 (by kernel_rfl) rfl #[.int .i64 ((rd_T144 l0 x3_1).f0.f0), .int .i64 1, .int .i64 4] (by rfl) rfl rfl (by (try simp only [List.map_toArray, List.map_cons, List.map_nil]); first | done | rfl | (simp only [List.length_drop, List.length_take]; rfl)) ?_
         with_reducible refine (spec_l00In.calls ((rd_T144 l0 x3_1).f0.f0) 1 4 true _ A5.out).mono ?_
         rintro e w' ⟨rfl, ⟨nd, rfl⟩⟩
         refine ⟨_, rfl, ?_⟩
         refine hK.out _ _ ⟨(blk_cell BK669.out 0).trans rfl, (blk_cell BK669.out 1).trans rfl, (blk_cell BK669.out 2).trans rfl, (blk_cell BK669.out 3).trans rfl⟩ (fun hHeld => ?_)
         clear hK K
         refine norm_ (a' := ?_) ?_ ?_
         (rotate_left; ·(show Act.put _ (some 21) _ = _; simp only [Act.put, pq_z126]; rfl))
         refine pu_z126 4 (some 22) ?_ mz126_5 rfl rfl (any_of HT_.out (by kernel_rfl)) (fun _ _ _ h => h) (Or.inl ⟨by rfl, ?_⟩) ?_ ?_ ?_
         (rotate_left; ·(intro w'; go_simp; with_reducible rfl)); (rotate_left; ·(simp only [Act.put, pq_z126]; rfl))
         refine pu_z126 5 (some 23) ?_ mz126_6 rfl rfl (any_of HT_.out (by kernel_rfl)) (fun _ _ _ h => h) (Or.inl ⟨by rfl, ?_⟩) ?_ ?_ ?_
         (rotate_left; ·(intro w'; go_simp; with_reducible rfl)); (rotate_left; ·(simp only [Act.put, pq_z126]; rfl))
         refine pu_z126 6 (some 24) ?_ mz126_7 rfl rfl (any_of HT_.out (by kernel_rfl)) (fun _ _ _ h => h) (Or.inl ⟨by rfl, ?_⟩) ?_ ?_ ?_
         (rotate_left; ·(intro w'; go_simp; with_reducible rfl)); (rotate_left; ·(simp only [Act.put, pq_z126]; rfl))
         refine pu_z126 7 (some 25) ?_ mz126_8 rfl rfl (any_of HT_.out (by kernel_rfl)) (fun _ _ _ h => h) (Or.inl ⟨by rfl, ?_⟩) ?_ ?_ ?_
         (rotate_left; ·(intro w'; go_simp; with_reducible rfl)); (rotate_left; ·(simp only [Act.put, pq_z126]; rfl))
         refine take_ (i := 8) (N := some 26) (v := ?_) (a' := ?_) mz126_9 rfl rfl (take_ofW HT_.out HW_.out (by kernel_rfl)) (fun _ _ _ h => h) (Or.inl ⟨by rfl, ?_⟩) hHeld ?_ ?_
         (rotate_left; ·(rintro w' ⟨s0, s1, s2, s3⟩; go_simp; with_reducible rfl)); (rotate_left; ·(simp only [Act.put, pq_z126]; rfl))
         refine one_ (i := 9) (N := some 27) mz126_10 rfl rfl (one_of HT_.out (by kernel_rfl)) (by decide) (fun K hK => ?_)
         refine goes_ Try.func96 (by kernel_rfl) rfl #[.int .i64 ((rd_T144 l0 x3_1).f0.f1), .int .i64 0, .int .i64 15] (by rfl) rfl rfl (by (try simp only [List.map_toArray, List.map_cons, List.map_nil]); first | done | rfl | (simp only [List.length_drop, List.length_take]; rfl)) ?_
         with_reducible refine (spec_l00In.calls ((rd_T144 l0 x3_1).f0.f1) 0 15 true _ A7.out).mono ?_
         rintro e w' ⟨rfl, ⟨nd, rfl⟩⟩
         refine ⟨_, rfl, ?_⟩
         refine hK.out _ _ ⟨(blk_cell BK669.out 0).trans rfl, (blk_cell BK669.out 1).trans rfl, (blk_cell BK669.out 2).trans rfl, (blk_cell BK669.out 3).trans rfl⟩ (fun hHeld => ?_)
         clear hK K
         refine norm_ (a' := ?_) ?_ ?_
         (rotate_left; ·(show Act.put _ (some 27) _ = _; simp only [Act.put, pq_z126]; rfl))
         refine pu_z126 10 (some 28) ?_ mz126_11 rfl rfl (any_of HT_.out (by kernel_rfl)) (fun _ _ _ h => h) (Or.inl ⟨by rfl, ?_⟩) ?_ ?_ ?_
         (rotate_left; ·(intro w'; go_simp; with_reducible rfl)); (rotate_left; ·(simp only [Act.put, pq_z126]; rfl))
         refine pu_z126 11 (some 29) ?_ mz126_12 rfl rfl (any_of HT_.out (by kernel_rfl)) (fun _ _ _ h => h) (Or.inl ⟨by rfl, ?_⟩) ?_ ?_ ?_
         (rotate_left; ·(intro w'; go_simp; with_reducible rfl)); (rotate_left; ·(simp only [Act.put, pq_z126]; rfl))
         refine pu_z126 12 (some 30) ?_ mz126_13 rfl rfl (any_of HT_.out (by kernel_rfl)) (fun _ _ _ h => h) (Or.inl ⟨by rfl, ?_⟩) ?_ ?_ ?_
         (rotate_left; ·(intro w'; go_simp; with_reducible rfl)); (rotate_left; ·(simp only [Act.put, pq_z126]; rfl))
         refine pu_z126 13 (some 31) ?_ mz126_14 rfl rfl (any_of HT_.out (by kernel_rfl)) (fun _ _ _ h => h) (Or.inl ⟨by rfl, ?_⟩) ?_ ?_ ?_
         (rotate_left; ·(intro w'; go_simp; with_reducible rfl)); (rotate_left; ·(simp only [Act.put, pq_z126]; rfl))
         refine take_ (i := 14) (N := some 32) (v := ?_) (a' := ?_) mz126_15 rfl rfl (take_ofW HT_.out HW_.out (by kernel_rfl)) (fun _ _ _ h => h) (Or.inl ⟨by rfl, ?_⟩) hHeld ?_ ?_
         (rotate_left; ·(rintro w' ⟨s0, s1, s2, s3⟩; go_simp; with_reducible rfl)); (rotate_left; ·(simp only [Act.put, pq_z126]; rfl))
         refine one_ (i := 15) (N := some 33) mz126_16 rfl rfl (one_of HT_.out (by kernel_rfl)) (by decide) (fun K hK => ?_)
         refine goes_ Try.func96 (by kernel_rfl) rfl #[.int .i64 ((rd_T144 l0 x3_1).f1), .int .i64 0, .int .i64 15] (by rfl) rfl rfl (by (try simp only [List.map_toArray, List.map_cons, List.map_nil]); first | done | rfl | (simp only [List.length_drop, List.length_take]; rfl)) ?_
         with_reducible refine (spec_l00In.calls ((rd_T144 l0 x3_1).f1) 0 15 false _ A9.out).mono ?_
         rintro e w' ⟨rfl, ⟨nd, rfl⟩⟩
         refine ⟨_, rfl, ?_⟩
         refine hK.out _ _ ⟨(blk_cell BK669.out 0).trans rfl, (blk_cell BK669.out 1).trans rfl, (blk_cell BK669.out 2).trans rfl, (blk_cell BK669.out 3).trans rfl⟩ (fun hHeld => ?_)
         clear hK K
         refine norm_ (a' := ?_) ?_ ?_
         (rotate_left; ·(show Act.put _ (some 33) _ = _; simp only [Act.put, pq_z126]; rfl))
         refine pu_z126 16 (some 34) ?_ mz126_17 rfl rfl (any_of HT_.out (by kernel_rfl)) (fun _ _ _ h => h) (Or.inl ⟨by rfl, ?_⟩) ?_ ?_ ?_
         (rotate_left; ·(intro w'; go_simp; with_reducible rfl)); (rotate_left; ·(simp only [Act.put, pq_z126]; rfl))
         refine pu_z126 17 (some 35) ?_ mz126_18 rfl rfl (any_of HT_.out (by kernel_rfl)) (fun _ _ _ h => h) (Or.inl ⟨by rfl, ?_⟩) ?_ ?_ ?_
         (rotate_left; ·(intro w'; go_simp; with_reducible rfl)); (rotate_left; ·(simp only [Act.put, pq_z126]; rfl))
         refine pu_z126 18 (some 36) ?_ mz126_19 rfl rfl (any_of HT_.out (by kernel_rfl)) (fun _ _ _ h => h) (Or.inl ⟨by rfl, ?_⟩) ?_ ?_ ?_
         (rotate_left; ·(intro w'; go_simp; with_reducible rfl)); (rotate_left; ·(simp only [Act.put, pq_z126]; rfl))
         refine pu_z126 19 (some 37) undef mz126_20 rfl rfl (any_of HT_.out (by kernel_rfl)) (fun _ _ _ h => h) (Or.inr ⟨by rfl, rfl⟩) ?_ ?_ ?_
         (rotate_left; ·(simp only [Act.put, pq_z126]; rfl))
         refine pu_z126 20 (some 38) undef mz126_21 rfl rfl (any_of HT_.out (by kernel_rfl)) (fun _ _ _ h => h) (Or.inr ⟨by rfl, rfl⟩) ?_ ?_ ?_
         (rotate_left; ·(simp only [Act.put, pq_z126]; rfl))
         refine pu_z126 21 (some 39) undef mz126_22 rfl rfl (any_of HT_.out (by kernel_rfl)) (fun _ _ _ h => h) (Or.inr ⟨by rfl, rfl⟩) ?_ ?_ ?_
         (rotate_left; ·(simp only [Act.put, pq_z126]; rfl))
         refine pu_z126 22 (some 40) undef mz126_23 rfl rfl (any_of HT_.out (by kernel_rfl)) (fun _ _ _ h => h) (Or.inr ⟨by rfl, rfl⟩) ?_ ?_ ?_
         (rotate_left; ·(simp only [Act.put, pq_z126]; rfl))
         refine pu_z126 23 (some 41) ?_ mz126_24 rfl rfl (any_of HT_.out (by kernel_rfl)) (fun _ _ _ h => h) (Or.inl ⟨by rfl, ?_⟩) ?_ ?_ ?_
         (rotate_left; ·(intro w'; go_simp; with_reducible rfl)); (rotate_left; ·(simp only [Act.put, pq_z126]; rfl))
         refine pu_z126 24 (some 42) ?_ mz126_25 rfl rfl (any_of HT_.out (by kernel_rfl)) (fun _ _ _ h => h) (Or.inl ⟨by rfl, ?_⟩) ?_ ?_ ?_
         (rotate_left; ·(intro w'; go_simp; with_reducible rfl)); (rotate_left; ·(simp only [Act.put, pq_z126]; rfl))
         refine pu_z126 25 (some 43) undef mz126_26 rfl rfl (any_of HT_.out (by kernel_rfl)) (fun _ _ _ h => h) (Or.inr ⟨by rfl, rfl⟩) ?_ ?_ ?_
         (rotate_left; ·(simp only [Act.put, pq_z126]; rfl))
         refine pu_z126 26 (some 44) undef mz126_63 rfl rfl (any_of HT_.out (by kernel_rfl)) (fun _ _ _ h => h) (Or.inr ⟨by rfl, rfl⟩) ?_ ?_ ?_
         (rotate_left; ·(simp only [Act.put, pq_z126]; rfl))
         refine pu_z126 27 (some 45) undef mz126_28 rfl rfl (any_of HT_.out (by kernel_rfl)) (fun _ _ _ h => h) (Or.inr ⟨by rfl, rfl⟩) ?_ ?_ ?_
         (rotate_left; ·(simp only [Act.put, pq_z126]; rfl))
         refine pu_z126 28 (some 46) undef mz126_29 rfl rfl (any_of HT_.out (by kernel_rfl)) (fun _ _ _ h => h) (Or.inr ⟨by rfl, rfl⟩) ?_ ?_ ?_
         (rotate_left; ·(simp only [Act.put, pq_z126]; rfl))
         refine pu_z126 29 (some 47) undef mz126_30 rfl rfl (any_of HT_.out (by kernel_rfl)) (fun _ _ _ h => h) (Or.inr ⟨by rfl, rfl⟩) ?_ ?_ ?_
         (rotate_left; ·(simp only [Act.put, pq_z126]; rfl))
         refine pu_z126 30 (some 48) ?_ mz126_31 rfl rfl (any_of HT_.out (by kernel_rfl)) (fun _ _ _ h => h) (Or.inl ⟨by rfl, ?_⟩) ?_ ?_ ?_
         (rotate_left; ·(intro w'; go_simp; with_reducible rfl)); (rotate_left; ·(simp only [Act.put, pq_z126]; rfl))
         refine pu_z126 31 (some 49) ?_ mz126_32 rfl rfl (any_of HT_.out (by kernel_rfl)) (fun _ _ _ h => h) (Or.inl ⟨by rfl, ?_⟩) ?_ ?_ ?_
         (rotate_left; ·(intro w'; go_simp; with_reducible rfl)); (rotate_left; ·(simp only [Act.put, pq_z126]; rfl))
         refine pu_z126 32 (some 50) undef mz126_33 rfl rfl (any_of HT_.out (by kernel_rfl)) (fun _ _ _ h => h) (Or.inr ⟨by rfl, rfl⟩) ?_ ?_ ?_
         (rotate_left; ·(simp only [Act.put, pq_z126]; rfl))
         refine pu_z126 33 (some 51) undef mz126_34 rfl rfl (any_of HT_.out (by kernel_rfl)) (fun _ _ _ h => h) (Or.inr ⟨by rfl, rfl⟩) ?_ ?_ ?_
         (rotate_left; ·(simp only [Act.put, pq_z126]; rfl))
         refine pu_z126 34 (some 52) undef mz126_35 rfl rfl (any_of HT_.out (by kernel_rfl)) (fun _ _ _ h => h) (Or.inr ⟨by rfl, rfl⟩) ?_ ?_ ?_
         (rotate_left; ·(simp only [Act.put, pq_z126]; rfl))
         refine pu_z126 35 (some 53) undef mz126_36 rfl rfl (any_of HT_.out (by kernel_rfl)) (fun _ _ _ h => h) (Or.inr ⟨by rfl, rfl⟩) ?_ ?_ ?_
         (rotate_left; ·(simp only [Act.put, pq_z126]; rfl))
         refine pu_z126 36 (some 54) undef mz126_37 rfl rfl (any_of HT_.out (by kernel_rfl)) (fun _ _ _ h => h) (Or.inr ⟨by rfl, rfl⟩) ?_ ?_ ?_
         (rotate_left; ·(simp only [Act.put, pq_z126]; rfl))
         refine pu_z126 37 (some 55) undef mz126_38 rfl rfl (any_of HT_.out (by kernel_rfl)) (fun _ _ _ h => h) (Or.inr ⟨by rfl, rfl⟩) ?_ ?_ ?_
         (rotate_left; ·(simp only [Act.put, pq_z126]; rfl))
         refine pu_z126 38 (some 56) undef mz126_39 rfl rfl (any_of HT_.out (by kernel_rfl)) (fun _ _ _ h => h) (Or.inr ⟨by rfl, rfl⟩) ?_ ?_ ?_
         (rotate_left; ·(simp only [Act.put, pq_z126]; rfl))
         refine pu_z126 39 (some 57) undef mz126_40 rfl rfl (any_of HT_.out (by kernel_rfl)) (fun _ _ _ h => h) (Or.inr ⟨by rfl, rfl⟩) ?_ ?_ ?_
         (rotate_left; ·(simp only [Act.put, pq_z126]; rfl))
         refine pu_z126 40 (some 58) undef mz126_41 rfl rfl (any_of HT_.out (by kernel_rfl)) (fun _ _ _ h => h) (Or.inr ⟨by rfl, rfl⟩) ?_ ?_ ?_
         (rotate_left; ·(simp only [Act.put, pq_z126]; rfl))
         refine pu_z126 41 (some 59) undef mz126_42 rfl rfl (any_of HT_.out (by kernel_rfl)) (fun _ _ _ h => h) (Or.inr ⟨by rfl, rfl⟩) ?_ ?_ ?_
         (rotate_left; ·(simp only [Act.put, pq_z126]; rfl))
         refine pu_z126 42 (some 60) undef mz126_43 rfl rfl (any_of HT_.out (by kernel_rfl)) (fun _ _ _ h => h) (Or.inr ⟨by rfl, rfl⟩) ?_ ?_ ?_
         (rotate_left; ·(simp only [Act.put, pq_z126]; rfl))
         refine pu_z126 43 (some 61) undef mz126_44 rfl rfl (any_of HT_.out (by kernel_rfl)) (fun _ _ _ h => h) (Or.inr ⟨by rfl, rfl⟩) ?_ ?_ ?_
         (rotate_left; ·(simp only [Act.put, pq_z126]; rfl))
         refine pu_z126 44 (some 62) undef mz126_45 rfl rfl (any_of HT_.out (by kernel_rfl)) (fun _ _ _ h => h) (Or.inr ⟨by rfl, rfl⟩) ?_ ?_ ?_
         (rotate_left; ·(simp only [Act.put, pq_z126]; rfl))
         refine pu_z126 45 (some 63) ?_ mz126_46 rfl rfl (any_of HT_.out (by kernel_rfl)) (fun _ _ _ h => h) (Or.inl ⟨by rfl, ?_⟩) ?_ ?_ ?_
         (rotate_left; ·(intro w'; go_simp; with_reducible rfl)); (rotate_left; ·(simp only [Act.put, pq_z126]; rfl))
         refine pu_z126 46 (some 64) ?_ mz126_47 rfl rfl (any_of HT_.out (by kernel_rfl)) (fun _ _ _ h => h) (Or.inl ⟨by rfl, ?_⟩) ?_ ?_ ?_
         (rotate_left; ·(intro w'; go_simp; with_reducible rfl)); (rotate_left; ·(simp only [Act.put, pq_z126]; rfl))
         refine pu_z126 47 (some 65) undef mz126_48 rfl rfl (any_of HT_.out (by kernel_rfl)) (fun _ _ _ h => h) (Or.inr ⟨by rfl, rfl⟩) ?_ ?_ ?_
         (rotate_left; ·(simp only [Act.put, pq_z126]; rfl))
         refine pu_z126 48 (some 66) undef mz126_49 rfl rfl (any_of HT_.out (by kernel_rfl)) (fun _ _ _ h => h) (Or.inr ⟨by rfl, rfl⟩) ?_ ?_ ?_
         (rotate_left; ·(simp only [Act.put, pq_z126]; rfl))
         refine pu_z126 49 (some 67) undef mz126_50 rfl rfl (any_of HT_.out (by kernel_rfl)) (fun _ _ _ h => h) (Or.inr ⟨by rfl, rfl⟩) ?_ ?_ ?_
         (rotate_left; ·(simp only [Act.put, pq_z126]; rfl))
         refine pu_z126 50 (some 68) undef mz126_51 rfl rfl (any_of HT_.out (by kernel_rfl)) (fun _ _ _ h => h) (Or.inr ⟨by rfl, rfl⟩) ?_ ?_ ?_
         (rotate_left; ·(simp only [Act.put, pq_z126]; rfl))
         refine pu_z126 51 (some 69) undef mz126_52 rfl rfl (any_of HT_.out (by kernel_rfl)) (fun _ _ _ h => h) (Or.inr ⟨by rfl, rfl⟩) ?_ ?_ ?_
         (rotate_left; ·(simp only [Act.put, pq_z126]; rfl))
         refine pu_z126 52 (some 70) undef mz126_53 rfl rfl (any_of HT_.out (by kernel_rfl)) (fun _ _ _ h => h) (Or.inr ⟨by rfl, rfl⟩) ?_ ?_ ?_
         (rotate_left; ·(simp only [Act.put, pq_z126]; rfl))
         refine pu_z126 53 (some 71) undef mz126_54 rfl rfl (any_of HT_.out (by kernel_rfl)) (fun _ _ _ h => h) (Or.inr ⟨by rfl, rfl⟩) ?_ ?_ ?_
         (rotate_left; ·(simp only [Act.put, pq_z126]; rfl))
         refine pu_z126 54 (some 72) undef mz126_55 rfl rfl (any_of HT_.out (by kernel_rfl)) (fun _ _ _ h => h) (Or.inr ⟨by rfl, rfl⟩) ?_ ?_ ?_
         (rotate_left; ·(simp only [Act.put, pq_z126]; rfl))
         refine pu_z126 55 (some 73) ?_ mz126_56 rfl rfl (any_of HT_.out (by kernel_rfl)) (fun _ _ _ h => h) (Or.inl ⟨by rfl, ?_⟩) ?_ ?_ ?_
         (rotate_left; ·(intro w'; go_simp; with_reducible rfl)); (rotate_left; ·(simp only [Act.put, pq_z126]; rfl))
         refine done_ (done_of HT_.out (by kernel_rfl)) ?_
         try go_wp2
         go_ret
         exact ⟨by first | rfl | (simp [errW_none, errW_some] <;> rfl) | (simp [*, errW_none, errW_some] <;> rfl), by repeat (first | (with_reducible first | exact HB.out | apply below_alloc | apply pw_below_drewN | apply below_drew1 | refine below_set ?_ GE669.out) | exact HB.out)⟩
       ·replace c8 := Bool.eq_false_iff.mpr c8
        subst c8
        have H1 : (some false) = some r := by rw [if_neg (show ¬ (false = true) by decide)] at H; exact H
        clear H
        have H := H1
        clear H1
        obtain rfl := Option.some.inj H
        have p668 : 0 ≤ (x3_1 : Int) := of_decide_eq_true (by first | (with_reducible assumption) | assumption)
        have q668 : x3_1 < (l0.length : Int) := of_decide_eq_true (by first | (with_reducible assumption) | assumption)
        obtain ⟨ad668, e668, hx668_0, hx668_1, hx668_2, hx668_3⟩ := at_T144 HR0.out x3_1 p668 q668
        cases e668
        replace hx668_0 := (HB.out.cell (World.block_lt_of_cell? w _ hx668_0)).trans hx668_0
        replace hx668_1 := (HB.out.cell (World.block_lt_of_cell? w _ hx668_1)).trans hx668_1
        replace hx668_2 := (HB.out.cell (World.block_lt_of_cell? w _ hx668_2)).trans hx668_2
        replace hx668_3 := (HB.out.cell (World.block_lt_of_cell? w _ hx668_3)).trans hx668_3
        replace p668 := eq_true p668
        replace q668 := eq_true q668
        try go_wp2_with (first | ((with_reducible refine gate_dst (N := 4) rfl ?_); refine box_event ?hg (N := 4) ?hd (cs := #[.int .i64 0, .int .i64 0, .int .i64 0, .int .i64 0]) (t := 144) ?hr ?_; (case hd => rfl); (case hg => rfl); (case hr => first | (go_simp; done) | (go_simp; rfl)); intro gb669 hg w71 hbox hb; have n0_ := Aside0.mk (below_step (by repeat (first | (with_reducible first | exact HB.out | apply below_alloc | apply pw_below_drewN | apply below_drew1) | exact HB.out)) hb); have n1_ := Aside0.mk (hbox); have n2_ := Aside0.mk ((by rw [hg]; exact (below_size (by repeat (first | (with_reducible first | exact HB.out | apply below_alloc | apply pw_below_drewN | apply below_drew1) | exact HB.out))) : w.heap.size ≤ gb669)); have n3_ := Aside0.mk ((by rw [hg]; exact (below_size (by repeat (first | (with_reducible first | exact HB.out | apply below_alloc | apply pw_below_drewN | apply below_drew1) | exact HB.out))) : w.heap.size ≤ gb669)); clear HB; have HB := n0_; have BK669 := n1_; have GW669 := n2_; have GE669 := n3_; clear n0_ n1_ n2_ n3_; clear hb hbox hg; have hcz72_0 : w71.cell? ⟨gb669, 0, none⟩ = some (.int .i64 0) := (blk_cell BK669.out 0).trans rfl; have hcz72_1 : w71.cell? ⟨gb669, 1, none⟩ = some (.int .i64 0) := (blk_cell BK669.out 1).trans rfl; have hcz72_2 : w71.cell? ⟨gb669, 2, none⟩ = some (.int .i64 0) := (blk_cell BK669.out 2).trans rfl; have hcz72_3 : w71.cell? ⟨gb669, 3, none⟩ = some (.int .i64 0) := (blk_cell BK669.out 3).trans rfl; have hfz72_0 := blk_frozen BK669.out 0; have hfz72_1 := blk_frozen BK669.out 1; have hfz72_2 := blk_frozen BK669.out 2; have hfz72_3 := blk_frozen BK669.out 3))
        have n0_ : Aside0 (((((w71.setCell ⟨gb669, 0, none⟩ (.int .i64 ((rd_T144 l0 x3_1).f0.f0))).setCell ⟨gb669, 1, none⟩ (.int .i64 ((rd_T144 l0 x3_1).f0.f1))).setCell ⟨gb669, 2, none⟩ (.int .i64 ((rd_T144 l0 x3_1).f1))).setCell ⟨gb669, 3, none⟩ (.int .i64 ((rd_T144 l0 x3_1).f2))).heap[gb669]? = some (.cells #[.int .i64 ((rd_T144 l0 x3_1).f0.f0), .int .i64 ((rd_T144 l0 x3_1).f0.f1), .int .i64 ((rd_T144 l0 x3_1).f1), .int .i64 ((rd_T144 l0 x3_1).f2)] 144 (0, 0))) := ⟨by (with_reducible repeat (first | refine blk_drewN ?_ _ | refine blk_drew ?_ | refine blk_alloc ?_ _)); refine blk_put (cs := #[.int .i64 ((rd_T144 l0 x3_1).f0.f0), .int .i64 ((rd_T144 l0 x3_1).f0.f1), .int .i64 ((rd_T144 l0 x3_1).f1), .int .i64 0]) ?_ 3 _ rfl; (with_reducible repeat (first | refine blk_drewN ?_ _ | refine blk_drew ?_ | refine blk_alloc ?_ _)); refine blk_put (cs := #[.int .i64 ((rd_T144 l0 x3_1).f0.f0), .int .i64 ((rd_T144 l0 x3_1).f0.f1), .int .i64 0, .int .i64 0]) ?_ 2 _ rfl; (with_reducible repeat (first | refine blk_drewN ?_ _ | refine blk_drew ?_ | refine blk_alloc ?_ _)); refine blk_put (cs := #[.int .i64 ((rd_T144 l0 x3_1).f0.f0), .int .i64 0, .int .i64 0, .int .i64 0]) ?_ 1 _ rfl; (with_reducible repeat (first | refine blk_drewN ?_ _ | refine blk_drew ?_ | refine blk_alloc ?_ _)); refine blk_put (cs := #[.int .i64 0, .int .i64 0, .int .i64 0, .int .i64 0]) ?_ 0 _ rfl; (with_reducible repeat (first | refine blk_drewN ?_ _ | refine blk_drew ?_ | refine blk_alloc ?_ _)); exact BK669.out⟩
        have n1_ : Aside0 (Below w.heap.size w ((((w71.setCell ⟨gb669, 0, none⟩ (.int .i64 ((rd_T144 l0 x3_1).f0.f0))).setCell ⟨gb669, 1, none⟩ (.int .i64 ((rd_T144 l0 x3_1).f0.f1))).setCell ⟨gb669, 2, none⟩ (.int .i64 ((rd_T144 l0 x3_1).f1))).setCell ⟨gb669, 3, none⟩ (.int .i64 ((rd_T144 l0 x3_1).f2)))) := ⟨by repeat (first | (with_reducible first | exact HB.out | apply below_alloc | apply pw_below_drewN | apply below_drew1 | refine below_set ?_ GE669.out) | exact HB.out)⟩
        (try clear BK669)
        (try clear HB)
        generalize ((((w71.setCell ⟨gb669, 0, none⟩ (.int .i64 ((rd_T144 l0 x3_1).f0.f0))).setCell ⟨gb669, 1, none⟩ (.int .i64 ((rd_T144 l0 x3_1).f0.f1))).setCell ⟨gb669, 2, none⟩ (.int .i64 ((rd_T144 l0 x3_1).f1))).setCell ⟨gb669, 3, none⟩ (.int .i64 ((rd_T144 l0 x3_1).f2))) = w73 at n0_ n1_ ⊢
        have BK669 := n0_
        have HB := n1_
        clear n0_ n1_
        have n0_ := Aside0.mk (blk_drew BK669.out)
        have n1_ := Aside0.mk (below_drew1 HB.out)
        clear BK669
        clear HB
        have BK669 := n0_
        have HB := n1_
        clear n0_ n1_
        refine start_ (n := 56) (S := fun w' => w'.cell? ⟨gb669, 0, none⟩ = some (.int .i64 ((rd_T144 l0 x3_1).f0.f0)) ∧ w'.cell? ⟨gb669, 1, none⟩ = some (.int .i64 ((rd_T144 l0 x3_1).f0.f1)) ∧ w'.cell? ⟨gb669, 2, none⟩ = some (.int .i64 ((rd_T144 l0 x3_1).f1)) ∧ w'.cell? ⟨gb669, 3, none⟩ = some (.int .i64 ((rd_T144 l0 x3_1).f2))) (ds := []) mz126_0 (by kernel_rfl) rfl rfl ⟨(blk_cell BK669.out 0).trans rfl, (blk_cell BK669.out 1).trans rfl, (blk_cell BK669.out 2).trans rfl, (blk_cell BK669.out 3).trans rfl⟩ (fun hHeld => ?_); refine with_tabW spec_l10OK.tab7 spec_l10OK.bits7 (fun HT_ HW_ => ?_)
        generalize w73.drew = w74 at BK669 HB hHeld ⊢
        refine pu_z126 0 (some 18) ?_ mz126_1 rfl rfl (any_of HT_.out (by kernel_rfl)) (fun _ _ _ h => h) (Or.inl ⟨by rfl, ?_⟩) ?_ ?_ ?_
        (rotate_left; ·(intro w'; go_simp; with_reducible rfl)); (rotate_left; ·(simp only [Act.put, pq_z126]; rfl))
        refine pu_z126 1 (some 19) ?_ mz126_2 rfl rfl (any_of HT_.out (by kernel_rfl)) (fun _ _ _ h => h) (Or.inl ⟨by rfl, ?_⟩) ?_ ?_ ?_
        (rotate_left; ·(intro w'; go_simp; with_reducible rfl)); (rotate_left; ·(simp only [Act.put, pq_z126]; rfl))
        refine take_ (i := 2) (N := some 20) (v := ?_) (a' := ?_) mz126_3 rfl rfl (take_ofW HT_.out HW_.out (by kernel_rfl)) (fun _ _ _ h => h) (Or.inl ⟨by rfl, ?_⟩) hHeld ?_ ?_
        (rotate_left; ·(rintro w' ⟨s0, s1, s2, s3⟩; go_simp; with_reducible rfl)); (rotate_left; ·(simp only [Act.put, pq_z126]; rfl))
        refine one_ (i := 3) (N := some 21) mz126_4 rfl rfl (one_of HT_.out (by kernel_rfl)) (by decide) (fun K hK => ?_)
        refine goes_ Try.func96 (by kernel_rfl) rfl #[.int .i64 ((rd_T144 l0 x3_1).f0.f0), .int .i64 1, .int .i64 4] (by rfl) rfl rfl (by (try simp only [List.map_toArray, List.map_cons, List.map_nil]); first | done | rfl | (simp only [List.length_drop, List.length_take]; rfl)) ?_
        with_reducible refine (spec_l00In.calls ((rd_T144 l0 x3_1).f0.f0) 1 4 true _ A5.out).mono ?_
        rintro e w' ⟨rfl, ⟨nd, rfl⟩⟩
        refine ⟨_, rfl, ?_⟩
        refine hK.out _ _ ⟨(blk_cell BK669.out 0).trans rfl, (blk_cell BK669.out 1).trans rfl, (blk_cell BK669.out 2).trans rfl, (blk_cell BK669.out 3).trans rfl⟩ (fun hHeld => ?_)
        clear hK K
        refine norm_ (a' := ?_) ?_ ?_
        (rotate_left; ·(show Act.put _ (some 21) _ = _; simp only [Act.put, pq_z126]; rfl))
        refine pu_z126 4 (some 22) ?_ mz126_5 rfl rfl (any_of HT_.out (by kernel_rfl)) (fun _ _ _ h => h) (Or.inl ⟨by rfl, ?_⟩) ?_ ?_ ?_
        (rotate_left; ·(intro w'; go_simp; with_reducible rfl)); (rotate_left; ·(simp only [Act.put, pq_z126]; rfl))
        refine pu_z126 5 (some 23) ?_ mz126_6 rfl rfl (any_of HT_.out (by kernel_rfl)) (fun _ _ _ h => h) (Or.inl ⟨by rfl, ?_⟩) ?_ ?_ ?_
        (rotate_left; ·(intro w'; go_simp; with_reducible rfl)); (rotate_left; ·(simp only [Act.put, pq_z126]; rfl))
        refine pu_z126 6 (some 24) ?_ mz126_7 rfl rfl (any_of HT_.out (by kernel_rfl)) (fun _ _ _ h => h) (Or.inl ⟨by rfl, ?_⟩) ?_ ?_ ?_
        (rotate_left; ·(intro w'; go_simp; with_reducible rfl)); (rotate_left; ·(simp only [Act.put, pq_z126]; rfl))
        refine pu_z126 7 (some 25) ?_ mz126_8 rfl rfl (any_of HT_.out (by kernel_rfl)) (fun _ _ _ h => h) (Or.inl ⟨by rfl, ?_⟩) ?_ ?_ ?_
        (rotate_left; ·(intro w'; go_simp; with_reducible rfl)); (rotate_left; ·(simp only [Act.put, pq_z126]; rfl))
        refine take_ (i := 8) (N := some 26) (v := ?_) (a' := ?_) mz126_9 rfl rfl (take_ofW HT_.out HW_.out (by kernel_rfl)) (fun _ _ _ h => h) (Or.inl ⟨by rfl, ?_⟩) hHeld ?_ ?_
        (rotate_left; ·(rintro w' ⟨s0, s1, s2, s3⟩; go_simp; with_reducible rfl)); (rotate_left; ·(simp only [Act.put, pq_z126]; rfl))
        refine one_ (i := 9) (N := some 27) mz126_10 rfl rfl (one_of HT_.out (by kernel_rfl)) (by decide) (fun K hK => ?_)
        refine goes_ Try.func96 (by kernel_rfl) rfl #[.int .i64 ((rd_T144 l0 x3_1).f0.f1), .int .i64 0, .int .i64 15] (by rfl) rfl rfl (by (try simp only [List.map_toArray, List.map_cons, List.map_nil]); first | done | rfl | (simp only [List.length_drop, List.length_take]; rfl)) ?_
        with_reducible refine (spec_l00In.calls ((rd_T144 l0 x3_1).f0.f1) 0 15 false _ A7.out).mono ?_
        rintro e w' ⟨rfl, ⟨nd, rfl⟩⟩
        refine ⟨_, rfl, ?_⟩
        refine hK.out _ _ ⟨(blk_cell BK669.out 0).trans rfl, (blk_cell BK669.out 1).trans rfl, (blk_cell BK669.out 2).trans rfl, (blk_cell BK669.out 3).trans rfl⟩ (fun hHeld => ?_)
        clear hK K
        refine norm_ (a' := ?_) ?_ ?_
        (rotate_left; ·(show Act.put _ (some 27) _ = _; simp only [Act.put, pq_z126]; rfl))
        refine pu_z126 10 (some 28) ?_ mz126_11 rfl rfl (any_of HT_.out (by kernel_rfl)) (fun _ _ _ h => h) (Or.inl ⟨by rfl, ?_⟩) ?_ ?_ ?_
        (rotate_left; ·(intro w'; go_simp; with_reducible rfl)); (rotate_left; ·(simp only [Act.put, pq_z126]; rfl))
        refine pu_z126 11 (some 29) ?_ mz126_12 rfl rfl (any_of HT_.out (by kernel_rfl)) (fun _ _ _ h => h) (Or.inl ⟨by rfl, ?_⟩) ?_ ?_ ?_
        (rotate_left; ·(intro w'; go_simp; with_reducible rfl)); (rotate_left; ·(simp only [Act.put, pq_z126]; rfl))
        refine pu_z126 12 (some 30) ?_ mz126_13 rfl rfl (any_of HT_.out (by kernel_rfl)) (fun _ _ _ h => h) (Or.inl ⟨by rfl, ?_⟩) ?_ ?_ ?_
        (rotate_left; ·(intro w'; go_simp; with_reducible rfl)); (rotate_left; ·(simp only [Act.put, pq_z126]; rfl))
        refine pu_z126 13 (some 31) undef mz126_14 rfl rfl (any_of HT_.out (by kernel_rfl)) (fun _ _ _ h => h) (Or.inr ⟨by rfl, rfl⟩) ?_ ?_ ?_
        (rotate_left; ·(simp only [Act.put, pq_z126]; rfl))
        refine pu_z126 14 (some 32) undef mz126_15 rfl rfl (any_of HT_.out (by kernel_rfl)) (fun _ _ _ h => h) (Or.inr ⟨by rfl, rfl⟩) ?_ ?_ ?_
        (rotate_left; ·(simp only [Act.put, pq_z126]; rfl))
        refine pu_z126 15 (some 33) undef mz126_16 rfl rfl (any_of HT_.out (by kernel_rfl)) (fun _ _ _ h => h) (Or.inr ⟨by rfl, rfl⟩) ?_ ?_ ?_
        (rotate_left; ·(simp only [Act.put, pq_z126]; rfl))
        refine pu_z126 16 (some 34) undef mz126_17 rfl rfl (any_of HT_.out (by kernel_rfl)) (fun _ _ _ h => h) (Or.inr ⟨by rfl, rfl⟩) ?_ ?_ ?_
        (rotate_left; ·(simp only [Act.put, pq_z126]; rfl))
        refine pu_z126 17 (some 35) ?_ mz126_18 rfl rfl (any_of HT_.out (by kernel_rfl)) (fun _ _ _ h => h) (Or.inl ⟨by rfl, ?_⟩) ?_ ?_ ?_
        (rotate_left; ·(intro w'; go_simp; with_reducible rfl)); (rotate_left; ·(simp only [Act.put, pq_z126]; rfl))
        refine pu_z126 18 (some 36) ?_ mz126_19 rfl rfl (any_of HT_.out (by kernel_rfl)) (fun _ _ _ h => h) (Or.inl ⟨by rfl, ?_⟩) ?_ ?_ ?_
        (rotate_left; ·(intro w'; go_simp; with_reducible rfl)); (rotate_left; ·(simp only [Act.put, pq_z126]; rfl))
        refine pu_z126 19 (some 37) undef mz126_20 rfl rfl (any_of HT_.out (by kernel_rfl)) (fun _ _ _ h => h) (Or.inr ⟨by rfl, rfl⟩) ?_ ?_ ?_
        (rotate_left; ·(simp only [Act.put, pq_z126]; rfl))
        refine pu_z126 20 (some 38) undef mz126_21 rfl rfl (any_of HT_.out (by kernel_rfl)) (fun _ _ _ h => h) (Or.inr ⟨by rfl, rfl⟩) ?_ ?_ ?_
        (rotate_left; ·(simp only [Act.put, pq_z126]; rfl))
        refine pu_z126 21 (some 39) undef mz126_22 rfl rfl (any_of HT_.out (by kernel_rfl)) (fun _ _ _ h => h) (Or.inr ⟨by rfl, rfl⟩) ?_ ?_ ?_
        (rotate_left; ·(simp only [Act.put, pq_z126]; rfl))
        refine pu_z126 22 (some 40) undef mz126_23 rfl rfl (any_of HT_.out (by kernel_rfl)) (fun _ _ _ h => h) (Or.inr ⟨by rfl, rfl⟩) ?_ ?_ ?_
        (rotate_left; ·(simp only [Act.put, pq_z126]; rfl))
        refine pu_z126 23 (some 41) ?_ mz126_24 rfl rfl (any_of HT_.out (by kernel_rfl)) (fun _ _ _ h => h) (Or.inl ⟨by rfl, ?_⟩) ?_ ?_ ?_
        (rotate_left; ·(intro w'; go_simp; with_reducible rfl)); (rotate_left; ·(simp only [Act.put, pq_z126]; rfl))
        refine pu_z126 24 (some 42) ?_ mz126_25 rfl rfl (any_of HT_.out (by kernel_rfl)) (fun _ _ _ h => h) (Or.inl ⟨by rfl, ?_⟩) ?_ ?_ ?_
        (rotate_left; ·(intro w'; go_simp; with_reducible rfl)); (rotate_left; ·(simp only [Act.put, pq_z126]; rfl))
        refine pu_z126 25 (some 43) undef mz126_26 rfl rfl (any_of HT_.out (by kernel_rfl)) (fun _ _ _ h => h) (Or.inr ⟨by rfl, rfl⟩) ?_ ?_ ?_
        (rotate_left; ·(simp only [Act.put, pq_z126]; rfl))
        refine pu_z126 26 (some 44) undef mz126_63 rfl rfl (any_of HT_.out (by kernel_rfl)) (fun _ _ _ h => h) (Or.inr ⟨by rfl, rfl⟩) ?_ ?_ ?_
        (rotate_left; ·(simp only [Act.put, pq_z126]; rfl))
        refine pu_z126 27 (some 45) undef mz126_28 rfl rfl (any_of HT_.out (by kernel_rfl)) (fun _ _ _ h => h) (Or.inr ⟨by rfl, rfl⟩) ?_ ?_ ?_
        (rotate_left; ·(simp only [Act.put, pq_z126]; rfl))
        refine pu_z126 28 (some 46) undef mz126_29 rfl rfl (any_of HT_.out (by kernel_rfl)) (fun _ _ _ h => h) (Or.inr ⟨by rfl, rfl⟩) ?_ ?_ ?_
        (rotate_left; ·(simp only [Act.put, pq_z126]; rfl))
        refine pu_z126 29 (some 47) undef mz126_30 rfl rfl (any_of HT_.out (by kernel_rfl)) (fun _ _ _ h => h) (Or.inr ⟨by rfl, rfl⟩) ?_ ?_ ?_
        (rotate_left; ·(simp only [Act.put, pq_z126]; rfl))
        refine pu_z126 30 (some 48) ?_ mz126_31 rfl rfl (any_of HT_.out (by kernel_rfl)) (fun _ _ _ h => h) (Or.inl ⟨by rfl, ?_⟩) ?_ ?_ ?_
        (rotate_left; ·(intro w'; go_simp; with_reducible rfl)); (rotate_left; ·(simp only [Act.put, pq_z126]; rfl))
        refine pu_z126 31 (some 49) ?_ mz126_32 rfl rfl (any_of HT_.out (by kernel_rfl)) (fun _ _ _ h => h) (Or.inl ⟨by rfl, ?_⟩) ?_ ?_ ?_
        (rotate_left; ·(intro w'; go_simp; with_reducible rfl)); (rotate_left; ·(simp only [Act.put, pq_z126]; rfl))
        refine pu_z126 32 (some 50) undef mz126_33 rfl rfl (any_of HT_.out (by kernel_rfl)) (fun _ _ _ h => h) (Or.inr ⟨by rfl, rfl⟩) ?_ ?_ ?_
        (rotate_left; ·(simp only [Act.put, pq_z126]; rfl))
        refine pu_z126 33 (some 51) undef mz126_34 rfl rfl (any_of HT_.out (by kernel_rfl)) (fun _ _ _ h => h) (Or.inr ⟨by rfl, rfl⟩) ?_ ?_ ?_
        (rotate_left; ·(simp only [Act.put, pq_z126]; rfl))
        refine pu_z126 34 (some 52) undef mz126_35 rfl rfl (any_of HT_.out (by kernel_rfl)) (fun _ _ _ h => h) (Or.inr ⟨by rfl, rfl⟩) ?_ ?_ ?_
        (rotate_left; ·(simp only [Act.put, pq_z126]; rfl))
        refine pu_z126 35 (some 53) undef mz126_36 rfl rfl (any_of HT_.out (by kernel_rfl)) (fun _ _ _ h => h) (Or.inr ⟨by rfl, rfl⟩) ?_ ?_ ?_
        (rotate_left; ·(simp only [Act.put, pq_z126]; rfl))
        refine pu_z126 36 (some 54) undef mz126_37 rfl rfl (any_of HT_.out (by kernel_rfl)) (fun _ _ _ h => h) (Or.inr ⟨by rfl, rfl⟩) ?_ ?_ ?_
        (rotate_left; ·(simp only [Act.put, pq_z126]; rfl))
        refine pu_z126 37 (some 55) undef mz126_38 rfl rfl (any_of HT_.out (by kernel_rfl)) (fun _ _ _ h => h) (Or.inr ⟨by rfl, rfl⟩) ?_ ?_ ?_
        (rotate_left; ·(simp only [Act.put, pq_z126]; rfl))
        refine pu_z126 38 (some 56) undef mz126_39 rfl rfl (any_of HT_.out (by kernel_rfl)) (fun _ _ _ h => h) (Or.inr ⟨by rfl, rfl⟩) ?_ ?_ ?_
        (rotate_left; ·(simp only [Act.put, pq_z126]; rfl))
        refine pu_z126 39 (some 57) undef mz126_40 rfl rfl (any_of HT_.out (by kernel_rfl)) (fun _ _ _ h => h) (Or.inr ⟨by rfl, rfl⟩) ?_ ?_ ?_
        (rotate_left; ·(simp only [Act.put, pq_z126]; rfl))
        refine pu_z126 40 (some 58) undef mz126_41 rfl rfl (any_of HT_.out (by kernel_rfl)) (fun _ _ _ h => h) (Or.inr ⟨by rfl, rfl⟩) ?_ ?_ ?_
        (rotate_left; ·(simp only [Act.put, pq_z126]; rfl))
        refine pu_z126 41 (some 59) undef mz126_42 rfl rfl (any_of HT_.out (by kernel_rfl)) (fun _ _ _ h => h) (Or.inr ⟨by rfl, rfl⟩) ?_ ?_ ?_
        (rotate_left; ·(simp only [Act.put, pq_z126]; rfl))
        refine pu_z126 42 (some 60) undef mz126_43 rfl rfl (any_of HT_.out (by kernel_rfl)) (fun _ _ _ h => h) (Or.inr ⟨by rfl, rfl⟩) ?_ ?_ ?_
        (rotate_left; ·(simp only [Act.put, pq_z126]; rfl))
        refine pu_z126 43 (some 61) undef mz126_44 rfl rfl (any_of HT_.out (by kernel_rfl)) (fun _ _ _ h => h) (Or.inr ⟨by rfl, rfl⟩) ?_ ?_ ?_
        (rotate_left; ·(simp only [Act.put, pq_z126]; rfl))
        refine pu_z126 44 (some 62) undef mz126_45 rfl rfl (any_of HT_.out (by kernel_rfl)) (fun _ _ _ h => h) (Or.inr ⟨by rfl, rfl⟩) ?_ ?_ ?_
        (rotate_left; ·(simp only [Act.put, pq_z126]; rfl))
        refine pu_z126 45 (some 63) ?_ mz126_46 rfl rfl (any_of HT_.out (by kernel_rfl)) (fun _ _ _ h => h) (Or.inl ⟨by rfl, ?_⟩) ?_ ?_ ?_
        (rotate_left; ·(intro w'; go_simp; with_reducible rfl)); (rotate_left; ·(simp only [Act.put, pq_z126]; rfl))
        refine pu_z126 46 (some 64) ?_ mz126_47 rfl rfl (any_of HT_.out (by kernel_rfl)) (fun _ _ _ h => h) (Or.inl ⟨by rfl, ?_⟩) ?_ ?_ ?_
        (rotate_left; ·(intro w'; go_simp; with_reducible rfl)); (rotate_left; ·(simp only [Act.put, pq_z126]; rfl))
        refine pu_z126 47 (some 65) undef mz126_48 rfl rfl (any_of HT_.out (by kernel_rfl)) (fun _ _ _ h => h) (Or.inr ⟨by rfl, rfl⟩) ?_ ?_ ?_
        (rotate_left; ·(simp only [Act.put, pq_z126]; rfl))
        refine pu_z126 48 (some 66) undef mz126_49 rfl rfl (any_of HT_.out (by kernel_rfl)) (fun _ _ _ h => h) (Or.inr ⟨by rfl, rfl⟩) ?_ ?_ ?_
        (rotate_left; ·(simp only [Act.put, pq_z126]; rfl))
        refine pu_z126 49 (some 67) undef mz126_50 rfl rfl (any_of HT_.out (by kernel_rfl)) (fun _ _ _ h => h) (Or.inr ⟨by rfl, rfl⟩) ?_ ?_ ?_
        (rotate_left; ·(simp only [Act.put, pq_z126]; rfl))
        refine pu_z126 50 (some 68) undef mz126_51 rfl rfl (any_of HT_.out (by kernel_rfl)) (fun _ _ _ h => h) (Or.inr ⟨by rfl, rfl⟩) ?_ ?_ ?_
        (rotate_left; ·(simp only [Act.put, pq_z126]; rfl))
        refine pu_z126 51 (some 69) undef mz126_52 rfl rfl (any_of HT_.out (by kernel_rfl)) (fun _ _ _ h => h) (Or.inr ⟨by rfl, rfl⟩) ?_ ?_ ?_
        (rotate_left; ·(simp only [Act.put, pq_z126]; rfl))
        refine pu_z126 52 (some 70) undef mz126_53 rfl rfl (any_of HT_.out (by kernel_rfl)) (fun _ _ _ h => h) (Or.inr ⟨by rfl, rfl⟩) ?_ ?_ ?_
        (rotate_left; ·(simp only [Act.put, pq_z126]; rfl))
        refine pu_z126 53 (some 71) undef mz126_54 rfl rfl (any_of HT_.out (by kernel_rfl)) (fun _ _ _ h => h) (Or.inr ⟨by rfl, rfl⟩) ?_ ?_ ?_
        (rotate_left; ·(simp only [Act.put, pq_z126]; rfl))
        refine pu_z126 54 (some 72) undef mz126_55 rfl rfl (any_of HT_.out (by kernel_rfl)) (fun _ _ _ h => h) (Or.inr ⟨by rfl, rfl⟩) ?_ ?_ ?_
        (rotate_left; ·(simp only [Act.put, pq_z126]; rfl))
        refine pu_z126 55 (some 73) ?_ mz126_56 rfl rfl (any_of HT_.out (by kernel_rfl)) (fun _ _ _ h => h) (Or.inl ⟨by rfl, ?_⟩) ?_ ?_ ?_
        (rotate_left; ·(intro w'; go_simp; with_reducible rfl)); (rotate_left; ·(simp only [Act.put, pq_z126]; rfl))
        refine done_ (done_of HT_.out (by kernel_rfl)) ?_
        try go_wp2
        go_ret
        exact ⟨by first | rfl | (simp [errW_none, errW_some] <;> rfl) | (simp [*, errW_none, errW_some] <;> rfl), by repeat (first | (with_reducible first | exact HB.out | apply below_alloc | apply pw_below_drewN | apply below_drew1 | refine below_set ?_ GE669.out) | exact HB.out)⟩
      ·replace c6 := Bool.eq_false_iff.mpr c6
       subst c6
       have H1 : (some false) = some r := by rw [if_neg (show ¬ (false = true) by decide)] at H; exact H
       clear H
       have H := H1
       clear H1
       obtain rfl := Option.some.inj H
       have p668 : 0 ≤ (x3_1 : Int) := of_decide_eq_true (by first | (with_reducible assumption) | assumption)
       have q668 : x3_1 < (l0.length : Int) := of_decide_eq_true (by first | (with_reducible assumption) | assumption)
       obtain ⟨ad668, e668, hx668_0, hx668_1, hx668_2, hx668_3⟩ := at_T144 HR0.out x3_1 p668 q668
       cases e668
       replace hx668_0 := (HB.out.cell (World.block_lt_of_cell? w _ hx668_0)).trans hx668_0
       replace hx668_1 := (HB.out.cell (World.block_lt_of_cell? w _ hx668_1)).trans hx668_1
       replace hx668_2 := (HB.out.cell (World.block_lt_of_cell? w _ hx668_2)).trans hx668_2
       replace hx668_3 := (HB.out.cell (World.block_lt_of_cell? w _ hx668_3)).trans hx668_3
       replace p668 := eq_true p668
       replace q668 := eq_true q668
       try go_wp2_with (first | ((with_reducible refine gate_dst (N := 4) rfl ?_); refine box_event ?hg (N := 4) ?hd (cs := #[.int .i64 0, .int .i64 0, .int .i64 0, .int .i64 0]) (t := 144) ?hr ?_; (case hd => rfl); (case hg => rfl); (case hr => first | (go_simp; done) | (go_simp; rfl)); intro gb669 hg w75 hbox hb; have n0_ := Aside0.mk (below_step (by repeat (first | (with_reducible first | exact HB.out | apply below_alloc | apply pw_below_drewN | apply below_drew1) | exact HB.out)) hb); have n1_ := Aside0.mk (hbox); have n2_ := Aside0.mk ((by rw [hg]; exact (below_size (by repeat (first | (with_reducible first | exact HB.out | apply below_alloc | apply pw_below_drewN | apply below_drew1) | exact HB.out))) : w.heap.size ≤ gb669)); have n3_ := Aside0.mk ((by rw [hg]; exact (below_size (by repeat (first | (with_reducible first | exact HB.out | apply below_alloc | apply pw_below_drewN | apply below_drew1) | exact HB.out))) : w.heap.size ≤ gb669)); clear HB; have HB := n0_; have BK669 := n1_; have GW669 := n2_; have GE669 := n3_; clear n0_ n1_ n2_ n3_; clear hb hbox hg; have hcz76_0 : w75.cell? ⟨gb669, 0, none⟩ = some (.int .i64 0) := (blk_cell BK669.out 0).trans rfl; have hcz76_1 : w75.cell? ⟨gb669, 1, none⟩ = some (.int .i64 0) := (blk_cell BK669.out 1).trans rfl; have hcz76_2 : w75.cell? ⟨gb669, 2, none⟩ = some (.int .i64 0) := (blk_cell BK669.out 2).trans rfl; have hcz76_3 : w75.cell? ⟨gb669, 3, none⟩ = some (.int .i64 0) := (blk_cell BK669.out 3).trans rfl; have hfz76_0 := blk_frozen BK669.out 0; have hfz76_1 := blk_frozen BK669.out 1; have hfz76_2 := blk_frozen BK669.out 2; have hfz76_3 := blk_frozen BK669.out 3))
       have n0_ : Aside0 (((((w75.setCell ⟨gb669, 0, none⟩ (.int .i64 ((rd_T144 l0 x3_1).f0.f0))).setCell ⟨gb669, 1, none⟩ (.int .i64 ((rd_T144 l0 x3_1).f0.f1))).setCell ⟨gb669, 2, none⟩ (.int .i64 ((rd_T144 l0 x3_1).f1))).setCell ⟨gb669, 3, none⟩ (.int .i64 ((rd_T144 l0 x3_1).f2))).heap[gb669]? = some (.cells #[.int .i64 ((rd_T144 l0 x3_1).f0.f0), .int .i64 ((rd_T144 l0 x3_1).f0.f1), .int .i64 ((rd_T144 l0 x3_1).f1), .int .i64 ((rd_T144 l0 x3_1).f2)] 144 (0, 0))) := ⟨by (with_reducible repeat (first | refine blk_drewN ?_ _ | refine blk_drew ?_ | refine blk_alloc ?_ _)); refine blk_put (cs := #[.int .i64 ((rd_T144 l0 x3_1).f0.f0), .int .i64 ((rd_T144 l0 x3_1).f0.f1), .int .i64 ((rd_T144 l0 x3_1).f1), .int .i64 0]) ?_ 3 _ rfl; (with_reducible repeat (first | refine blk_drewN ?_ _ | refine blk_drew ?_ | refine blk_alloc ?_ _)); refine blk_put (cs := #[.int .i64 ((rd_T144 l0 x3_1).f0.f0), .int .i64 ((rd_T144 l0 x3_1).f0.f1), .int .i64 0, .int .i64 0]) ?_ 2 _ rfl; (with_reducible repeat (first | refine blk_drewN ?_ _ | refine blk_drew ?_ | refine blk_alloc ?_ _)); refine blk_put (cs := #[.int .i64 ((rd_T144 l0 x3_1).f0.f0), .int .i64 0, .int .i64 0, .int .i64 0]) ?_ 1 _ rfl; (with_reducible repeat (first | refine blk_drewN ?_ _ | refine blk_drew ?_ | refine blk_alloc ?_ _)); refine blk_put (cs := #[.int .i64 0, .int .i64 0, .int .i64 0, .int .i64 0]) ?_ 0 _ rfl; (with_reducible repeat (first | refine blk_drewN ?_ _ | refine blk_drew ?_ | refine blk_alloc ?_ _)); exact BK669.out⟩
       have n1_ : Aside0 (Below w.heap.size w ((((w75.setCell ⟨gb669, 0, none⟩ (.int .i64 ((rd_T144 l0 x3_1).f0.f0))).setCell ⟨gb669, 1, none⟩ (.int .i64 ((rd_T144 l0 x3_1).f0.f1))).setCell ⟨gb669, 2, none⟩ (.int .i64 ((rd_T144 l0 x3_1).f1))).setCell ⟨gb669, 3, none⟩ (.int .i64 ((rd_T144 l0 x3_1).f2)))) := ⟨by repeat (first | (with_reducible first | exact HB.out | apply below_alloc | apply pw_below_drewN | apply below_drew1 | refine below_set ?_ GE669.out) | exact HB.out)⟩
       (try clear BK669)
       (try clear HB)
       generalize ((((w75.setCell ⟨gb669, 0, none⟩ (.int .i64 ((rd_T144 l0 x3_1).f0.f0))).setCell ⟨gb669, 1, none⟩ (.int .i64 ((rd_T144 l0 x3_1).f0.f1))).setCell ⟨gb669, 2, none⟩ (.int .i64 ((rd_T144 l0 x3_1).f1))).setCell ⟨gb669, 3, none⟩ (.int .i64 ((rd_T144 l0 x3_1).f2))) = w77 at n0_ n1_ ⊢
       have BK669 := n0_
       have HB := n1_
       clear n0_ n1_
       have n0_ := Aside0.mk (blk_drew BK669.out)
       have n1_ := Aside0.mk (below_drew1 HB.out)
       clear BK669
       clear HB
       have BK669 := n0_
       have HB := n1_
       clear n0_ n1_
       refine start_ (n := 56) (S := fun w' => w'.cell? ⟨gb669, 0, none⟩ = some (.int .i64 ((rd_T144 l0 x3_1).f0.f0)) ∧ w'.cell? ⟨gb669, 1, none⟩ = some (.int .i64 ((rd_T144 l0 x3_1).f0.f1)) ∧ w'.cell? ⟨gb669, 2, none⟩ = some (.int .i64 ((rd_T144 l0 x3_1).f1)) ∧ w'.cell? ⟨gb669, 3, none⟩ = some (.int .i64 ((rd_T144 l0 x3_1).f2))) (ds := []) mz126_0 (by kernel_rfl) rfl rfl ⟨(blk_cell BK669.out 0).trans rfl, (blk_cell BK669.out 1).trans rfl, (blk_cell BK669.out 2).trans rfl, (blk_cell BK669.out 3).trans rfl⟩ (fun hHeld => ?_); refine with_tabW spec_l10OK.tab7 spec_l10OK.bits7 (fun HT_ HW_ => ?_)
       generalize w77.drew = w78 at BK669 HB hHeld ⊢
       refine pu_z126 0 (some 18) ?_ mz126_1 rfl rfl (any_of HT_.out (by kernel_rfl)) (fun _ _ _ h => h) (Or.inl ⟨by rfl, ?_⟩) ?_ ?_ ?_
       (rotate_left; ·(intro w'; go_simp; with_reducible rfl)); (rotate_left; ·(simp only [Act.put, pq_z126]; rfl))
       refine pu_z126 1 (some 19) ?_ mz126_2 rfl rfl (any_of HT_.out (by kernel_rfl)) (fun _ _ _ h => h) (Or.inl ⟨by rfl, ?_⟩) ?_ ?_ ?_
       (rotate_left; ·(intro w'; go_simp; with_reducible rfl)); (rotate_left; ·(simp only [Act.put, pq_z126]; rfl))
       refine take_ (i := 2) (N := some 20) (v := ?_) (a' := ?_) mz126_3 rfl rfl (take_ofW HT_.out HW_.out (by kernel_rfl)) (fun _ _ _ h => h) (Or.inl ⟨by rfl, ?_⟩) hHeld ?_ ?_
       (rotate_left; ·(rintro w' ⟨s0, s1, s2, s3⟩; go_simp; with_reducible rfl)); (rotate_left; ·(simp only [Act.put, pq_z126]; rfl))
       refine one_ (i := 3) (N := some 21) mz126_4 rfl rfl (one_of HT_.out (by kernel_rfl)) (by decide) (fun K hK => ?_)
       refine goes_ Try.func96 (by kernel_rfl) rfl #[.int .i64 ((rd_T144 l0 x3_1).f0.f0), .int .i64 1, .int .i64 4] (by rfl) rfl rfl (by (try simp only [List.map_toArray, List.map_cons, List.map_nil]); first | done | rfl | (simp only [List.length_drop, List.length_take]; rfl)) ?_
       with_reducible refine (spec_l00In.calls ((rd_T144 l0 x3_1).f0.f0) 1 4 false _ A5.out).mono ?_
       rintro e w' ⟨rfl, ⟨nd, rfl⟩⟩
       refine ⟨_, rfl, ?_⟩
       refine hK.out _ _ ⟨(blk_cell BK669.out 0).trans rfl, (blk_cell BK669.out 1).trans rfl, (blk_cell BK669.out 2).trans rfl, (blk_cell BK669.out 3).trans rfl⟩ (fun hHeld => ?_)
       clear hK K
       refine norm_ (a' := ?_) ?_ ?_
       (rotate_left; ·(show Act.put _ (some 21) _ = _; simp only [Act.put, pq_z126]; rfl))
       refine pu_z126 4 (some 22) ?_ mz126_5 rfl rfl (any_of HT_.out (by kernel_rfl)) (fun _ _ _ h => h) (Or.inl ⟨by rfl, ?_⟩) ?_ ?_ ?_
       (rotate_left; ·(intro w'; go_simp; with_reducible rfl)); (rotate_left; ·(simp only [Act.put, pq_z126]; rfl))
       refine pu_z126 5 (some 23) ?_ mz126_6 rfl rfl (any_of HT_.out (by kernel_rfl)) (fun _ _ _ h => h) (Or.inl ⟨by rfl, ?_⟩) ?_ ?_ ?_
       (rotate_left; ·(intro w'; go_simp; with_reducible rfl)); (rotate_left; ·(simp only [Act.put, pq_z126]; rfl))
       refine pu_z126 6 (some 24) undef mz126_7 rfl rfl (any_of HT_.out (by kernel_rfl)) (fun _ _ _ h => h) (Or.inr ⟨by rfl, rfl⟩) ?_ ?_ ?_
       (rotate_left; ·(simp only [Act.put, pq_z126]; rfl))
       refine pu_z126 7 (some 25) undef mz126_8 rfl rfl (any_of HT_.out (by kernel_rfl)) (fun _ _ _ h => h) (Or.inr ⟨by rfl, rfl⟩) ?_ ?_ ?_
       (rotate_left; ·(simp only [Act.put, pq_z126]; rfl))
       refine pu_z126 8 (some 26) undef mz126_9 rfl rfl (any_of HT_.out (by kernel_rfl)) (fun _ _ _ h => h) (Or.inr ⟨by rfl, rfl⟩) ?_ ?_ ?_
       (rotate_left; ·(simp only [Act.put, pq_z126]; rfl))
       refine pu_z126 9 (some 27) undef mz126_10 rfl rfl (any_of HT_.out (by kernel_rfl)) (fun _ _ _ h => h) (Or.inr ⟨by rfl, rfl⟩) ?_ ?_ ?_
       (rotate_left; ·(simp only [Act.put, pq_z126]; rfl))
       refine pu_z126 10 (some 28) undef mz126_11 rfl rfl (any_of HT_.out (by kernel_rfl)) (fun _ _ _ h => h) (Or.inr ⟨by rfl, rfl⟩) ?_ ?_ ?_
       (rotate_left; ·(simp only [Act.put, pq_z126]; rfl))
       refine pu_z126 11 (some 29) ?_ mz126_12 rfl rfl (any_of HT_.out (by kernel_rfl)) (fun _ _ _ h => h) (Or.inl ⟨by rfl, ?_⟩) ?_ ?_ ?_
       (rotate_left; ·(intro w'; go_simp; with_reducible rfl)); (rotate_left; ·(simp only [Act.put, pq_z126]; rfl))
       refine pu_z126 12 (some 30) ?_ mz126_13 rfl rfl (any_of HT_.out (by kernel_rfl)) (fun _ _ _ h => h) (Or.inl ⟨by rfl, ?_⟩) ?_ ?_ ?_
       (rotate_left; ·(intro w'; go_simp; with_reducible rfl)); (rotate_left; ·(simp only [Act.put, pq_z126]; rfl))
       refine pu_z126 13 (some 31) undef mz126_14 rfl rfl (any_of HT_.out (by kernel_rfl)) (fun _ _ _ h => h) (Or.inr ⟨by rfl, rfl⟩) ?_ ?_ ?_
       (rotate_left; ·(simp only [Act.put, pq_z126]; rfl))
       refine pu_z126 14 (some 32) undef mz126_15 rfl rfl (any_of HT_.out (by kernel_rfl)) (fun _ _ _ h => h) (Or.inr ⟨by rfl, rfl⟩) ?_ ?_ ?_
       (rotate_left; ·(simp only [Act.put, pq_z126]; rfl))
       refine pu_z126 15 (some 33) undef mz126_16 rfl rfl (any_of HT_.out (by kernel_rfl)) (fun _ _ _ h => h) (Or.inr ⟨by rfl, rfl⟩) ?_ ?_ ?_
       (rotate_left; ·(simp only [Act.put, pq_z126]; rfl))
       refine pu_z126 16 (some 34) undef mz126_17 rfl rfl (any_of HT_.out (by kernel_rfl)) (fun _ _ _ h => h) (Or.inr ⟨by rfl, rfl⟩) ?_ ?_ ?_
       (rotate_left; ·(simp only [Act.put, pq_z126]; rfl))
       refine pu_z126 17 (some 35) ?_ mz126_18 rfl rfl (any_of HT_.out (by kernel_rfl)) (fun _ _ _ h => h) (Or.inl ⟨by rfl, ?_⟩) ?_ ?_ ?_
       (rotate_left; ·(intro w'; go_simp; with_reducible rfl)); (rotate_left; ·(simp only [Act.put, pq_z126]; rfl))
       refine pu_z126 18 (some 36) ?_ mz126_19 rfl rfl (any_of HT_.out (by kernel_rfl)) (fun _ _ _ h => h) (Or.inl ⟨by rfl, ?_⟩) ?_ ?_ ?_
       (rotate_left; ·(intro w'; go_simp; with_reducible rfl)); (rotate_left; ·(simp only [Act.put, pq_z126]; rfl))
       refine pu_z126 19 (some 37) undef mz126_20 rfl rfl (any_of HT_.out (by kernel_rfl)) (fun _ _ _ h => h) (Or.inr ⟨by rfl, rfl⟩) ?_ ?_ ?_
       (rotate_left; ·(simp only [Act.put, pq_z126]; rfl))
       refine pu_z126 20 (some 38) undef mz126_21 rfl rfl (any_of HT_.out (by kernel_rfl)) (fun _ _ _ h => h) (Or.inr ⟨by rfl, rfl⟩) ?_ ?_ ?_
       (rotate_left; ·(simp only [Act.put, pq_z126]; rfl))
       refine pu_z126 21 (some 39) undef mz126_22 rfl rfl (any_of HT_.out (by kernel_rfl)) (fun _ _ _ h => h) (Or.inr ⟨by rfl, rfl⟩) ?_ ?_ ?_
       (rotate_left; ·(simp only [Act.put, pq_z126]; rfl))
       refine pu_z126 22 (some 40) undef mz126_23 rfl rfl (any_of HT_.out (by kernel_rfl)) (fun _ _ _ h => h) (Or.inr ⟨by rfl, rfl⟩) ?_ ?_ ?_
       (rotate_left; ·(simp only [Act.put, pq_z126]; rfl))
       refine pu_z126 23 (some 41) ?_ mz126_24 rfl rfl (any_of HT_.out (by kernel_rfl)) (fun _ _ _ h => h) (Or.inl ⟨by rfl, ?_⟩) ?_ ?_ ?_
       (rotate_left; ·(intro w'; go_simp; with_reducible rfl)); (rotate_left; ·(simp only [Act.put, pq_z126]; rfl))
       refine pu_z126 24 (some 42) ?_ mz126_25 rfl rfl (any_of HT_.out (by kernel_rfl)) (fun _ _ _ h => h) (Or.inl ⟨by rfl, ?_⟩) ?_ ?_ ?_
       (rotate_left; ·(intro w'; go_simp; with_reducible rfl)); (rotate_left; ·(simp only [Act.put, pq_z126]; rfl))
       refine pu_z126 25 (some 43) undef mz126_26 rfl rfl (any_of HT_.out (by kernel_rfl)) (fun _ _ _ h => h) (Or.inr ⟨by rfl, rfl⟩) ?_ ?_ ?_
       (rotate_left; ·(simp only [Act.put, pq_z126]; rfl))
       refine pu_z126 26 (some 44) undef mz126_63 rfl rfl (any_of HT_.out (by kernel_rfl)) (fun _ _ _ h => h) (Or.inr ⟨by rfl, rfl⟩) ?_ ?_ ?_
       (rotate_left; ·(simp only [Act.put, pq_z126]; rfl))
       refine pu_z126 27 (some 45) undef mz126_28 rfl rfl (any_of HT_.out (by kernel_rfl)) (fun _ _ _ h => h) (Or.inr ⟨by rfl, rfl⟩) ?_ ?_ ?_
       (rotate_left; ·(simp only [Act.put, pq_z126]; rfl))
       refine pu_z126 28 (some 46) undef mz126_29 rfl rfl (any_of HT_.out (by kernel_rfl)) (fun _ _ _ h => h) (Or.inr ⟨by rfl, rfl⟩) ?_ ?_ ?_
       (rotate_left; ·(simp only [Act.put, pq_z126]; rfl))
       refine pu_z126 29 (some 47) undef mz126_30 rfl rfl (any_of HT_.out (by kernel_rfl)) (fun _ _ _ h => h) (Or.inr ⟨by rfl, rfl⟩) ?_ ?_ ?_
       (rotate_left; ·(simp only [Act.put, pq_z126]; rfl))
       refine pu_z126 30 (some 48) ?_ mz126_31 rfl rfl (any_of HT_.out (by kernel_rfl)) (fun _ _ _ h => h) (Or.inl ⟨by rfl, ?_⟩) ?_ ?_ ?_
       (rotate_left; ·(intro w'; go_simp; with_reducible rfl)); (rotate_left; ·(simp only [Act.put, pq_z126]; rfl))
       refine pu_z126 31 (some 49) ?_ mz126_32 rfl rfl (any_of HT_.out (by kernel_rfl)) (fun _ _ _ h => h) (Or.inl ⟨by rfl, ?_⟩) ?_ ?_ ?_
       (rotate_left; ·(intro w'; go_simp; with_reducible rfl)); (rotate_left; ·(simp only [Act.put, pq_z126]; rfl))
       refine pu_z126 32 (some 50) undef mz126_33 rfl rfl (any_of HT_.out (by kernel_rfl)) (fun _ _ _ h => h) (Or.inr ⟨by rfl, rfl⟩) ?_ ?_ ?_
       (rotate_left; ·(simp only [Act.put, pq_z126]; rfl))
       refine pu_z126 33 (some 51) undef mz126_34 rfl rfl (any_of HT_.out (by kernel_rfl)) (fun _ _ _ h => h) (Or.inr ⟨by rfl, rfl⟩) ?_ ?_ ?_
       (rotate_left; ·(simp only [Act.put, pq_z126]; rfl))
       refine pu_z126 34 (some 52) undef mz126_35 rfl rfl (any_of HT_.out (by kernel_rfl)) (fun _ _ _ h => h) (Or.inr ⟨by rfl, rfl⟩) ?_ ?_ ?_
       (rotate_left; ·(simp only [Act.put, pq_z126]; rfl))
       refine pu_z126 35 (some 53) undef mz126_36 rfl rfl (any_of HT_.out (by kernel_rfl)) (fun _ _ _ h => h) (Or.inr ⟨by rfl, rfl⟩) ?_ ?_ ?_
       (rotate_left; ·(simp only [Act.put, pq_z126]; rfl))
       refine pu_z126 36 (some 54) undef mz126_37 rfl rfl (any_of HT_.out (by kernel_rfl)) (fun _ _ _ h => h) (Or.inr ⟨by rfl, rfl⟩) ?_ ?_ ?_
       (rotate_left; ·(simp only [Act.put, pq_z126]; rfl))
       refine pu_z126 37 (some 55) undef mz126_38 rfl rfl (any_of HT_.out (by kernel_rfl)) (fun _ _ _ h => h) (Or.inr ⟨by rfl, rfl⟩) ?_ ?_ ?_
       (rotate_left; ·(simp only [Act.put, pq_z126]; rfl))
       refine pu_z126 38 (some 56) undef mz126_39 rfl rfl (any_of HT_.out (by kernel_rfl)) (fun _ _ _ h => h) (Or.inr ⟨by rfl, rfl⟩) ?_ ?_ ?_
       (rotate_left; ·(simp only [Act.put, pq_z126]; rfl))
       refine pu_z126 39 (some 57) undef mz126_40 rfl rfl (any_of HT_.out (by kernel_rfl)) (fun _ _ _ h => h) (Or.inr ⟨by rfl, rfl⟩) ?_ ?_ ?_
       (rotate_left; ·(simp only [Act.put, pq_z126]; rfl))
       refine pu_z126 40 (some 58) undef mz126_41 rfl rfl (any_of HT_.out (by kernel_rfl)) (fun _ _ _ h => h) (Or.inr ⟨by rfl, rfl⟩) ?_ ?_ ?_
       (rotate_left; ·(simp only [Act.put, pq_z126]; rfl))
       refine pu_z126 41 (some 59) undef mz126_42 rfl rfl (any_of HT_.out (by kernel_rfl)) (fun _ _ _ h => h) (Or.inr ⟨by rfl, rfl⟩) ?_ ?_ ?_
       (rotate_left; ·(simp only [Act.put, pq_z126]; rfl))
       refine pu_z126 42 (some 60) undef mz126_43 rfl rfl (any_of HT_.out (by kernel_rfl)) (fun _ _ _ h => h) (Or.inr ⟨by rfl, rfl⟩) ?_ ?_ ?_
       (rotate_left; ·(simp only [Act.put, pq_z126]; rfl))
       refine pu_z126 43 (some 61) undef mz126_44 rfl rfl (any_of HT_.out (by kernel_rfl)) (fun _ _ _ h => h) (Or.inr ⟨by rfl, rfl⟩) ?_ ?_ ?_
       (rotate_left; ·(simp only [Act.put, pq_z126]; rfl))
       refine pu_z126 44 (some 62) undef mz126_45 rfl rfl (any_of HT_.out (by kernel_rfl)) (fun _ _ _ h => h) (Or.inr ⟨by rfl, rfl⟩) ?_ ?_ ?_
       (rotate_left; ·(simp only [Act.put, pq_z126]; rfl))
       refine pu_z126 45 (some 63) ?_ mz126_46 rfl rfl (any_of HT_.out (by kernel_rfl)) (fun _ _ _ h => h) (Or.inl ⟨by rfl, ?_⟩) ?_ ?_ ?_
       (rotate_left; ·(intro w'; go_simp; with_reducible rfl)); (rotate_left; ·(simp only [Act.put, pq_z126]; rfl))
       refine pu_z126 46 (some 64) ?_ mz126_47 rfl rfl (any_of HT_.out (by kernel_rfl)) (fun _ _ _ h => h) (Or.inl ⟨by rfl, ?_⟩) ?_ ?_ ?_
       (rotate_left; ·(intro w'; go_simp; with_reducible rfl)); (rotate_left; ·(simp only [Act.put, pq_z126]; rfl))
       refine pu_z126 47 (some 65) undef mz126_48 rfl rfl (any_of HT_.out (by kernel_rfl)) (fun _ _ _ h => h) (Or.inr ⟨by rfl, rfl⟩) ?_ ?_ ?_
       (rotate_left; ·(simp only [Act.put, pq_z126]; rfl))
       refine pu_z126 48 (some 66) undef mz126_49 rfl rfl (any_of HT_.out (by kernel_rfl)) (fun _ _ _ h => h) (Or.inr ⟨by rfl, rfl⟩) ?_ ?_ ?_
       (rotate_left; ·(simp only [Act.put, pq_z126]; rfl))
       refine pu_z126 49 (some 67) undef mz126_50 rfl rfl (any_of HT_.out (by kernel_rfl)) (fun _ _ _ h => h) (Or.inr ⟨by rfl, rfl⟩) ?_ ?_ ?_
       (rotate_left; ·(simp only [Act.put, pq_z126]; rfl))
       refine pu_z126 50 (some 68) undef mz126_51 rfl rfl (any_of HT_.out (by kernel_rfl)) (fun _ _ _ h => h) (Or.inr ⟨by rfl, rfl⟩) ?_ ?_ ?_
       (rotate_left; ·(simp only [Act.put, pq_z126]; rfl))
       refine pu_z126 51 (some 69) undef mz126_52 rfl rfl (any_of HT_.out (by kernel_rfl)) (fun _ _ _ h => h) (Or.inr ⟨by rfl, rfl⟩) ?_ ?_ ?_
       (rotate_left; ·(simp only [Act.put, pq_z126]; rfl))
       refine pu_z126 52 (some 70) undef mz126_53 rfl rfl (any_of HT_.out (by kernel_rfl)) (fun _ _ _ h => h) (Or.inr ⟨by rfl, rfl⟩) ?_ ?_ ?_
       (rotate_left; ·(simp only [Act.put, pq_z126]; rfl))
       refine pu_z126 53 (some 71) undef mz126_54 rfl rfl (any_of HT_.out (by kernel_rfl)) (fun _ _ _ h => h) (Or.inr ⟨by rfl, rfl⟩) ?_ ?_ ?_
       (rotate_left; ·(simp only [Act.put, pq_z126]; rfl))
       refine pu_z126 54 (some 72) undef mz126_55 rfl rfl (any_of HT_.out (by kernel_rfl)) (fun _ _ _ h => h) (Or.inr ⟨by rfl, rfl⟩) ?_ ?_ ?_
       (rotate_left; ·(simp only [Act.put, pq_z126]; rfl))
       refine pu_z126 55 (some 73) ?_ mz126_56 rfl rfl (any_of HT_.out (by kernel_rfl)) (fun _ _ _ h => h) (Or.inl ⟨by rfl, ?_⟩) ?_ ?_ ?_
       (rotate_left; ·(intro w'; go_simp; with_reducible rfl)); (rotate_left; ·(simp only [Act.put, pq_z126]; rfl))
       refine done_ (done_of HT_.out (by kernel_rfl)) ?_
       try go_wp2
       go_ret
       exact ⟨by first | rfl | (simp [errW_none, errW_some] <;> rfl) | (simp [*, errW_none, errW_some] <;> rfl), by repeat (first | (with_reducible first | exact HB.out | apply below_alloc | apply pw_below_drewN | apply below_drew1 | refine below_set ?_ GE669.out) | exact HB.out)⟩
     ·rw [if_neg c4] at H
      exact absurd H (by simp)
    ·rw [if_neg c3] at H
     have c3b0 : decide (x3_1 < (l0.length : Int)) = false := decide_eq_false c3
     clear c3
     obtain rfl := Option.some.inj H
     go_wp2
     go_ret
     exact ⟨by first | rfl | (simp [errW_none, errW_some] <;> rfl) | (simp [*, errW_none, errW_some] <;> rfl), by repeat (first | (with_reducible first | exact HB.out | apply below_alloc | apply pw_below_drewN | apply below_drew1) | exact HB.out)⟩

end Go.Proofs.Ytlocignlkigojaa.Q
