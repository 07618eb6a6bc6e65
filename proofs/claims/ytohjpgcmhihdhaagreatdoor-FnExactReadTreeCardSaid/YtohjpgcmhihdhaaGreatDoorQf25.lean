/- Walks of the Go functions that the laws call: each returns what a plain Lean function says. Written by a program for these claims. -/
import Derived.Test.YtohjpgcmhihdhaaGreatDoorQ0
import Derived.Test.YtohjpgcmhihdhaaGreatDoorQf48
namespace Go.Proofs.YtohjpgcmhihdhaaGreatDoor.Q
open Go.RowKit Go.Proofs.YtohjpgcmhihdhaaGreatDoorW.PrintWords Go.Proofs.YtohjpgcmhihdhaaGreatDoorW.PrintLast Go.Proofs.YtohjpgcmhihdhaaGreatDoorW.PrintMore
attribute [local go_sem] max2_int min2_int max_two min_two max_three min_three max_four min_four   -- for this text's walks alone
set_option linter.unusedVariables false
set_option linter.unusedSimpArgs false

/-! ### spec_l06Text: function 25 -/
mutual
def spec_l06Text.l0 : Nat → ByteArray → Int → List (S57) → List (S49) → Option (ByteArray)
  | 0, _, _, _, _ => none
  | k + 1, x3, x4, x194000, x194001 => if x4 < (x194000.length : Int) then (if 0 ≤ x4 then ((spec_l06Num.f k ((rd_T57 x194000 x4).f0)).bind fun t195 => (if 5 + t195.size ≤ 9223372036854775807 then (if ((⟨#[110, 111, 100, 101, 32]⟩ : ByteArray) ++ t195).size + 1 ≤ 9223372036854775807 then ((spec_l06Num.f k ((rd_T57 x194000 x4).f1)).bind fun t197 => (if (((⟨#[110, 111, 100, 101, 32]⟩ : ByteArray) ++ t195) ++ (⟨#[32]⟩ : ByteArray)).size + t197.size ≤ 9223372036854775807 then (if ((((⟨#[110, 111, 100, 101, 32]⟩ : ByteArray) ++ t195) ++ (⟨#[32]⟩ : ByteArray)) ++ t197).size + 1 ≤ 9223372036854775807 then (if x3.size + (((((⟨#[110, 111, 100, 101, 32]⟩ : ByteArray) ++ t195) ++ (⟨#[32]⟩ : ByteArray)) ++ t197) ++ (⟨#[10]⟩ : ByteArray)).size ≤ 9223372036854775807 then (spec_l06Text.l0 k (x3 ++ (((((⟨#[110, 111, 100, 101, 32]⟩ : ByteArray) ++ t195) ++ (⟨#[32]⟩ : ByteArray)) ++ t197) ++ (⟨#[10]⟩ : ByteArray))) (wrap64 (x4 + 1)) x194000 x194001) else (none)) else (none)) else (none))) else (none)) else (none))) else (none)) else (spec_l06Text.l1 k x3 0 x194000 x194001)
def spec_l06Text.l1 : Nat → ByteArray → Int → List (S57) → List (S49) → Option (ByteArray)
  | 0, _, _, _, _ => none
  | k + 1, x3, x5, x194000, x194001 => if x5 < (x194001.length : Int) then (if 0 ≤ x5 then ((some (([(⟨#[104, 111, 115, 116]⟩ : ByteArray), (⟨#[114, 97, 99, 107]⟩ : ByteArray), (⟨#[114, 111, 111, 116]⟩ : ByteArray)] : List ByteArray) : List ByteArray)).bind fun y200 => (if 0 ≤ (wrap64 (((rd_T49 x194001 x5).f1) - 1)) then (if (wrap64 (((rd_T49 x194001 x5).f1) - 1)) < (y200.length : Int) then (if (rdOf ByteArray.empty y200 (wrap64 (((rd_T49 x194001 x5).f1) - 1))).size + 1 ≤ 9223372036854775807 then ((spec_l06Num.f k ((rd_T49 x194001 x5).f0)).bind fun t204 => (if ((rdOf ByteArray.empty y200 (wrap64 (((rd_T49 x194001 x5).f1) - 1))) ++ (⟨#[32]⟩ : ByteArray)).size + t204.size ≤ 9223372036854775807 then (if x3.size + (((rdOf ByteArray.empty y200 (wrap64 (((rd_T49 x194001 x5).f1) - 1))) ++ (⟨#[32]⟩ : ByteArray)) ++ t204).size ≤ 9223372036854775807 then (spec_l06Text.l2 k (x3 ++ (((rdOf ByteArray.empty y200 (wrap64 (((rd_T49 x194001 x5).f1) - 1))) ++ (⟨#[32]⟩ : ByteArray)) ++ t204)) x5 0 x194000 x194001 ((rd_T49 x194001 x5).f0) ((rd_T49 x194001 x5).f1) ((rd_T49 x194001 x5).f2)) else (none)) else (none))) else (none)) else (none)) else (none))) else (none)) else (some x3)
def spec_l06Text.l2 : Nat → ByteArray → Int → Int → List (S57) → List (S49) → Int → Int → List Int → Option (ByteArray)
  | 0, _, _, _, _, _, _, _, _ => none
  | k + 1, x3, x5, x7, x194000, x194001, x200000, x200001, x200002 => if x7 < (x200002.length : Int) then (if 0 ≤ x7 then ((spec_l06Num.f k (rd x200002 x7)).bind fun t206 => (if 1 + t206.size ≤ 9223372036854775807 then (if x3.size + ((⟨#[32]⟩ : ByteArray) ++ t206).size ≤ 9223372036854775807 then (spec_l06Text.l2 k (x3 ++ ((⟨#[32]⟩ : ByteArray) ++ t206)) x5 (wrap64 (x7 + 1)) x194000 x194001 x200000 x200001 x200002) else (none)) else (none))) else (none)) else (if x3.size + 1 ≤ 9223372036854775807 then (spec_l06Text.l1 k (x3 ++ (⟨#[10]⟩ : ByteArray)) (wrap64 (x5 + 1)) x194000 x194001) else (none))
end
def spec_l06Text.f (k : Nat) (l0_0 : List (S57)) (l0_1 : List (S49)) : Option (ByteArray) := spec_l06Text.l0 k (⟨#[]⟩ : ByteArray) 0 l0_0 l0_1
def spec_l06Text.T5 : Bool × List (List Nat × List Nat) := (true, [([], []), ([], []), ([1], [1]), ([], []), ([2, 3], [2, 3]), ([4], [4]), ([5], [5]), ([6], [6]), ([7], [7]), ([8], [8]), ([], []), ([10], [10]), ([], []), ([11, 12], [11, 12]), ([13], [13]), ([14], [14]), ([15, 7], [15]), ([9, 16], [9, 16]), ([17], [17]), ([0, 18], [0, 18]), ([19, 16, 0, 1, 2, 3, 4, 5, 6, 7, 8, 9, 10, 11, 12, 13, 14, 15, 16, 17, 18, 19], [0, 19])])
def spec_l06Text.B5 : List Nat := [0, 0, 2, 0, 14, 30, 62, 126, 254, 510, 0, 1024, 0, 7168, 15360, 31744, 64766, 131070, 262142, 524287, 1048575]
theorem spec_l06Text.tab5 : rtab .any (opsOf Tryz.f25 5) = spec_l06Text.T5 := by kernel_rfl
theorem spec_l06Text.bits5 : waitsOk spec_l06Text.T5.2 spec_l06Text.B5 = true := by kernel_rfl
def spec_l06Text.T10 : Bool × List (List Nat × List Nat) := (true, [([], []), ([], []), ([], []), ([2], [2]), ([3], [3]), ([1, 4], [1, 4]), ([5], [5]), ([6], [6]), ([], []), ([8], [8]), ([9], [9]), ([7, 10], [7, 10]), ([0, 11], [0, 11]), ([12, 10, 0, 1, 2, 3, 4, 5, 6, 7, 8, 9, 10, 11, 12], [0, 12])])
def spec_l06Text.B10 : List Nat := [0, 0, 0, 4, 12, 30, 62, 126, 0, 256, 768, 2046, 4095, 8191]
theorem spec_l06Text.tab10 : rtab .any (opsOf Tryz.f25 10) = spec_l06Text.T10 := by kernel_rfl
theorem spec_l06Text.bits10 : waitsOk spec_l06Text.T10.2 spec_l06Text.B10 = true := by kernel_rfl
def az_z25 (n m : Nat) : Array Bool := (List.replicate n true ++ List.replicate m false).toArray
def mz25_0 : Array Bool := az_z25 0 21
def mz25_1 : Array Bool := az_z25 1 20
def mz25_2 : Array Bool := az_z25 2 19
def mz25_3 : Array Bool := #[true, true, false, true, false, false, false, false, false, false, false, false, false, false, false, false, false, false, false, false, false]
def mz25_4 : Array Bool := #[true, true, false, true, false, false, false, false, false, false, true, false, false, false, false, false, false, false, false, false, false]
def mz25_5 : Array Bool := #[true, true, false, true, false, false, false, false, false, false, true, false, true, false, false, false, false, false, false, false, false]
def mz25_6 : Array Bool := #[true, true, true, true, false, false, false, false, false, false, true, false, true, false, false, false, false, false, false, false, false]
def mz25_7 : Array Bool := #[true, true, true, true, true, false, false, false, false, false, true, false, true, false, false, false, false, false, false, false, false]
def mz25_8 : Array Bool := #[true, true, true, true, true, true, false, false, false, false, true, false, true, false, false, false, false, false, false, false, false]
def mz25_9 : Array Bool := #[true, true, true, true, true, true, true, false, false, false, true, false, true, false, false, false, false, false, false, false, false]
def mz25_10 : Array Bool := #[true, true, true, true, true, true, true, false, false, false, true, true, true, false, false, false, false, false, false, false, false]
def mz25_11 : Array Bool := #[true, true, true, true, true, true, true, false, false, false, true, true, true, true, false, false, false, false, false, false, false]
def mz25_12 : Array Bool := #[true, true, true, true, true, true, true, false, false, false, true, true, true, true, true, false, false, false, false, false, false]
def mz25_13 : Array Bool := #[true, true, true, true, true, true, true, false, false, false, true, true, true, true, true, true, false, false, false, false, false]
def mz25_14 : Array Bool := #[true, true, true, true, true, true, true, true, false, false, true, true, true, true, true, true, false, false, false, false, false]
def mz25_15 : Array Bool := #[true, true, true, true, true, true, true, true, true, false, true, true, true, true, true, true, false, false, false, false, false]
def mz25_16 : Array Bool := az_z25 16 5
def mz25_17 : Array Bool := az_z25 17 4
def mz25_18 : Array Bool := az_z25 18 3
def mz25_19 : Array Bool := az_z25 19 2
def mz25_20 : Array Bool := az_z25 20 1
def mz25_21 : Array Bool := az_z25 21 0
def mz25_22 : Array Bool := az_z25 0 14
def mz25_23 : Array Bool := az_z25 1 13
def mz25_24 : Array Bool := #[true, false, true, false, false, false, false, false, false, false, false, false, false, false]
def mz25_25 : Array Bool := #[true, false, true, false, false, false, false, false, true, false, false, false, false, false]
def mz25_26 : Array Bool := #[true, false, true, true, false, false, false, false, true, false, false, false, false, false]
def mz25_27 : Array Bool := #[true, false, true, true, true, false, false, false, true, false, false, false, false, false]
def mz25_28 : Array Bool := #[true, false, true, true, true, false, false, false, true, true, false, false, false, false]
def mz25_29 : Array Bool := az_z25 11 3
def mz25_30 : Array Bool := #[true, true, true, true, true, false, false, false, true, true, false, false, false, false]
def mz25_31 : Array Bool := #[true, false, true, true, true, false, false, false, true, true, true, false, false, false]
def mz25_32 : Array Bool := #[true, true, true, true, true, true, false, false, true, true, false, false, false, false]
def mz25_33 : Array Bool := #[true, true, true, true, true, true, true, false, true, true, false, false, false, false]
def mz25_34 : Array Bool := #[true, true, true, true, true, true, false, false, true, true, true, false, false, false]
def mz25_35 : Array Bool := az_z25 10 4
def mz25_36 : Array Bool := #[true, true, true, true, true, true, true, false, true, true, true, false, false, false]
def mz25_37 : Array Bool := #[true, true, true, true, true, false, false, false, true, true, true, false, false, false]
def mz25_38 : Array Bool := az_z25 12 2
def mz25_39 : Array Bool := az_z25 13 1
def mz25_40 : Array Bool := az_z25 14 0
theorem pu_z25 {P : Program} {ops : Array Oper} {Q : Exit → Act → World → Prop} {md : Region.Mode} {S : World → Prop} {ds : List Nat} {oi : Oper} {fuel : Nat} {l : Array Bool} {a : Act} {w : World} (i : Nat) (N : Option Tmp) (v : Value) (l' : Array Bool) (hi : ops[i]? = some oi) (hN : oi.dst = N) (hc : anyB md ops l l' i = true)
    (hQ : ∀ c a w, Q (.panic c) (a.put oi.dst v) w → Q (.panic c) a w) (hy : Yields P ops oi v a) (a' : Act) (ha : a.put N v = a')
    (h : wpAnyLast P md ops Q S ds fuel l' a' w) : wpAnyLast P md ops Q S ds (fuel + 1) l a w := pure_ l' hi hN hc hQ hy ha h
theorem pq_z25 : (∀ (l : List Value) (i : Nat) (v : Value), l.toArray.setIfInBounds i v = (l.set i v).toArray) ∧ (∀ (x v : Value) (xs : List Value), (x :: xs).set 0 v = v :: xs) ∧ (∀ (x v : Value) (xs : List Value) (n : Nat), (x :: xs).set (n + 1) v = x :: xs.set n v) ∧ (∀ n : Int, IntKind.i64.wrap n = Go.RowKit.wrap64 n) ∧ (∀ n : Int, IntKind.i32.wrap n = Go.RowKit.wrap32 n) :=
  ⟨fun l i v => List.setIfInBounds_toArray l i v, fun _ _ _ => rfl, fun _ _ _ _ => rfl, i64_w, i32_w⟩
set_option maxHeartbeats 8000000 in
set_option maxRecDepth 100000 in
theorem spec_l06Text.calls (k : Nat) (A0_0 : Option Addr) (c0_0 : Nat) (l0_0 : List (S57)) (A0_1 : Option Addr) (c0_1 : Nat) (l0_1 : List (S49)) (r : ByteArray) (w : World) (hr0_0 : Kd.C k57 w A0_0 l0_0.length l0_0) (hc0_0 : l0_0.length ≤ c0_0) (hr0_1 : Kd.C k49 w A0_1 l0_1.length l0_1) (hc0_1 : l0_1.length ≤ c0_1) (h : spec_l06Text.f k l0_0 l0_1 = some r) :
  Calls Tryz.prog 25 #[.agg #[.slice A0_0 l0_0.length c0_0, .slice A0_1 l0_1.length c0_1]] w fun e w' => e = .returned (.string r) ∧ Below w.heap.size w w' := by
 have hu25 := Tryz.underlying25
 have hu49 := Tryz.underlying49
 have HR0_0 := Aside0.mk hr0_0
 have HC0_0 := Aside0.mk hc0_0
 clear hr0_0 hc0_0
 have HR0_1 := Aside0.mk hr0_1
 have HC0_1 := Aside0.mk hc0_1
 clear hr0_1 hc0_1
 have HB := Aside0.mk (Below.refl w.heap.size w)
 have H : (spec_l06Text.l0 k (⟨#[]⟩ : ByteArray) 0 l0_0 l0_1) = some r := h
 clear h
 have H' := Aside0.mk H
 clear H
 go_enter Tryz.func25, Tryz.ntmps25
 go_wp2_with (first | ((with_reducible refine gate_dst (N := 1) rfl ?_); refine box_event ?hg (N := 1) ?hd (cs := #[.slice A0_0 l0_0.length c0_0, .slice A0_1 l0_1.length c0_1]) (t := 25) ?hr ?_; (case hd => rfl); (case hg => rfl); (case hr => first | (go_simp; done) | (go_simp; rfl)); intro gb193 hg w2 hbox hb; have n0_ := Aside0.mk (below_step (by repeat first | exact HB.out | apply below_alloc | apply pw_below_drewN | apply below_drew1) hb); have n1_ := Aside0.mk (hbox); have n2_ := Aside0.mk ((by rw [hg]; exact (below_size (by repeat first | exact HB.out | apply below_alloc | apply pw_below_drewN | apply below_drew1)) : w.heap.size ≤ gb193)); have n3_ := Aside0.mk ((by rw [hg]; exact (below_size (by repeat first | exact HB.out | apply below_alloc | apply pw_below_drewN | apply below_drew1)) : w.heap.size ≤ gb193)); clear HB; have HB := n0_; have BK193 := n1_; have GW193 := n2_; have GE193 := n3_; clear n0_ n1_ n2_ n3_; clear hb hbox hg))
 go_loopg [3, 4] k (fun kq v3 v4 w' => ∃ (x3_1 : ByteArray) (x4_1 : Int), v3 = .string x3_1 ∧ v4 = .int .i64 x4_1 ∧ Aside0 (spec_l06Text.l0 kq x3_1 x4_1 l0_0 l0_1 = some r) ∧ Aside0 (kq ≤ k) ∧ Aside0 (w'.heap[gb193]? = some (.cells #[(.slice A0_0 l0_0.length c0_0), (.slice A0_1 l0_1.length c0_1)] 25 (0, 0))) ∧ Aside0 (Below w.heap.size w w'))
 case atStart => exact ⟨((⟨#[]⟩ : ByteArray)), (0), (by first | rfl | (simp; done) | (simp [*]; done)), (by first | rfl | (simp; done) | (simp [*]; done)), H', ⟨Nat.le_refl _⟩, ⟨by (with_reducible repeat first | apply blk_drewN | apply blk_drew | apply blk_alloc); exact BK193.out⟩, ⟨by repeat (first | (with_reducible first | exact HB.out | apply below_alloc | apply pw_below_drewN | apply below_drew1 | refine below_set ?_ GE193.out) | exact HB.out)⟩⟩
 case round =>
  clear H'
  try clear c2
  try clear p2
  obtain ⟨x3_1, x4_1, rfl, rfl, HA, HK1, BK193, HB⟩ := hrel
  cases gk with
  | zero => exact absurd HA.out (by simp [spec_l06Text.l0])
  | succ k1 =>
   have H := HA.out
   clear HA
   simp only [spec_l06Text.l0] at H
   by_cases c3 : x4_1 < (l0_0.length : Int)
   ·rw [if_pos c3] at H
    have c3b0 : decide (x4_1 < (l0_0.length : Int)) = true := decide_eq_true c3
    clear c3
    by_cases c4 : 0 ≤ x4_1
    ·rw [if_pos c4] at H
     have c4b0 : decide (0 ≤ x4_1) = true := decide_eq_true c4
     clear c4
     replace H := Option.bind_eq_some_iff.mp H
     obtain ⟨t195, A50, H⟩ := H
     replace H : (if 5 + t195.size ≤ 9223372036854775807 then (if ((⟨#[110, 111, 100, 101, 32]⟩ : ByteArray) ++ t195).size + 1 ≤ 9223372036854775807 then ((spec_l06Num.f k1 ((rd_T57 l0_0 x4_1).f1)).bind fun t197 => (if (((⟨#[110, 111, 100, 101, 32]⟩ : ByteArray) ++ t195) ++ (⟨#[32]⟩ : ByteArray)).size + t197.size ≤ 9223372036854775807 then (if ((((⟨#[110, 111, 100, 101, 32]⟩ : ByteArray) ++ t195) ++ (⟨#[32]⟩ : ByteArray)) ++ t197).size + 1 ≤ 9223372036854775807 then (if x3_1.size + (((((⟨#[110, 111, 100, 101, 32]⟩ : ByteArray) ++ t195) ++ (⟨#[32]⟩ : ByteArray)) ++ t197) ++ (⟨#[10]⟩ : ByteArray)).size ≤ 9223372036854775807 then (spec_l06Text.l0 k1 (x3_1 ++ (((((⟨#[110, 111, 100, 101, 32]⟩ : ByteArray) ++ t195) ++ (⟨#[32]⟩ : ByteArray)) ++ t197) ++ (⟨#[10]⟩ : ByteArray))) (wrap64 (x4_1 + 1)) l0_0 l0_1) else (none)) else (none)) else (none))) else (none)) else (none)) = some r := H
     have A5 := Aside0.mk A50
     clear A50
     by_cases c6 : 5 + t195.size ≤ 9223372036854775807
     ·rw [if_pos c6] at H
      have c6b0 := eq_true c6
      have c6b1 : decide (5 + t195.size ≤ 9223372036854775807) = true := decide_eq_true c6
      try have c6b2 : (9223372036854775807 < 5 + t195.size) = False := eq_false (Nat.not_lt.2 c6)
      by_cases c7 : ((⟨#[110, 111, 100, 101, 32]⟩ : ByteArray) ++ t195).size + 1 ≤ 9223372036854775807
      ·rw [if_pos c7] at H
       have c7b0 := eq_true c7
       have c7b1 : decide (((⟨#[110, 111, 100, 101, 32]⟩ : ByteArray) ++ t195).size + 1 ≤ 9223372036854775807) = true := decide_eq_true c7
       try have c7b2 : (9223372036854775807 < ((⟨#[110, 111, 100, 101, 32]⟩ : ByteArray) ++ t195).size + 1) = False := eq_false (Nat.not_lt.2 c7)
       have c7n := c7
       simp only [ByteArray.size_append, show ((⟨#[104, 111, 115, 116]⟩ : ByteArray).size = 4) from rfl, show ((⟨#[10]⟩ : ByteArray).size = 1) from rfl, show ((⟨#[110, 111, 100, 101, 32]⟩ : ByteArray).size = 5) from rfl, show ((⟨#[114, 111, 111, 116]⟩ : ByteArray).size = 4) from rfl, show ((⟨#[114, 97, 99, 107]⟩ : ByteArray).size = 4) from rfl, show ((⟨#[32]⟩ : ByteArray).size = 1) from rfl, show ((⟨#[]⟩ : ByteArray).size = 0) from rfl] at c7n
       have c7b3 := eq_false (Nat.not_lt.2 c7n)
       clear c7n
       replace H := Option.bind_eq_some_iff.mp H
       obtain ⟨t197, A80, H⟩ := H
       replace H : (if (((⟨#[110, 111, 100, 101, 32]⟩ : ByteArray) ++ t195) ++ (⟨#[32]⟩ : ByteArray)).size + t197.size ≤ 9223372036854775807 then (if ((((⟨#[110, 111, 100, 101, 32]⟩ : ByteArray) ++ t195) ++ (⟨#[32]⟩ : ByteArray)) ++ t197).size + 1 ≤ 9223372036854775807 then (if x3_1.size + (((((⟨#[110, 111, 100, 101, 32]⟩ : ByteArray) ++ t195) ++ (⟨#[32]⟩ : ByteArray)) ++ t197) ++ (⟨#[10]⟩ : ByteArray)).size ≤ 9223372036854775807 then (spec_l06Text.l0 k1 (x3_1 ++ (((((⟨#[110, 111, 100, 101, 32]⟩ : ByteArray) ++ t195) ++ (⟨#[32]⟩ : ByteArray)) ++ t197) ++ (⟨#[10]⟩ : ByteArray))) (wrap64 (x4_1 + 1)) l0_0 l0_1) else (none)) else (none)) else (none)) = some r := H
       have A8 := Aside0.mk A80
       clear A80
       by_cases c9 : (((⟨#[110, 111, 100, 101, 32]⟩ : ByteArray) ++ t195) ++ (⟨#[32]⟩ : ByteArray)).size + t197.size ≤ 9223372036854775807
       ·rw [if_pos c9] at H
        have c9b0 := eq_true c9
        have c9b1 : decide ((((⟨#[110, 111, 100, 101, 32]⟩ : ByteArray) ++ t195) ++ (⟨#[32]⟩ : ByteArray)).size + t197.size ≤ 9223372036854775807) = true := decide_eq_true c9
        try have c9b2 : (9223372036854775807 < (((⟨#[110, 111, 100, 101, 32]⟩ : ByteArray) ++ t195) ++ (⟨#[32]⟩ : ByteArray)).size + t197.size) = False := eq_false (Nat.not_lt.2 c9)
        have c9n := c9
        simp only [ByteArray.size_append, show ((⟨#[104, 111, 115, 116]⟩ : ByteArray).size = 4) from rfl, show ((⟨#[10]⟩ : ByteArray).size = 1) from rfl, show ((⟨#[110, 111, 100, 101, 32]⟩ : ByteArray).size = 5) from rfl, show ((⟨#[114, 111, 111, 116]⟩ : ByteArray).size = 4) from rfl, show ((⟨#[114, 97, 99, 107]⟩ : ByteArray).size = 4) from rfl, show ((⟨#[32]⟩ : ByteArray).size = 1) from rfl, show ((⟨#[]⟩ : ByteArray).size = 0) from rfl] at c9n
        have c9b3 := eq_false (Nat.not_lt.2 c9n)
        clear c9n
        by_cases c10 : ((((⟨#[110, 111, 100, 101, 32]⟩ : ByteArray) ++ t195) ++ (⟨#[32]⟩ : ByteArray)) ++ t197).size + 1 ≤ 9223372036854775807
        ·rw [if_pos c10] at H
         have c10b0 := eq_true c10
         have c10b1 : decide (((((⟨#[110, 111, 100, 101, 32]⟩ : ByteArray) ++ t195) ++ (⟨#[32]⟩ : ByteArray)) ++ t197).size + 1 ≤ 9223372036854775807) = true := decide_eq_true c10
         try have c10b2 : (9223372036854775807 < ((((⟨#[110, 111, 100, 101, 32]⟩ : ByteArray) ++ t195) ++ (⟨#[32]⟩ : ByteArray)) ++ t197).size + 1) = False := eq_false (Nat.not_lt.2 c10)
         have c10n := c10
         simp only [ByteArray.size_append, show ((⟨#[104, 111, 115, 116]⟩ : ByteArray).size = 4) from rfl, show ((⟨#[10]⟩ : ByteArray).size = 1) from rfl, show ((⟨#[110, 111, 100, 101, 32]⟩ : ByteArray).size = 5) from rfl, show ((⟨#[114, 111, 111, 116]⟩ : ByteArray).size = 4) from rfl, show ((⟨#[114, 97, 99, 107]⟩ : ByteArray).size = 4) from rfl, show ((⟨#[32]⟩ : ByteArray).size = 1) from rfl, show ((⟨#[]⟩ : ByteArray).size = 0) from rfl] at c10n
         have c10b3 := eq_false (Nat.not_lt.2 c10n)
         clear c10n
         by_cases c11 : x3_1.size + (((((⟨#[110, 111, 100, 101, 32]⟩ : ByteArray) ++ t195) ++ (⟨#[32]⟩ : ByteArray)) ++ t197) ++ (⟨#[10]⟩ : ByteArray)).size ≤ 9223372036854775807
         ·rw [if_pos c11] at H
          have c11b0 := eq_true c11
          have c11b1 : decide (x3_1.size + (((((⟨#[110, 111, 100, 101, 32]⟩ : ByteArray) ++ t195) ++ (⟨#[32]⟩ : ByteArray)) ++ t197) ++ (⟨#[10]⟩ : ByteArray)).size ≤ 9223372036854775807) = true := decide_eq_true c11
          try have c11b2 : (9223372036854775807 < x3_1.size + (((((⟨#[110, 111, 100, 101, 32]⟩ : ByteArray) ++ t195) ++ (⟨#[32]⟩ : ByteArray)) ++ t197) ++ (⟨#[10]⟩ : ByteArray)).size) = False := eq_false (Nat.not_lt.2 c11)
          have c11n := c11
          simp only [ByteArray.size_append, show ((⟨#[104, 111, 115, 116]⟩ : ByteArray).size = 4) from rfl, show ((⟨#[10]⟩ : ByteArray).size = 1) from rfl, show ((⟨#[110, 111, 100, 101, 32]⟩ : ByteArray).size = 5) from rfl, show ((⟨#[114, 111, 111, 116]⟩ : ByteArray).size = 4) from rfl, show ((⟨#[114, 97, 99, 107]⟩ : ByteArray).size = 4) from rfl, show ((⟨#[32]⟩ : ByteArray).size = 1) from rfl, show ((⟨#[]⟩ : ByteArray).size = 0) from rfl] at c11n
          have c11b3 := eq_false (Nat.not_lt.2 c11n)
          clear c11n
          have H' := Aside0.mk H
          clear H
          have hcz12_0 : wr.cell? ⟨gb193, 0, none⟩ = some (.slice A0_0 l0_0.length c0_0) := (blk_cell BK193.out 0).trans rfl
          have hcz12_1 : wr.cell? ⟨gb193, 1, none⟩ = some (.slice A0_1 l0_1.length c0_1) := (blk_cell BK193.out 1).trans rfl
          have hfz12_0 := blk_frozen BK193.out 0
          have hfz12_1 := blk_frozen BK193.out 1
          try go_wp2
          have n0_ := Aside0.mk (blk_drew BK193.out)
          have n1_ := Aside0.mk (below_drew1 HB.out)
          clear BK193
          clear HB
          have BK193 := n0_
          have HB := n1_
          clear n0_ n1_
          have p194 : 0 ≤ (x4_1 : Int) := of_decide_eq_true (by assumption)
          have q194 : x4_1 < (l0_0.length : Int) := of_decide_eq_true (by assumption)
          obtain ⟨ad194, e194, hx194_0, hx194_1⟩ := at_T57 HR0_0.out x4_1 p194 q194
          have hw194_1 := hx194_1
          have hw194_0 := hx194_0
          cases e194
          replace hx194_0 := (HB.out.cell (World.block_lt_of_cell? w _ hx194_0)).trans hx194_0
          replace hx194_1 := (HB.out.cell (World.block_lt_of_cell? w _ hx194_1)).trans hx194_1
          replace p194 := eq_true p194
          replace q194 := eq_true q194
          have p196 : 0 ≤ (x4_1 : Int) := of_decide_eq_true (by assumption)
          have q196 : x4_1 < (l0_0.length : Int) := of_decide_eq_true (by assumption)
          obtain ⟨ad196, e196, hx196_0, hx196_1⟩ := at_T57 HR0_0.out x4_1 p196 q196
          have hw196_1 := hx196_1
          have hw196_0 := hx196_0
          obtain rfl : ad194 = ad196 := (by injection e196)
          replace hx196_0 := (HB.out.cell (World.block_lt_of_cell? w _ hx196_0)).trans hx196_0
          replace hx196_1 := (HB.out.cell (World.block_lt_of_cell? w _ hx196_1)).trans hx196_1
          replace p196 := eq_true p196
          replace q196 := eq_true q196
          refine start_ (n := 21) (S := fun w' => w'.cell? ⟨gb193, 0, none⟩ = some (.slice (some ad194) l0_0.length c0_0) ∧ w'.cell? ⟨gb193, 1, none⟩ = some (.slice A0_1 l0_1.length c0_1) ∧ w'.cell? (ad194.add ((x4_1).toNat * 2)) = some (.int .i64 ((rd_T57 l0_0 x4_1).f0)) ∧ w'.cell? ⟨(ad194.add ((x4_1).toNat * 2)).block, (ad194.add ((x4_1).toNat * 2)).off + 1, none⟩ = some (.int .i64 ((rd_T57 l0_0 x4_1).f1)) ∧ w'.cell? (ad194.add ((x4_1).toNat * 2)) = some (.int .i64 ((rd_T57 l0_0 x4_1).f0)) ∧ w'.cell? ⟨(ad194.add ((x4_1).toNat * 2)).block, (ad194.add ((x4_1).toNat * 2)).off + 1, none⟩ = some (.int .i64 ((rd_T57 l0_0 x4_1).f1))) (ds := []) mz25_0 (by kernel_rfl) rfl rfl ⟨(blk_cell BK193.out 0).trans rfl, (blk_cell BK193.out 1).trans rfl, ((HB.out.cell (World.block_lt_of_cell? w _ hw194_0)).trans hw194_0), ((HB.out.cell (World.block_lt_of_cell? w _ hw194_1)).trans hw194_1), ((HB.out.cell (World.block_lt_of_cell? w _ hw196_0)).trans hw196_0), ((HB.out.cell (World.block_lt_of_cell? w _ hw196_1)).trans hw196_1)⟩ (fun hHeld => ?_); refine with_tabW spec_l06Text.tab5 spec_l06Text.bits5 (fun HT_ HW_ => ?_)
          generalize wr.drew = w13 at BK193 HB hx194_0 hx194_1 hx196_0 hx196_1 hHeld ⊢
          refine pu_z25 0 (some 15) ?_ mz25_1 rfl rfl (any_of HT_.out (by kernel_rfl)) (fun _ _ _ h => h) (Or.inl ⟨by rfl, ?_⟩) ?_ ?_ ?_
          (rotate_left; ·(intro w'; go_simp; with_reducible rfl)); (rotate_left; ·(simp only [Act.put, pq_z25]; rfl))
          refine pu_z25 1 (some 16) ?_ mz25_2 rfl rfl (any_of HT_.out (by kernel_rfl)) (fun _ _ _ h => h) (Or.inl ⟨by rfl, ?_⟩) ?_ ?_ ?_
          (rotate_left; ·(intro w'; go_simp; with_reducible rfl)); (rotate_left; ·(simp only [Act.put, pq_z25]; rfl))
          refine pu_z25 3 (some 18) ?_ mz25_3 rfl rfl (any_of HT_.out (by kernel_rfl)) (fun _ _ _ h => h) (Or.inl ⟨by rfl, ?_⟩) ?_ ?_ ?_
          (rotate_left; ·(intro w'; go_simp; with_reducible rfl)); (rotate_left; ·(simp only [Act.put, pq_z25]; rfl))
          refine pu_z25 10 (some 25) ?_ mz25_4 rfl rfl (any_of HT_.out (by kernel_rfl)) (fun _ _ _ h => h) (Or.inl ⟨by rfl, ?_⟩) ?_ ?_ ?_
          (rotate_left; ·(intro w'; go_simp; with_reducible rfl)); (rotate_left; ·(simp only [Act.put, pq_z25]; rfl))
          refine pu_z25 12 (some 27) ?_ mz25_5 rfl rfl (any_of HT_.out (by kernel_rfl)) (fun _ _ _ h => h) (Or.inl ⟨by rfl, ?_⟩) ?_ ?_ ?_
          (rotate_left; ·(intro w'; go_simp; with_reducible rfl)); (rotate_left; ·(simp only [Act.put, pq_z25]; rfl))
          refine take_ (i := 2) (N := some 17) (v := ?_) (a' := ?_) mz25_6 rfl rfl (take_ofW HT_.out HW_.out (by kernel_rfl)) (fun _ _ _ h => h) (Or.inl ⟨by rfl, ?_⟩) hHeld ?_ ?_
          (rotate_left; ·(rintro w' ⟨s0, s1, s2, s3, s4, s5⟩; go_simp; with_reducible rfl)); (rotate_left; ·(simp only [Act.put, pq_z25]; rfl))
          refine pu_z25 4 (some 19) ?_ mz25_7 rfl rfl (any_of HT_.out (by kernel_rfl)) (fun _ _ _ h => h) (Or.inl ⟨by rfl, ?_⟩) ?_ ?_ ?_
          (rotate_left; ·(intro w'; go_simp; with_reducible rfl)); (rotate_left; ·(simp only [Act.put, pq_z25]; rfl))
          refine pu_z25 5 (some 20) ?_ mz25_8 rfl rfl (any_of HT_.out (by kernel_rfl)) (fun _ _ _ h => h) (Or.inl ⟨by rfl, ?_⟩) ?_ ?_ ?_
          (rotate_left; ·(intro w'; go_simp; with_reducible rfl)); (rotate_left; ·(simp only [Act.put, pq_z25]; rfl))
          refine take_ (i := 6) (N := some 21) (v := ?_) (a' := ?_) mz25_9 rfl rfl (take_ofW HT_.out HW_.out (by kernel_rfl)) (fun _ _ _ h => h) (Or.inl ⟨by rfl, ?_⟩) hHeld ?_ ?_
          (rotate_left; ·(rintro w' ⟨s0, s1, s2, s3, s4, s5⟩; go_simp; with_reducible rfl)); (rotate_left; ·(simp only [Act.put, pq_z25]; rfl))
          refine take_ (i := 11) (N := some 26) (v := ?_) (a' := ?_) mz25_10 rfl rfl (take_ofW HT_.out HW_.out (by kernel_rfl)) (fun _ _ _ h => h) (Or.inl ⟨by rfl, ?_⟩) hHeld ?_ ?_
          (rotate_left; ·(rintro w' ⟨s0, s1, s2, s3, s4, s5⟩; go_simp; with_reducible rfl)); (rotate_left; ·(simp only [Act.put, pq_z25]; rfl))
          refine pu_z25 13 (some 28) ?_ mz25_11 rfl rfl (any_of HT_.out (by kernel_rfl)) (fun _ _ _ h => h) (Or.inl ⟨by rfl, ?_⟩) ?_ ?_ ?_
          (rotate_left; ·(intro w'; go_simp; with_reducible rfl)); (rotate_left; ·(simp only [Act.put, pq_z25]; rfl))
          refine pu_z25 14 (some 29) ?_ mz25_12 rfl rfl (any_of HT_.out (by kernel_rfl)) (fun _ _ _ h => h) (Or.inl ⟨by rfl, ?_⟩) ?_ ?_ ?_
          (rotate_left; ·(intro w'; go_simp; with_reducible rfl)); (rotate_left; ·(simp only [Act.put, pq_z25]; rfl))
          refine take_ (i := 15) (N := some 30) (v := ?_) (a' := ?_) mz25_13 rfl rfl (take_ofW HT_.out HW_.out (by kernel_rfl)) (fun _ _ _ h => h) (Or.inl ⟨by rfl, ?_⟩) hHeld ?_ ?_
          (rotate_left; ·(rintro w' ⟨s0, s1, s2, s3, s4, s5⟩; go_simp; with_reducible rfl)); (rotate_left; ·(simp only [Act.put, pq_z25]; rfl))
          refine one_ (i := 7) (N := some 22) mz25_14 rfl rfl (one_of HT_.out (by kernel_rfl)) (by decide) (fun K hK => ?_)
          refine goes_ Tryz.func48 (by kernel_rfl) rfl #[.int .i64 ((rd_T57 l0_0 x4_1).f0)] (by rfl) rfl rfl (by (try simp only [List.map_toArray, List.map_cons, List.map_nil]); first | done | rfl | (simp only [List.length_drop, List.length_take]; rfl)) ?_
          with_reducible refine (spec_l06Num.calls k1 ((rd_T57 l0_0 x4_1).f0) t195 _ A5.out).mono ?_
          rintro e w14 ⟨rfl, hb⟩
          refine ⟨_, rfl, ?_⟩
          have n0_ := Aside0.mk (blk_below (g := gb193) (o := .cells #[.slice (some ad194) l0_0.length c0_0, .slice A0_1 l0_1.length c0_1] 25 (0, 0)) (by (with_reducible repeat first | apply blk_drewN | apply blk_drew | apply blk_alloc); exact BK193.out) hb)
          have n1_ := Aside0.mk (below_step (by repeat (first | (with_reducible first | exact HB.out | apply below_alloc | apply pw_below_drewN | apply below_drew1 | refine below_set ?_ GE193.out) | exact HB.out)) hb)
          clear BK193
          clear HB
          have BK193 := n0_
          have HB := n1_
          clear n0_ n1_
          (try clear hb)
          (try clear hb2)
          (try clear hk)
          (try clear hi)
          refine hK.out _ _ ⟨(blk_cell BK193.out 0).trans rfl, (blk_cell BK193.out 1).trans rfl, ((HB.out.cell (World.block_lt_of_cell? w _ hw194_0)).trans hw194_0), ((HB.out.cell (World.block_lt_of_cell? w _ hw194_1)).trans hw194_1), ((HB.out.cell (World.block_lt_of_cell? w _ hw196_0)).trans hw196_0), ((HB.out.cell (World.block_lt_of_cell? w _ hw196_1)).trans hw196_1)⟩ (fun hHeld => ?_)
          clear hK K
          refine norm_ (a' := ?_) ?_ ?_
          (rotate_left; ·(show Act.put _ (some 22) _ = _; simp only [Act.put, pq_z25]; rfl))
          refine pu_z25 8 (some 23) ?_ mz25_15 rfl rfl (any_of HT_.out (by kernel_rfl)) (fun _ _ _ h => h) (Or.inl ⟨by rfl, ?_⟩) ?_ ?_ ?_
          (rotate_left; ·(intro w'; go_simp; with_reducible rfl)); (rotate_left; ·(simp only [Act.put, pq_z25]; rfl))
          refine pu_z25 9 (some 24) ?_ mz25_16 rfl rfl (any_of HT_.out (by kernel_rfl)) (fun _ _ _ h => h) (Or.inl ⟨by rfl, ?_⟩) ?_ ?_ ?_
          (rotate_left; ·(intro w'; go_simp; with_reducible rfl)); (rotate_left; ·(simp only [Act.put, pq_z25]; rfl))
          refine one_ (i := 16) (N := some 31) mz25_17 rfl rfl (one_of HT_.out (by kernel_rfl)) (by decide) (fun K hK => ?_)
          refine goes_ Tryz.func48 (by kernel_rfl) rfl #[.int .i64 ((rd_T57 l0_0 x4_1).f1)] (by rfl) rfl rfl (by (try simp only [List.map_toArray, List.map_cons, List.map_nil]); first | done | rfl | (simp only [List.length_drop, List.length_take]; rfl)) ?_
          with_reducible refine (spec_l06Num.calls k1 ((rd_T57 l0_0 x4_1).f1) t197 _ A8.out).mono ?_
          rintro e w15 ⟨rfl, hb⟩
          refine ⟨_, rfl, ?_⟩
          have n0_ := Aside0.mk (blk_below (g := gb193) (o := .cells #[.slice (some ad194) l0_0.length c0_0, .slice A0_1 l0_1.length c0_1] 25 (0, 0)) (by (with_reducible repeat first | apply blk_drewN | apply blk_drew | apply blk_alloc); exact BK193.out) hb)
          have n1_ := Aside0.mk (below_step (by repeat (first | (with_reducible first | exact HB.out | apply below_alloc | apply pw_below_drewN | apply below_drew1 | refine below_set ?_ GE193.out) | exact HB.out)) hb)
          clear BK193
          clear HB
          have BK193 := n0_
          have HB := n1_
          clear n0_ n1_
          (try clear hb)
          (try clear hb2)
          (try clear hk)
          (try clear hi)
          refine hK.out _ _ ⟨(blk_cell BK193.out 0).trans rfl, (blk_cell BK193.out 1).trans rfl, ((HB.out.cell (World.block_lt_of_cell? w _ hw194_0)).trans hw194_0), ((HB.out.cell (World.block_lt_of_cell? w _ hw194_1)).trans hw194_1), ((HB.out.cell (World.block_lt_of_cell? w _ hw196_0)).trans hw196_0), ((HB.out.cell (World.block_lt_of_cell? w _ hw196_1)).trans hw196_1)⟩ (fun hHeld => ?_)
          clear hK K
          refine norm_ (a' := ?_) ?_ ?_
          (rotate_left; ·(show Act.put _ (some 31) _ = _; simp only [Act.put, pq_z25]; rfl))
          refine pu_z25 17 (some 32) ?_ mz25_18 rfl rfl (any_of HT_.out (by kernel_rfl)) (fun _ _ _ h => h) (Or.inl ⟨by rfl, ?_⟩) ?_ ?_ ?_
          (rotate_left; ·(intro w'; go_simp; with_reducible rfl)); (rotate_left; ·(simp only [Act.put, pq_z25]; rfl))
          refine pu_z25 18 (some 33) ?_ mz25_19 rfl rfl (any_of HT_.out (by kernel_rfl)) (fun _ _ _ h => h) (Or.inl ⟨by rfl, ?_⟩) ?_ ?_ ?_
          (rotate_left; ·(intro w'; go_simp; with_reducible rfl)); (rotate_left; ·(simp only [Act.put, pq_z25]; rfl))
          refine pu_z25 19 (some 34) ?_ mz25_20 rfl rfl (any_of HT_.out (by kernel_rfl)) (fun _ _ _ h => h) (Or.inl ⟨by rfl, ?_⟩) ?_ ?_ ?_
          (rotate_left; ·(intro w'; go_simp; with_reducible rfl)); (rotate_left; ·(simp only [Act.put, pq_z25]; rfl))
          refine pu_z25 20 (some 3) ?_ mz25_21 rfl rfl (any_of HT_.out (by kernel_rfl)) (fun _ _ _ h => h) (Or.inl ⟨by rfl, ?_⟩) ?_ ?_ ?_
          (rotate_left; ·(intro w'; go_simp; with_reducible rfl)); (rotate_left; ·(simp only [Act.put, pq_z25]; rfl))
          refine done_ (done_of HT_.out (by kernel_rfl)) ?_
          try go_wp2
          go_roundg k1
          case measure => have := HK1.out; omega
          case rel => exact ⟨(x3_1 ++ (((((⟨#[110, 111, 100, 101, 32]⟩ : ByteArray) ++ t195) ++ (⟨#[32]⟩ : ByteArray)) ++ t197) ++ (⟨#[10]⟩ : ByteArray))), (wrap64 (x4_1 + 1)), (by first | rfl | (simp; done) | (simp [*]; done)), (by first | rfl | (simp; done) | (simp [*]; done)), H', ⟨by have := HK1.out; omega⟩, ⟨by (with_reducible repeat first | apply blk_drewN | apply blk_drew | apply blk_alloc); exact BK193.out⟩, ⟨by repeat (first | (with_reducible first | exact HB.out | apply below_alloc | apply pw_below_drewN | apply below_drew1 | refine below_set ?_ GE193.out) | exact HB.out)⟩⟩
         ·rw [if_neg c11] at H
          exact absurd H (by simp)
        ·rw [if_neg c10] at H
         exact absurd H (by simp)
       ·rw [if_neg c9] at H
        exact absurd H (by simp)
      ·rw [if_neg c7] at H
       exact absurd H (by simp)
     ·rw [if_neg c6] at H
      exact absurd H (by simp)
    ·rw [if_neg c4] at H
     exact absurd H (by simp)
   ·rw [if_neg c3] at H
    have c3b0 : decide (x4_1 < (l0_0.length : Int)) = false := decide_eq_false c3
    clear c3
    have H' := Aside0.mk H
    clear H
    have hcz16_0 : wr.cell? ⟨gb193, 0, none⟩ = some (.slice A0_0 l0_0.length c0_0) := (blk_cell BK193.out 0).trans rfl
    have hcz16_1 : wr.cell? ⟨gb193, 1, none⟩ = some (.slice A0_1 l0_1.length c0_1) := (blk_cell BK193.out 1).trans rfl
    have hfz16_0 := blk_frozen BK193.out 0
    have hfz16_1 := blk_frozen BK193.out 1
    go_wp2
    go_loopg [3, 5] k1 (fun kq v3 v5 w' => ∃ (x3_2 : ByteArray) (x5_2 : Int), v3 = .string x3_2 ∧ v5 = .int .i64 x5_2 ∧ Aside0 (spec_l06Text.l1 kq x3_2 x5_2 l0_0 l0_1 = some r) ∧ Aside0 (kq ≤ k1) ∧ Aside0 (w'.heap[gb193]? = some (.cells #[(.slice A0_0 l0_0.length c0_0), (.slice A0_1 l0_1.length c0_1)] 25 (0, 0))) ∧ Aside0 (Below w.heap.size w w'))
    case atStart => exact ⟨(x3_1), (0), (by first | rfl | (simp; done) | (simp [*]; done)), (by first | rfl | (simp; done) | (simp [*]; done)), H', ⟨Nat.le_refl _⟩, ⟨by (with_reducible repeat first | apply blk_drewN | apply blk_drew | apply blk_alloc); exact BK193.out⟩, ⟨by repeat (first | (with_reducible first | exact HB.out | apply below_alloc | apply pw_below_drewN | apply below_drew1 | refine below_set ?_ GE193.out) | exact HB.out)⟩⟩
    case round =>
     clear H'
     try clear c1
     try clear p1
     try clear q1
     try clear hx1
     try clear c2
     try clear p2
     try clear c3
     try clear c3b0
     try clear c4
     try clear c4b0
     try clear c6
     try clear c6b0
     try clear c6b1
     try clear c6b2
     try clear p6
     try clear c7
     try clear c7b0
     try clear c7b1
     try clear c7b2
     try clear c9
     try clear c9b0
     try clear c9b1
     try clear c9b2
     try clear c10
     try clear c10b0
     try clear c10b1
     try clear c10b2
     try clear c11
     try clear c11b0
     try clear c11b1
     try clear c11b2
     try clear hcz12_0
     try clear hcz12_1
     try clear hcz16_0
     try clear hcz16_1
     try clear hfz12_0
     try clear hfz12_1
     try clear hfz16_0
     try clear hfz16_1
     try clear hx194_0
     try clear hx194_1
     try clear hx196_0
     try clear hx196_1
     try clear p194
     try clear p196
     try clear p2
     try clear q194
     try clear q196
     obtain ⟨x3_2, x5_2, rfl, rfl, HA, HK2, BK193, HB⟩ := hrel
     cases gk with
     | zero => exact absurd HA.out (by simp [spec_l06Text.l1])
     | succ k2 =>
      have H := HA.out
      clear HA
      simp only [spec_l06Text.l1] at H
      by_cases c17 : x5_2 < (l0_1.length : Int)
      ·rw [if_pos c17] at H
       have c17b0 : decide (x5_2 < (l0_1.length : Int)) = true := decide_eq_true c17
       clear c17
       by_cases c18 : 0 ≤ x5_2
       ·rw [if_pos c18] at H
        have c18b0 : decide (0 ≤ x5_2) = true := decide_eq_true c18
        clear c18
        obtain ⟨y200, hy200⟩ : ∃ y_ : List ByteArray, y_ = (([(⟨#[104, 111, 115, 116]⟩ : ByteArray), (⟨#[114, 97, 99, 107]⟩ : ByteArray), (⟨#[114, 111, 111, 116]⟩ : ByteArray)] : List ByteArray)) := ⟨_, rfl⟩
        replace H : (if 0 ≤ (wrap64 (((rd_T49 l0_1 x5_2).f1) - 1)) then (if (wrap64 (((rd_T49 l0_1 x5_2).f1) - 1)) < (y200.length : Int) then (if (rdOf ByteArray.empty y200 (wrap64 (((rd_T49 l0_1 x5_2).f1) - 1))).size + 1 ≤ 9223372036854775807 then ((spec_l06Num.f k2 ((rd_T49 l0_1 x5_2).f0)).bind fun t204 => (if ((rdOf ByteArray.empty y200 (wrap64 (((rd_T49 l0_1 x5_2).f1) - 1))) ++ (⟨#[32]⟩ : ByteArray)).size + t204.size ≤ 9223372036854775807 then (if x3_2.size + (((rdOf ByteArray.empty y200 (wrap64 (((rd_T49 l0_1 x5_2).f1) - 1))) ++ (⟨#[32]⟩ : ByteArray)) ++ t204).size ≤ 9223372036854775807 then (spec_l06Text.l2 k2 (x3_2 ++ (((rdOf ByteArray.empty y200 (wrap64 (((rd_T49 l0_1 x5_2).f1) - 1))) ++ (⟨#[32]⟩ : ByteArray)) ++ t204)) x5_2 0 l0_0 l0_1 ((rd_T49 l0_1 x5_2).f0) ((rd_T49 l0_1 x5_2).f1) ((rd_T49 l0_1 x5_2).f2)) else (none)) else (none))) else (none)) else (none)) else (none)) = some r := by first | (rw [hy200]; with_reducible exact H) | (have H2_ := (Option.bind_some _ _).symm.trans H; rw [hy200]; with_reducible exact H2_) | (have H2_ := (Option.bind_some _ _).symm.trans H; with_reducible exact H2_) | with_reducible exact H | (rw [hy200]; exact H) | exact H
        have Ny200 := Aside0.mk hy200
        clear hy200
        obtain ⟨ji19, hji19⟩ : ∃ j_ : Int, (wrap64 (((rd_T49 l0_1 x5_2).f1) - 1)) = j_ := ⟨_, rfl⟩
        replace H : (if 0 ≤ (ji19) then (if (ji19) < (y200.length : Int) then (if (rdOf ByteArray.empty y200 (ji19)).size + 1 ≤ 9223372036854775807 then ((spec_l06Num.f k2 ((rd_T49 l0_1 x5_2).f0)).bind fun t204 => (if ((rdOf ByteArray.empty y200 (ji19)) ++ (⟨#[32]⟩ : ByteArray)).size + t204.size ≤ 9223372036854775807 then (if x3_2.size + (((rdOf ByteArray.empty y200 (ji19)) ++ (⟨#[32]⟩ : ByteArray)) ++ t204).size ≤ 9223372036854775807 then (spec_l06Text.l2 k2 (x3_2 ++ (((rdOf ByteArray.empty y200 (ji19)) ++ (⟨#[32]⟩ : ByteArray)) ++ t204)) x5_2 0 l0_0 l0_1 ((rd_T49 l0_1 x5_2).f0) ((rd_T49 l0_1 x5_2).f1) ((rd_T49 l0_1 x5_2).f2)) else (none)) else (none))) else (none)) else (none)) else (none)) = some r := by first | (rw [hji19] at H; exact H) | (simp only [hji19] at H ⊢; exact H)
        have hji19w : (IntKind.i64.wrap (((rd_T49 l0_1 x5_2).f1) - 1)) = ji19 := (i64_w _).trans hji19
        by_cases c20 : 0 ≤ (ji19)
        ·rw [if_pos c20] at H
         have c20b0 : decide (0 ≤ (ji19)) = true := decide_eq_true c20
         clear c20
         by_cases c21 : (ji19) < (y200.length : Int)
         ·rw [if_pos c21] at H
          have c21b0 : decide ((ji19) < (y200.length : Int)) = true := decide_eq_true c21
          clear c21
          by_cases c22 : (rdOf ByteArray.empty y200 (ji19)).size + 1 ≤ 9223372036854775807
          ·rw [if_pos c22] at H
           have c22b0 := eq_true c22
           have c22b1 : decide ((rdOf ByteArray.empty y200 (ji19)).size + 1 ≤ 9223372036854775807) = true := decide_eq_true c22
           try have c22b2 : (9223372036854775807 < (rdOf ByteArray.empty y200 (ji19)).size + 1) = False := eq_false (Nat.not_lt.2 c22)
           replace H := Option.bind_eq_some_iff.mp H
           obtain ⟨t204, A230, H⟩ := H
           replace H : (if ((rdOf ByteArray.empty y200 (ji19)) ++ (⟨#[32]⟩ : ByteArray)).size + t204.size ≤ 9223372036854775807 then (if x3_2.size + (((rdOf ByteArray.empty y200 (ji19)) ++ (⟨#[32]⟩ : ByteArray)) ++ t204).size ≤ 9223372036854775807 then (spec_l06Text.l2 k2 (x3_2 ++ (((rdOf ByteArray.empty y200 (ji19)) ++ (⟨#[32]⟩ : ByteArray)) ++ t204)) x5_2 0 l0_0 l0_1 ((rd_T49 l0_1 x5_2).f0) ((rd_T49 l0_1 x5_2).f1) ((rd_T49 l0_1 x5_2).f2)) else (none)) else (none)) = some r := H
           have A23 := Aside0.mk A230
           clear A230
           by_cases c24 : ((rdOf ByteArray.empty y200 (ji19)) ++ (⟨#[32]⟩ : ByteArray)).size + t204.size ≤ 9223372036854775807
           ·rw [if_pos c24] at H
            have c24b0 := eq_true c24
            have c24b1 : decide (((rdOf ByteArray.empty y200 (ji19)) ++ (⟨#[32]⟩ : ByteArray)).size + t204.size ≤ 9223372036854775807) = true := decide_eq_true c24
            try have c24b2 : (9223372036854775807 < ((rdOf ByteArray.empty y200 (ji19)) ++ (⟨#[32]⟩ : ByteArray)).size + t204.size) = False := eq_false (Nat.not_lt.2 c24)
            have c24n := c24
            simp only [ByteArray.size_append, show ((⟨#[104, 111, 115, 116]⟩ : ByteArray).size = 4) from rfl, show ((⟨#[10]⟩ : ByteArray).size = 1) from rfl, show ((⟨#[110, 111, 100, 101, 32]⟩ : ByteArray).size = 5) from rfl, show ((⟨#[114, 111, 111, 116]⟩ : ByteArray).size = 4) from rfl, show ((⟨#[114, 97, 99, 107]⟩ : ByteArray).size = 4) from rfl, show ((⟨#[32]⟩ : ByteArray).size = 1) from rfl, show ((⟨#[]⟩ : ByteArray).size = 0) from rfl] at c24n
            have c24b3 := eq_false (Nat.not_lt.2 c24n)
            clear c24n
            by_cases c25 : x3_2.size + (((rdOf ByteArray.empty y200 (ji19)) ++ (⟨#[32]⟩ : ByteArray)) ++ t204).size ≤ 9223372036854775807
            ·rw [if_pos c25] at H
             have c25b0 := eq_true c25
             have c25b1 : decide (x3_2.size + (((rdOf ByteArray.empty y200 (ji19)) ++ (⟨#[32]⟩ : ByteArray)) ++ t204).size ≤ 9223372036854775807) = true := decide_eq_true c25
             try have c25b2 : (9223372036854775807 < x3_2.size + (((rdOf ByteArray.empty y200 (ji19)) ++ (⟨#[32]⟩ : ByteArray)) ++ t204).size) = False := eq_false (Nat.not_lt.2 c25)
             have c25n := c25
             simp only [ByteArray.size_append, show ((⟨#[104, 111, 115, 116]⟩ : ByteArray).size = 4) from rfl, show ((⟨#[10]⟩ : ByteArray).size = 1) from rfl, show ((⟨#[110, 111, 100, 101, 32]⟩ : ByteArray).size = 5) from rfl, show ((⟨#[114, 111, 111, 116]⟩ : ByteArray).size = 4) from rfl, show ((⟨#[114, 97, 99, 107]⟩ : ByteArray).size = 4) from rfl, show ((⟨#[32]⟩ : ByteArray).size = 1) from rfl, show ((⟨#[]⟩ : ByteArray).size = 0) from rfl] at c25n
             have c25b3 := eq_false (Nat.not_lt.2 c25n)
             clear c25n
             have H' := Aside0.mk H
             clear H
             have hcz26_0 : wr.cell? ⟨gb193, 0, none⟩ = some (.slice A0_0 l0_0.length c0_0) := (blk_cell BK193.out 0).trans rfl
             have hcz26_1 : wr.cell? ⟨gb193, 1, none⟩ = some (.slice A0_1 l0_1.length c0_1) := (blk_cell BK193.out 1).trans rfl
             have hfz26_0 := blk_frozen BK193.out 0
             have hfz26_1 := blk_frozen BK193.out 1
             have p198 : 0 ≤ (x5_2 : Int) := of_decide_eq_true (by assumption)
             have q198 : x5_2 < (l0_1.length : Int) := of_decide_eq_true (by assumption)
             obtain ⟨ad198, A198_2, c198_2, e198, hx198_0, hx198_1, hx198_2, hl198_2, hi198_2⟩ := at_T49 HR0_1.out x5_2 p198 q198
             cases e198
             replace hx198_0 := (HB.out.cell (World.block_lt_of_cell? w _ hx198_0)).trans hx198_0
             replace hx198_1 := (HB.out.cell (World.block_lt_of_cell? w _ hx198_1)).trans hx198_1
             replace hx198_2 := (HB.out.cell (World.block_lt_of_cell? w _ hx198_2)).trans hx198_2
             have HR198_2 := Aside0.mk hi198_2
             have HC198_2 := Aside0.mk hl198_2
             clear hi198_2 hl198_2
             replace p198 := eq_true p198
             replace q198 := eq_true q198
             try go_wp2_with (first | ((with_reducible refine gate_dst (N := 6) rfl ?_); refine box_event ?hg (N := 6) ?hd (cs := #[.int .i64 0, .int .i64 0, .slice none 0 0]) (t := 49) ?hr ?_; (case hd => rfl); (case hg => rfl); (case hr => first | (go_simp; done) | (go_simp; rfl)); intro gb199 hg w27 hbox hb; have n0_ := Aside0.mk (blk_below (g := gb193) (o := .cells #[.slice A0_0 l0_0.length c0_0, .slice (some ad198) l0_1.length c0_1] 25 (0, 0)) (by (with_reducible repeat first | apply blk_drewN | apply blk_drew | apply blk_alloc); exact BK193.out) hb); have n1_ := Aside0.mk (below_step (by repeat (first | (with_reducible first | exact HB.out | apply below_alloc | apply pw_below_drewN | apply below_drew1 | refine below_set ?_ GE193.out) | exact HB.out)) hb); have n2_ := Aside0.mk (hbox); have n3_ := Aside0.mk ((by rw [hg]; exact (below_size (by repeat (first | (with_reducible first | exact HB.out | apply below_alloc | apply pw_below_drewN | apply below_drew1 | refine below_set ?_ GE193.out) | exact HB.out))) : w.heap.size ≤ gb199)); have n4_ := Aside0.mk ((by rw [hg]; exact (below_size (by repeat (first | (with_reducible first | exact HB.out | apply below_alloc | apply pw_below_drewN | apply below_drew1 | refine below_set ?_ GE193.out) | exact HB.out))) : w.heap.size ≤ gb199)); have n5_ := Aside0.mk ((by rw [hg]; exact Nat.ne_of_lt (blk_lt (g := gb193) (o := .cells #[.slice A0_0 l0_0.length c0_0, .slice (some ad198) l0_1.length c0_1] 25 (0, 0)) (by (with_reducible repeat first | apply blk_drewN | apply blk_drew | apply blk_alloc); exact BK193.out)) : gb193 ≠ gb199)); have n6_ := Aside0.mk ((by rw [hg]; exact Nat.ne_of_gt (blk_lt (g := gb193) (o := .cells #[.slice A0_0 l0_0.length c0_0, .slice (some ad198) l0_1.length c0_1] 25 (0, 0)) (by (with_reducible repeat first | apply blk_drewN | apply blk_drew | apply blk_alloc); exact BK193.out)) : gb199 ≠ gb193)); clear BK193; clear HB; have BK193 := n0_; have HB := n1_; have BK199 := n2_; have GW199 := n3_; have GE199 := n4_; have NB193_199 := n5_; have NB199_193 := n6_; clear n0_ n1_ n2_ n3_ n4_ n5_ n6_; clear hb hbox hg; have hnb28 := NB199_193.out; have hnc28 := NB193_199.out; have hcz29_0 : w27.cell? ⟨gb199, 0, none⟩ = some (.int .i64 0) := (blk_cell BK199.out 0).trans rfl; have hcz29_1 : w27.cell? ⟨gb199, 1, none⟩ = some (.int .i64 0) := (blk_cell BK199.out 1).trans rfl; have hcz29_2 : w27.cell? ⟨gb199, 2, none⟩ = some (.slice none 0 0) := (blk_cell BK199.out 2).trans rfl; have hfz29_0 := blk_frozen BK199.out 0; have hfz29_1 := blk_frozen BK199.out 1; have hfz29_2 := blk_frozen BK199.out 2))
             have pi203 : (0 ≤ ((ji19) : Int)) = True := eq_true (of_decide_eq_true (by assumption))
             have qi203 : ((ji19) < (y200.length : Int)) = True := eq_true (of_decide_eq_true (by assumption))
             have n0_ : Aside0 ((((w27.setCell ⟨gb199, 0, none⟩ (.int .i64 ((rd_T49 l0_1 x5_2).f0))).setCell ⟨gb199, 1, none⟩ (.int .i64 ((rd_T49 l0_1 x5_2).f1))).setCell ⟨gb199, 2, none⟩ (.slice A198_2 ((rd_T49 l0_1 x5_2).f2).length c198_2)).heap[gb193]? = some (.cells #[.slice A0_0 l0_0.length c0_0, .slice (some ad198) l0_1.length c0_1] 25 (0, 0))) := ⟨by (with_reducible repeat first | apply blk_drewN | apply blk_drew | apply blk_alloc); refine blk_far ?_ NB193_199.out _; (with_reducible repeat first | apply blk_drewN | apply blk_drew | apply blk_alloc); refine blk_far ?_ NB193_199.out _; (with_reducible repeat first | apply blk_drewN | apply blk_drew | apply blk_alloc); refine blk_far ?_ NB193_199.out _; (with_reducible repeat first | apply blk_drewN | apply blk_drew | apply blk_alloc); exact BK193.out⟩
             have n1_ : Aside0 ((((w27.setCell ⟨gb199, 0, none⟩ (.int .i64 ((rd_T49 l0_1 x5_2).f0))).setCell ⟨gb199, 1, none⟩ (.int .i64 ((rd_T49 l0_1 x5_2).f1))).setCell ⟨gb199, 2, none⟩ (.slice A198_2 ((rd_T49 l0_1 x5_2).f2).length c198_2)).heap[gb199]? = some (.cells #[.int .i64 ((rd_T49 l0_1 x5_2).f0), .int .i64 ((rd_T49 l0_1 x5_2).f1), .slice A198_2 ((rd_T49 l0_1 x5_2).f2).length c198_2] 49 (0, 0))) := ⟨by (with_reducible repeat first | apply blk_drewN | apply blk_drew | apply blk_alloc); refine blk_put (cs := #[.int .i64 ((rd_T49 l0_1 x5_2).f0), .int .i64 ((rd_T49 l0_1 x5_2).f1), .slice none 0 0]) ?_ 2 _ rfl; (with_reducible repeat first | apply blk_drewN | apply blk_drew | apply blk_alloc); refine blk_put (cs := #[.int .i64 ((rd_T49 l0_1 x5_2).f0), .int .i64 0, .slice none 0 0]) ?_ 1 _ rfl; (with_reducible repeat first | apply blk_drewN | apply blk_drew | apply blk_alloc); refine blk_put (cs := #[.int .i64 0, .int .i64 0, .slice none 0 0]) ?_ 0 _ rfl; (with_reducible repeat first | apply blk_drewN | apply blk_drew | apply blk_alloc); exact BK199.out⟩
             have n2_ : Aside0 (Below w.heap.size w (((w27.setCell ⟨gb199, 0, none⟩ (.int .i64 ((rd_T49 l0_1 x5_2).f0))).setCell ⟨gb199, 1, none⟩ (.int .i64 ((rd_T49 l0_1 x5_2).f1))).setCell ⟨gb199, 2, none⟩ (.slice A198_2 ((rd_T49 l0_1 x5_2).f2).length c198_2))) := ⟨by repeat (first | (with_reducible first | exact HB.out | apply below_alloc | apply pw_below_drewN | apply below_drew1 | refine below_set ?_ GE193.out | refine below_set ?_ GE199.out) | exact HB.out)⟩
             (try clear BK193)
             (try clear BK199)
             (try clear HB)
             generalize (((w27.setCell ⟨gb199, 0, none⟩ (.int .i64 ((rd_T49 l0_1 x5_2).f0))).setCell ⟨gb199, 1, none⟩ (.int .i64 ((rd_T49 l0_1 x5_2).f1))).setCell ⟨gb199, 2, none⟩ (.slice A198_2 ((rd_T49 l0_1 x5_2).f2).length c198_2)) = w30 at n0_ n1_ n2_ ⊢
             have BK193 := n0_
             have BK199 := n1_
             have HB := n2_
             clear n0_ n1_ n2_
             have n0_ := Aside0.mk (blk_drew BK193.out)
             have n1_ := Aside0.mk (blk_drew BK199.out)
             have n2_ := Aside0.mk (below_drew1 HB.out)
             clear BK193
             clear BK199
             clear HB
             have BK193 := n0_
             have BK199 := n1_
             have HB := n2_
             clear n0_ n1_ n2_
             refine start_ (n := 14) (S := fun w' => w'.cell? ⟨gb199, 0, none⟩ = some (.int .i64 ((rd_T49 l0_1 x5_2).f0)) ∧ w'.cell? ⟨gb199, 1, none⟩ = some (.int .i64 ((rd_T49 l0_1 x5_2).f1)) ∧ w'.cell? ⟨gb199, 2, none⟩ = some (.slice A198_2 ((rd_T49 l0_1 x5_2).f2).length c198_2)) (ds := []) mz25_22 (by kernel_rfl) rfl rfl ⟨(blk_cell BK199.out 0).trans rfl, (blk_cell BK199.out 1).trans rfl, (blk_cell BK199.out 2).trans rfl⟩ (fun hHeld => ?_); refine with_tabW spec_l06Text.tab10 spec_l06Text.bits10 (fun HT_ HW_ => ?_)
             generalize w30.drew = w31 at BK193 BK199 HB hHeld ⊢
             refine pu_z25 0 (some 47) ?_ mz25_23 rfl rfl (any_of HT_.out (by kernel_rfl)) (fun _ _ _ h => h) (Or.inl ⟨by rfl, ?_⟩) ?_ ?_ ?_
             (rotate_left; ·(intro w'; go_simp; with_reducible rfl)); (rotate_left; ·(simp only [Act.put, pq_z25]; rfl))
             refine pu_z25 2 (some 49) ?_ mz25_24 rfl rfl (any_of HT_.out (by kernel_rfl)) (fun _ _ _ h => h) (Or.inl ⟨by rfl, ?_⟩) ?_ ?_ ?_
             (rotate_left; ·(intro w'; go_simp; with_reducible rfl)); (rotate_left; ·(simp only [Act.put, pq_z25]; rfl))
             refine pu_z25 8 (some 55) ?_ mz25_25 rfl rfl (any_of HT_.out (by kernel_rfl)) (fun _ _ _ h => h) (Or.inl ⟨by rfl, ?_⟩) ?_ ?_ ?_
             (rotate_left; ·(intro w'; go_simp; with_reducible rfl)); (rotate_left; ·(simp only [Act.put, pq_z25]; rfl))
             refine take_ (i := 3) (N := some 50) (v := ?_) (a' := ?_) mz25_26 rfl rfl (take_ofW HT_.out HW_.out (by kernel_rfl)) (fun _ _ _ h => h) (Or.inl ⟨by rfl, ?_⟩) hHeld ?_ ?_
             (rotate_left; ·(rintro w' ⟨s0, s1, s2⟩; go_simp; with_reducible rfl)); (rotate_left; ·(simp only [Act.put, pq_z25]; rfl))
             refine pu_z25 4 (some 51) ?_ mz25_27 rfl rfl (any_of HT_.out (by kernel_rfl)) (fun _ _ _ h => h) (Or.inl ⟨by rfl, ?_⟩) ?_ ?_ ?_
             (rotate_left; ·(intro w'; go_simp; with_reducible rfl)); (rotate_left; ·(simp only [Act.put, pq_z25]; rfl))
             refine take_ (i := 9) (N := some 56) (v := ?_) (a' := ?_) mz25_28 rfl rfl (take_ofW HT_.out HW_.out (by kernel_rfl)) (fun _ _ _ h => h) (Or.inl ⟨by rfl, ?_⟩) hHeld ?_ ?_
             (rotate_left; ·(rintro w' ⟨s0, s1, s2⟩; go_simp; with_reducible rfl)); (rotate_left; ·(simp only [Act.put, pq_z25]; rfl))
             refine join_ (σ := Value × Addr) 3 mz25_29 (fun s_ => [(48, s_.1), (53, .string (rdOf ByteArray.empty y200 (ji19))), (57, .string t204), (52, .pointer (some (s_.2.add ((ji19)).toNat))), (54, .string ((rdOf ByteArray.empty y200 (ji19)) ++ (⟨#[32]⟩ : ByteArray)))]) (fun s_ w' => (w'.cell? ⟨gb199, 0, none⟩ = some (.int .i64 ((rd_T49 l0_1 x5_2).f0)) ∧ w'.cell? ⟨gb199, 1, none⟩ = some (.int .i64 ((rd_T49 l0_1 x5_2).f1)) ∧ w'.cell? ⟨gb199, 2, none⟩ = some (.slice A198_2 ((rd_T49 l0_1 x5_2).f2).length c198_2)) ∧ (Kd.R Kd.string 9 w' w.heap.size (fun _ => True) s_.1 y200) ∧ (∃ c_, (s_.1 : Value) = .slice (some s_.2) y200.length c_) ∧ (w'.heap[gb193]? = some (.cells #[.slice A0_0 l0_0.length c0_0, .slice (some ad198) l0_1.length c0_1] 25 (0, 0))) ∧ (w'.heap[gb199]? = some (.cells #[.int .i64 ((rd_T49 l0_1 x5_2).f0), .int .i64 ((rd_T49 l0_1 x5_2).f1), .slice A198_2 ((rd_T49 l0_1 x5_2).f2).length c198_2] 49 (0, 0))) ∧ (Below w.heap.size w w')) ?_ ?_
             rotate_left
             ·intro hCont
              refine two_ (i := 1) (j := 10) (Ni := some 48) (Nj := some 57) mz25_30 mz25_31 rfl rfl rfl rfl (two_of HT_.out (by kernel_rfl)) (by decide) (by decide) (fun K hK => ?_) (fun K hK => ?_)
              ·skip
               refine Kd.R_lit_step Kd.string _ 9 ?hg (N := 48) ?hd (xs := ([(⟨#[104, 111, 115, 116]⟩ : ByteArray), (⟨#[114, 97, 99, 107]⟩ : ByteArray), (⟨#[114, 111, 111, 116]⟩ : ByteArray)] : List ByteArray)) (inner := [.string (⟨#[104, 111, 115, 116]⟩ : ByteArray), .string (⟨#[114, 97, 99, 107]⟩ : ByteArray), .string (⟨#[114, 111, 111, 116]⟩ : ByteArray)]) (ok := fun _ => True) (okp := fun _ => True) ?hr ?hp (fun _ hk => hk) trivial (Below.refl _ _) (Nat.le_refl _) (by simp) ?_; (case hd => rfl); (case hg => rfl); (case hr => first | (go_simp; done) | (go_simp; rfl)); (case hp => exact (Reps.one (show Kd.M Kd.string _ _ _ (⟨#[104, 111, 115, 116]⟩ : ByteArray) [.string (⟨#[104, 111, 115, 116]⟩ : ByteArray)] from rfl) (Reps.one (show Kd.M Kd.string _ _ _ (⟨#[114, 97, 99, 107]⟩ : ByteArray) [.string (⟨#[114, 97, 99, 107]⟩ : ByteArray)] from rfl) (Reps.one (show Kd.M Kd.string _ _ _ (⟨#[114, 111, 111, 116]⟩ : ByteArray) [.string (⟨#[114, 111, 111, 116]⟩ : ByteArray)] from rfl) (Reps.none _ _)))))
               intro v201 w32 ho33 hb hg_ hnew_
               clear hg_ hnew_
               (first | rw [← Ny200.out] at ho33 | (simp only [Int.reduceToNat] at ho33; rw [← Ny200.out] at ho33))
               have n0_ := Aside0.mk (Kd.R_lower ho33 (below_size (by repeat (first | (with_reducible first | exact HB.out | apply below_alloc | apply pw_below_drewN | apply below_drew1 | refine below_set ?_ GE193.out | refine below_set ?_ GE199.out) | exact HB.out))))
               have n1_ := Aside0.mk (blk_below (g := gb193) (o := .cells #[.slice A0_0 l0_0.length c0_0, .slice (some ad198) l0_1.length c0_1] 25 (0, 0)) (by (with_reducible repeat first | apply blk_drewN | apply blk_drew | apply blk_alloc); exact BK193.out) hb)
               have n2_ := Aside0.mk (blk_below (g := gb199) (o := .cells #[.int .i64 ((rd_T49 l0_1 x5_2).f0), .int .i64 ((rd_T49 l0_1 x5_2).f1), .slice A198_2 ((rd_T49 l0_1 x5_2).f2).length c198_2] 49 (0, 0)) (by (with_reducible repeat first | apply blk_drewN | apply blk_drew | apply blk_alloc); exact BK199.out) hb)
               have n3_ := Aside0.mk (below_step (by repeat (first | (with_reducible first | exact HB.out | apply below_alloc | apply pw_below_drewN | apply below_drew1 | refine below_set ?_ GE193.out | refine below_set ?_ GE199.out) | exact HB.out)) hb)
               clear BK193
               clear BK199
               clear HB
               have HO202 := n0_
               have BK193 := n1_
               have BK199 := n2_
               have HB := n3_
               clear n0_ n1_ n2_ n3_
               clear hb ho33
               obtain ⟨Ao34, co34, eo34⟩ := Kd.R_slice HO202.out
               subst eo34
               obtain ⟨ado34, fo34, _⟩ := Kd.at_string (Kd.R_reads' HO202.out).2.2 0 (by decide) (by rw [Ny200.out]; simp)
               cases fo34
               refine hK.out _ _ ⟨(blk_cell BK199.out 0).trans rfl, (blk_cell BK199.out 1).trans rfl, (blk_cell BK199.out 2).trans rfl⟩ (fun hHeld => ?_)
               clear hK K
               refine norm_ (a' := ?_) ?_ ?_
               (rotate_left; ·(show Act.put _ (some 48) _ = _; simp only [Act.put, pq_z25]; rfl))
               refine pu_z25 5 (some 52) ?_ mz25_32 rfl rfl (any_of HT_.out (by kernel_rfl)) (fun _ _ _ h => h) (Or.inl ⟨by rfl, ?_⟩) ?_ ?_ ?_
               (rotate_left; ·(intro w'; go_simp; with_reducible rfl)); (rotate_left; ·(simp only [Act.put, pq_z25]; rfl))
               refine two_ (i := 6) (j := 10) (Ni := some 53) (Nj := some 57) mz25_33 mz25_34 rfl rfl rfl rfl (two_of HT_.out (by kernel_rfl)) (by decide) (by decide) (fun K hK => ?_) (fun K hK => ?_)
               ·skip
                (have p203 : 0 ≤ ((ji19) : Int) := of_decide_eq_true (by assumption); have q203 : (ji19) < (y200.length : Int) := of_decide_eq_true (by assumption); obtain ⟨ad203, e203, hx203_0⟩ := Kd.at_string (Kd.R_reads' HO202.out).2.2 (ji19) p203 q203; obtain rfl : ado34 = ad203 := (by injection e203))
                refine value_ (w1 := ?_) (v := ?_) (by rfl) rfl ?_ ?_
                rotate_left 2
                ·go_simp
                 constructor
                 ·rfl
                 ·rfl
                clear hx203_0
                refine hK.out _ _ ⟨(blk_cell BK199.out 0).trans rfl, (blk_cell BK199.out 1).trans rfl, (blk_cell BK199.out 2).trans rfl⟩ (fun hHeld => ?_)
                clear hK K
                refine norm_ (a' := ?_) ?_ ?_
                (rotate_left; ·(show Act.put _ (some 53) _ = _; simp only [Act.put, pq_z25]; rfl))
                refine pu_z25 7 (some 54) ?_ mz25_35 rfl rfl (any_of HT_.out (by kernel_rfl)) (fun _ _ _ h => h) (Or.inl ⟨by rfl, ?_⟩) ?_ ?_ ?_
                (rotate_left; ·(intro w'; go_simp; with_reducible rfl)); (rotate_left; ·(simp only [Act.put, pq_z25]; rfl))
                refine one_ (i := 10) (N := some 57) mz25_29 rfl rfl (one_of HT_.out (by kernel_rfl)) (by decide) (fun K hK => ?_)
                refine goes_ Tryz.func48 (by kernel_rfl) rfl #[.int .i64 ((rd_T49 l0_1 x5_2).f0)] (by rfl) rfl rfl (by (try simp only [List.map_toArray, List.map_cons, List.map_nil]); first | done | rfl | (simp only [List.length_drop, List.length_take]; rfl)) ?_
                with_reducible refine (spec_l06Num.calls k2 ((rd_T49 l0_1 x5_2).f0) t204 _ A23.out).mono ?_
                rintro e w35 ⟨rfl, hb⟩
                refine ⟨_, rfl, ?_⟩
                have n0_ := Aside0.mk (Kd.R_below (by (with_reducible repeat (first | apply Kd.R_alloc | apply Kd.R_drewN | apply Kd.R_drew)); exact HO202.out) hb)
                have n1_ := Aside0.mk (blk_below (g := gb193) (o := .cells #[.slice A0_0 l0_0.length c0_0, .slice (some ad198) l0_1.length c0_1] 25 (0, 0)) (by (with_reducible repeat first | apply blk_drewN | apply blk_drew | apply blk_alloc); exact BK193.out) hb)
                have n2_ := Aside0.mk (blk_below (g := gb199) (o := .cells #[.int .i64 ((rd_T49 l0_1 x5_2).f0), .int .i64 ((rd_T49 l0_1 x5_2).f1), .slice A198_2 ((rd_T49 l0_1 x5_2).f2).length c198_2] 49 (0, 0)) (by (with_reducible repeat first | apply blk_drewN | apply blk_drew | apply blk_alloc); exact BK199.out) hb)
                have n3_ := Aside0.mk (below_step (by repeat (first | (with_reducible first | exact HB.out | apply below_alloc | apply pw_below_drewN | apply below_drew1 | refine below_set ?_ GE193.out | refine below_set ?_ GE199.out) | exact HB.out)) hb)
                clear HO202
                clear BK193
                clear BK199
                clear HB
                have HO202 := n0_
                have BK193 := n1_
                have BK199 := n2_
                have HB := n3_
                clear n0_ n1_ n2_ n3_
                (try clear hb)
                (try clear hb2)
                (try clear hk)
                (try clear hi)
                refine hK.out _ _ ⟨(blk_cell BK199.out 0).trans rfl, (blk_cell BK199.out 1).trans rfl, (blk_cell BK199.out 2).trans rfl⟩ (fun hHeld => ?_)
                clear hK K
                refine norm_ (a' := ?_) ?_ ?_
                (rotate_left; ·(show Act.put _ (some 57) _ = _; simp only [Act.put, pq_z25]; rfl))
                exact norm_ (by simp only [putAll, Act.put, List.setIfInBounds_toArray, List.set_cons_zero, List.set_cons_succ]) (hCont (.slice (some ado34) y200.length co34, ado34) _ ⟨hHeld, (by (with_reducible repeat (first | apply Kd.R_alloc | apply Kd.R_drewN | apply Kd.R_drew)); exact HO202.out), ⟨_, rfl⟩, (by (with_reducible repeat first | apply blk_drewN | apply blk_drew | apply blk_alloc); exact BK193.out), (by (with_reducible repeat first | apply blk_drewN | apply blk_drew | apply blk_alloc); exact BK199.out), (by repeat (first | (with_reducible first | exact HB.out | apply below_alloc | apply pw_below_drewN | apply below_drew1 | refine below_set ?_ GE193.out | refine below_set ?_ GE199.out) | exact HB.out))⟩)
               ·skip
                refine goes_ Tryz.func48 (by kernel_rfl) rfl #[.int .i64 ((rd_T49 l0_1 x5_2).f0)] (by rfl) rfl rfl (by (try simp only [List.map_toArray, List.map_cons, List.map_nil]); first | done | rfl | (simp only [List.length_drop, List.length_take]; rfl)) ?_
                with_reducible refine (spec_l06Num.calls k2 ((rd_T49 l0_1 x5_2).f0) t204 _ A23.out).mono ?_
                rintro e w35 ⟨rfl, hb⟩
                refine ⟨_, rfl, ?_⟩
                have n0_ := Aside0.mk (Kd.R_below (by (with_reducible repeat (first | apply Kd.R_alloc | apply Kd.R_drewN | apply Kd.R_drew)); exact HO202.out) hb)
                have n1_ := Aside0.mk (blk_below (g := gb193) (o := .cells #[.slice A0_0 l0_0.length c0_0, .slice (some ad198) l0_1.length c0_1] 25 (0, 0)) (by (with_reducible repeat first | apply blk_drewN | apply blk_drew | apply blk_alloc); exact BK193.out) hb)
                have n2_ := Aside0.mk (blk_below (g := gb199) (o := .cells #[.int .i64 ((rd_T49 l0_1 x5_2).f0), .int .i64 ((rd_T49 l0_1 x5_2).f1), .slice A198_2 ((rd_T49 l0_1 x5_2).f2).length c198_2] 49 (0, 0)) (by (with_reducible repeat first | apply blk_drewN | apply blk_drew | apply blk_alloc); exact BK199.out) hb)
                have n3_ := Aside0.mk (below_step (by repeat (first | (with_reducible first | exact HB.out | apply below_alloc | apply pw_below_drewN | apply below_drew1 | refine below_set ?_ GE193.out | refine below_set ?_ GE199.out) | exact HB.out)) hb)
                clear HO202
                clear BK193
                clear BK199
                clear HB
                have HO202 := n0_
                have BK193 := n1_
                have BK199 := n2_
                have HB := n3_
                clear n0_ n1_ n2_ n3_
                (try clear hb)
                (try clear hb2)
                (try clear hk)
                (try clear hi)
                refine hK.out _ _ ⟨(blk_cell BK199.out 0).trans rfl, (blk_cell BK199.out 1).trans rfl, (blk_cell BK199.out 2).trans rfl⟩ (fun hHeld => ?_)
                clear hK K
                refine norm_ (a' := ?_) ?_ ?_
                (rotate_left; ·(show Act.put _ (some 57) _ = _; simp only [Act.put, pq_z25]; rfl))
                refine one_ (i := 6) (N := some 53) mz25_36 rfl rfl (one_of HT_.out (by kernel_rfl)) (by decide) (fun K hK => ?_)
                (have p203 : 0 ≤ ((ji19) : Int) := of_decide_eq_true (by assumption); have q203 : (ji19) < (y200.length : Int) := of_decide_eq_true (by assumption); obtain ⟨ad203, e203, hx203_0⟩ := Kd.at_string (Kd.R_reads' HO202.out).2.2 (ji19) p203 q203; obtain rfl : ado34 = ad203 := (by injection e203))
                refine value_ (w1 := ?_) (v := ?_) (by rfl) rfl ?_ ?_
                rotate_left 2
                ·go_simp
                 constructor
                 ·rfl
                 ·rfl
                clear hx203_0
                refine hK.out _ _ ⟨(blk_cell BK199.out 0).trans rfl, (blk_cell BK199.out 1).trans rfl, (blk_cell BK199.out 2).trans rfl⟩ (fun hHeld => ?_)
                clear hK K
                refine norm_ (a' := ?_) ?_ ?_
                (rotate_left; ·(show Act.put _ (some 53) _ = _; simp only [Act.put, pq_z25]; rfl))
                refine pu_z25 7 (some 54) ?_ mz25_29 rfl rfl (any_of HT_.out (by kernel_rfl)) (fun _ _ _ h => h) (Or.inl ⟨by rfl, ?_⟩) ?_ ?_ ?_
                (rotate_left; ·(intro w'; go_simp; with_reducible rfl)); (rotate_left; ·(simp only [Act.put, pq_z25]; rfl))
                exact norm_ (by simp only [putAll, Act.put, List.setIfInBounds_toArray, List.set_cons_zero, List.set_cons_succ]) (hCont (.slice (some ado34) y200.length co34, ado34) _ ⟨hHeld, (by (with_reducible repeat (first | apply Kd.R_alloc | apply Kd.R_drewN | apply Kd.R_drew)); exact HO202.out), ⟨_, rfl⟩, (by (with_reducible repeat first | apply blk_drewN | apply blk_drew | apply blk_alloc); exact BK193.out), (by (with_reducible repeat first | apply blk_drewN | apply blk_drew | apply blk_alloc); exact BK199.out), (by repeat (first | (with_reducible first | exact HB.out | apply below_alloc | apply pw_below_drewN | apply below_drew1 | refine below_set ?_ GE193.out | refine below_set ?_ GE199.out) | exact HB.out))⟩)
              ·skip
               refine goes_ Tryz.func48 (by kernel_rfl) rfl #[.int .i64 ((rd_T49 l0_1 x5_2).f0)] (by rfl) rfl rfl (by (try simp only [List.map_toArray, List.map_cons, List.map_nil]); first | done | rfl | (simp only [List.length_drop, List.length_take]; rfl)) ?_
               with_reducible refine (spec_l06Num.calls k2 ((rd_T49 l0_1 x5_2).f0) t204 _ A23.out).mono ?_
               rintro e w32 ⟨rfl, hb⟩
               refine ⟨_, rfl, ?_⟩
               have n0_ := Aside0.mk (blk_below (g := gb193) (o := .cells #[.slice A0_0 l0_0.length c0_0, .slice (some ad198) l0_1.length c0_1] 25 (0, 0)) (by (with_reducible repeat first | apply blk_drewN | apply blk_drew | apply blk_alloc); exact BK193.out) hb)
               have n1_ := Aside0.mk (blk_below (g := gb199) (o := .cells #[.int .i64 ((rd_T49 l0_1 x5_2).f0), .int .i64 ((rd_T49 l0_1 x5_2).f1), .slice A198_2 ((rd_T49 l0_1 x5_2).f2).length c198_2] 49 (0, 0)) (by (with_reducible repeat first | apply blk_drewN | apply blk_drew | apply blk_alloc); exact BK199.out) hb)
               have n2_ := Aside0.mk (below_step (by repeat (first | (with_reducible first | exact HB.out | apply below_alloc | apply pw_below_drewN | apply below_drew1 | refine below_set ?_ GE193.out | refine below_set ?_ GE199.out) | exact HB.out)) hb)
               clear BK193
               clear BK199
               clear HB
               have BK193 := n0_
               have BK199 := n1_
               have HB := n2_
               clear n0_ n1_ n2_
               (try clear hb)
               (try clear hb2)
               (try clear hk)
               (try clear hi)
               refine hK.out _ _ ⟨(blk_cell BK199.out 0).trans rfl, (blk_cell BK199.out 1).trans rfl, (blk_cell BK199.out 2).trans rfl⟩ (fun hHeld => ?_)
               clear hK K
               refine norm_ (a' := ?_) ?_ ?_
               (rotate_left; ·(show Act.put _ (some 57) _ = _; simp only [Act.put, pq_z25]; rfl))
               refine one_ (i := 1) (N := some 48) mz25_37 rfl rfl (one_of HT_.out (by kernel_rfl)) (by decide) (fun K hK => ?_)
               refine Kd.R_lit_step Kd.string _ 9 ?hg (N := 48) ?hd (xs := ([(⟨#[104, 111, 115, 116]⟩ : ByteArray), (⟨#[114, 97, 99, 107]⟩ : ByteArray), (⟨#[114, 111, 111, 116]⟩ : ByteArray)] : List ByteArray)) (inner := [.string (⟨#[104, 111, 115, 116]⟩ : ByteArray), .string (⟨#[114, 97, 99, 107]⟩ : ByteArray), .string (⟨#[114, 111, 111, 116]⟩ : ByteArray)]) (ok := fun _ => True) (okp := fun _ => True) ?hr ?hp (fun _ hk => hk) trivial (Below.refl _ _) (Nat.le_refl _) (by simp) ?_; (case hd => rfl); (case hg => rfl); (case hr => first | (go_simp; done) | (go_simp; rfl)); (case hp => exact (Reps.one (show Kd.M Kd.string _ _ _ (⟨#[104, 111, 115, 116]⟩ : ByteArray) [.string (⟨#[104, 111, 115, 116]⟩ : ByteArray)] from rfl) (Reps.one (show Kd.M Kd.string _ _ _ (⟨#[114, 97, 99, 107]⟩ : ByteArray) [.string (⟨#[114, 97, 99, 107]⟩ : ByteArray)] from rfl) (Reps.one (show Kd.M Kd.string _ _ _ (⟨#[114, 111, 111, 116]⟩ : ByteArray) [.string (⟨#[114, 111, 111, 116]⟩ : ByteArray)] from rfl) (Reps.none _ _)))))
               intro v201 w33 ho34 hb hg_ hnew_
               clear hg_ hnew_
               (first | rw [← Ny200.out] at ho34 | (simp only [Int.reduceToNat] at ho34; rw [← Ny200.out] at ho34))
               have n0_ := Aside0.mk (Kd.R_lower ho34 (below_size (by repeat (first | (with_reducible first | exact HB.out | apply below_alloc | apply pw_below_drewN | apply below_drew1 | refine below_set ?_ GE193.out | refine below_set ?_ GE199.out) | exact HB.out))))
               have n1_ := Aside0.mk (blk_below (g := gb193) (o := .cells #[.slice A0_0 l0_0.length c0_0, .slice (some ad198) l0_1.length c0_1] 25 (0, 0)) (by (with_reducible repeat first | apply blk_drewN | apply blk_drew | apply blk_alloc); exact BK193.out) hb)
               have n2_ := Aside0.mk (blk_below (g := gb199) (o := .cells #[.int .i64 ((rd_T49 l0_1 x5_2).f0), .int .i64 ((rd_T49 l0_1 x5_2).f1), .slice A198_2 ((rd_T49 l0_1 x5_2).f2).length c198_2] 49 (0, 0)) (by (with_reducible repeat first | apply blk_drewN | apply blk_drew | apply blk_alloc); exact BK199.out) hb)
               have n3_ := Aside0.mk (below_step (by repeat (first | (with_reducible first | exact HB.out | apply below_alloc | apply pw_below_drewN | apply below_drew1 | refine below_set ?_ GE193.out | refine below_set ?_ GE199.out) | exact HB.out)) hb)
               clear BK193
               clear BK199
               clear HB
               have HO202 := n0_
               have BK193 := n1_
               have BK199 := n2_
               have HB := n3_
               clear n0_ n1_ n2_ n3_
               clear hb ho34
               obtain ⟨Ao35, co35, eo35⟩ := Kd.R_slice HO202.out
               subst eo35
               obtain ⟨ado35, fo35, _⟩ := Kd.at_string (Kd.R_reads' HO202.out).2.2 0 (by decide) (by rw [Ny200.out]; simp)
               cases fo35
               refine hK.out _ _ ⟨(blk_cell BK199.out 0).trans rfl, (blk_cell BK199.out 1).trans rfl, (blk_cell BK199.out 2).trans rfl⟩ (fun hHeld => ?_)
               clear hK K
               refine norm_ (a' := ?_) ?_ ?_
               (rotate_left; ·(show Act.put _ (some 48) _ = _; simp only [Act.put, pq_z25]; rfl))
               refine pu_z25 5 (some 52) ?_ mz25_34 rfl rfl (any_of HT_.out (by kernel_rfl)) (fun _ _ _ h => h) (Or.inl ⟨by rfl, ?_⟩) ?_ ?_ ?_
               (rotate_left; ·(intro w'; go_simp; with_reducible rfl)); (rotate_left; ·(simp only [Act.put, pq_z25]; rfl))
               refine one_ (i := 6) (N := some 53) mz25_36 rfl rfl (one_of HT_.out (by kernel_rfl)) (by decide) (fun K hK => ?_)
               (have p203 : 0 ≤ ((ji19) : Int) := of_decide_eq_true (by assumption); have q203 : (ji19) < (y200.length : Int) := of_decide_eq_true (by assumption); obtain ⟨ad203, e203, hx203_0⟩ := Kd.at_string (Kd.R_reads' HO202.out).2.2 (ji19) p203 q203; obtain rfl : ado35 = ad203 := (by injection e203))
               refine value_ (w1 := ?_) (v := ?_) (by rfl) rfl ?_ ?_
               rotate_left 2
               ·go_simp
                constructor
                ·rfl
                ·rfl
               clear hx203_0
               refine hK.out _ _ ⟨(blk_cell BK199.out 0).trans rfl, (blk_cell BK199.out 1).trans rfl, (blk_cell BK199.out 2).trans rfl⟩ (fun hHeld => ?_)
               clear hK K
               refine norm_ (a' := ?_) ?_ ?_
               (rotate_left; ·(show Act.put _ (some 53) _ = _; simp only [Act.put, pq_z25]; rfl))
               refine pu_z25 7 (some 54) ?_ mz25_29 rfl rfl (any_of HT_.out (by kernel_rfl)) (fun _ _ _ h => h) (Or.inl ⟨by rfl, ?_⟩) ?_ ?_ ?_
               (rotate_left; ·(intro w'; go_simp; with_reducible rfl)); (rotate_left; ·(simp only [Act.put, pq_z25]; rfl))
               exact norm_ (by simp only [putAll, Act.put, List.setIfInBounds_toArray, List.set_cons_zero, List.set_cons_succ]) (hCont (.slice (some ado35) y200.length co35, ado35) _ ⟨hHeld, (by (with_reducible repeat (first | apply Kd.R_alloc | apply Kd.R_drewN | apply Kd.R_drew)); exact HO202.out), ⟨_, rfl⟩, (by (with_reducible repeat first | apply blk_drewN | apply blk_drew | apply blk_alloc); exact BK193.out), (by (with_reducible repeat first | apply blk_drewN | apply blk_drew | apply blk_alloc); exact BK199.out), (by repeat (first | (with_reducible first | exact HB.out | apply below_alloc | apply pw_below_drewN | apply below_drew1 | refine below_set ?_ GE193.out | refine below_set ?_ GE199.out) | exact HB.out))⟩)
             rintro ⟨v201, adz_v201⟩ w36 ⟨hS_, h0_, h1_, h2_, h3_, h4_⟩
             have n0_ : Aside0 (Kd.R Kd.string 9 w36 w.heap.size (fun _ => True) v201 y200) := ⟨h0_⟩
             have n1_ : Aside0 (∃ c_, (v201 : Value) = .slice (some adz_v201) y200.length c_) := ⟨h1_⟩
             have n2_ : Aside0 (w36.heap[gb193]? = some (.cells #[.slice A0_0 l0_0.length c0_0, .slice (some ad198) l0_1.length c0_1] 25 (0, 0))) := ⟨h2_⟩
             have n3_ : Aside0 (w36.heap[gb199]? = some (.cells #[.int .i64 ((rd_T49 l0_1 x5_2).f0), .int .i64 ((rd_T49 l0_1 x5_2).f1), .slice A198_2 ((rd_T49 l0_1 x5_2).f2).length c198_2] 49 (0, 0))) := ⟨h3_⟩
             have n4_ : Aside0 (Below w.heap.size w w36) := ⟨h4_⟩
             clear BK193
             clear BK199
             clear HB
             clear h0_ h1_ h2_ h3_ h4_
             have HO202 := n0_
             have HA_HO202 := n1_
             have BK193 := n2_
             have BK199 := n3_
             have HB := n4_
             clear n0_ n1_ n2_ n3_ n4_
             have hHeld : w36.cell? ⟨gb199, 0, none⟩ = some (.int .i64 ((rd_T49 l0_1 x5_2).f0)) ∧ w36.cell? ⟨gb199, 1, none⟩ = some (.int .i64 ((rd_T49 l0_1 x5_2).f1)) ∧ w36.cell? ⟨gb199, 2, none⟩ = some (.slice A198_2 ((rd_T49 l0_1 x5_2).f2).length c198_2) := hS_
             obtain ⟨co37, eo37⟩ := HA_HO202.out
             clear HA_HO202
             subst eo37
             refine norm_ (a' := ?_) ?_ ?_
             rotate_left
             ·simp only [putAll, Act.put, List.setIfInBounds_toArray, List.set_cons_zero, List.set_cons_succ]
              rfl
             refine pu_z25 11 (some 58) ?_ mz25_38 rfl rfl (any_of HT_.out (by kernel_rfl)) (fun _ _ _ h => h) (Or.inl ⟨by rfl, ?_⟩) ?_ ?_ ?_
             (rotate_left; ·(intro w'; go_simp; with_reducible rfl)); (rotate_left; ·(simp only [Act.put, pq_z25]; rfl))
             refine pu_z25 12 (some 59) ?_ mz25_39 rfl rfl (any_of HT_.out (by kernel_rfl)) (fun _ _ _ h => h) (Or.inl ⟨by rfl, ?_⟩) ?_ ?_ ?_
             (rotate_left; ·(intro w'; go_simp; with_reducible rfl)); (rotate_left; ·(simp only [Act.put, pq_z25]; rfl))
             refine pu_z25 13 (some 3) ?_ mz25_40 rfl rfl (any_of HT_.out (by kernel_rfl)) (fun _ _ _ h => h) (Or.inl ⟨by rfl, ?_⟩) ?_ ?_ ?_
             (rotate_left; ·(intro w'; go_simp; with_reducible rfl)); (rotate_left; ·(simp only [Act.put, pq_z25]; rfl))
             refine done_ (done_of HT_.out (by kernel_rfl)) ?_
             try go_wp2
             go_loopg [3, 7] k2 (fun kq v3 v7 w' => ∃ (x3_3 : ByteArray) (x7_3 : Int), v3 = .string x3_3 ∧ v7 = .int .i64 x7_3 ∧ Aside0 (spec_l06Text.l2 kq x3_3 x5_2 x7_3 l0_0 l0_1 ((rd_T49 l0_1 x5_2).f0) ((rd_T49 l0_1 x5_2).f1) ((rd_T49 l0_1 x5_2).f2) = some r) ∧ Aside0 (kq ≤ k2) ∧ Aside0 (w'.heap[gb193]? = some (.cells #[(.slice A0_0 l0_0.length c0_0), (.slice (some ad198) l0_1.length c0_1)] 25 (0, 0))) ∧ Aside0 (w'.heap[gb199]? = some (.cells #[.int .i64 ((rd_T49 l0_1 x5_2).f0), .int .i64 ((rd_T49 l0_1 x5_2).f1), (.slice A198_2 ((rd_T49 l0_1 x5_2).f2).length c198_2)] 49 (0, 0))) ∧ Aside0 (Below w.heap.size w w'))
             case atStart => exact ⟨(x3_2 ++ (((rdOf ByteArray.empty y200 (ji19)) ++ (⟨#[32]⟩ : ByteArray)) ++ t204)), (0), (by first | rfl | (simp; done) | (simp only [← hji19] <;> (first | rfl | simp)) | (simp [*]; done)), (by first | rfl | (simp; done) | (simp [*]; done)), H', ⟨Nat.le_refl _⟩, ⟨by (with_reducible repeat first | apply blk_drewN | apply blk_drew | apply blk_alloc); exact BK193.out⟩, ⟨by (with_reducible repeat first | apply blk_drewN | apply blk_drew | apply blk_alloc); exact BK199.out⟩, ⟨by repeat (first | (with_reducible first | exact HB.out | apply below_alloc | apply pw_below_drewN | apply below_drew1 | refine below_set ?_ GE193.out | refine below_set ?_ GE199.out) | exact HB.out)⟩⟩
             case round =>
              clear H'
              try clear c1
              try clear p1
              try clear q1
              try clear hx1
              try clear c2
              try clear p2
              try clear q2
              try clear hx2
              try clear qi2
              try clear c3
              try clear c3b0
              try clear c4
              try clear c4b0
              try clear c6
              try clear c6b0
              try clear c6b1
              try clear c6b2
              try clear p6
              try clear c7
              try clear c7b0
              try clear c7b1
              try clear c7b2
              try clear c9
              try clear c9b0
              try clear c9b1
              try clear c9b2
              try clear c10
              try clear c10b0
              try clear c10b1
              try clear c10b2
              try clear c11
              try clear c11b0
              try clear c11b1
              try clear c11b2
              try clear c17
              try clear c17b0
              try clear c18
              try clear c18b0
              try clear c19
              try clear p19
              try clear q19
              try clear hx19
              try clear c20
              try clear c20b0
              try clear p20
              try clear q20
              try clear hx20
              try clear qi20
              try clear c21
              try clear c21b0
              try clear c22
              try clear c22b0
              try clear c22b1
              try clear c22b2
              try clear c24
              try clear c24b0
              try clear c24b1
              try clear c24b2
              try clear c25
              try clear c25b0
              try clear c25b1
              try clear c25b2
              try clear c28
              try clear hcz12_0
              try clear hcz12_1
              try clear hcz16_0
              try clear hcz16_1
              try clear hcz26_0
              try clear hcz26_1
              try clear hcz29_0
              try clear hcz29_1
              try clear hcz29_2
              try clear hfz12_0
              try clear hfz12_1
              try clear hfz16_0
              try clear hfz16_1
              try clear hfz26_0
              try clear hfz26_1
              try clear hfz29_0
              try clear hfz29_1
              try clear hfz29_2
              try clear hx194_0
              try clear hx194_1
              try clear hx196_0
              try clear hx196_1
              try clear hx198_0
              try clear hx198_1
              try clear hx198_2
              try clear hx203_0
              try clear p1
              try clear p194
              try clear p196
              try clear p198
              try clear p2
              try clear p203
              try clear p6
              try clear q1
              try clear q194
              try clear q196
              try clear q198
              try clear q203
              obtain ⟨x3_3, x7_3, rfl, rfl, HA, HK3, BK193, BK199, HB⟩ := hrel
              cases gk with
              | zero => exact absurd HA.out (by simp [spec_l06Text.l2])
              | succ k3 =>
               have H := HA.out
               clear HA
               simp only [spec_l06Text.l2] at H
               by_cases c38 : x7_3 < (((rd_T49 l0_1 x5_2).f2).length : Int)
               ·rw [if_pos c38] at H
                have c38b0 : decide (x7_3 < (((rd_T49 l0_1 x5_2).f2).length : Int)) = true := decide_eq_true c38
                clear c38
                by_cases c39 : 0 ≤ x7_3
                ·rw [if_pos c39] at H
                 have c39b0 : decide (0 ≤ x7_3) = true := decide_eq_true c39
                 clear c39
                 replace H := Option.bind_eq_some_iff.mp H
                 obtain ⟨t206, A400, H⟩ := H
                 replace H : (if 1 + t206.size ≤ 9223372036854775807 then (if x3_3.size + ((⟨#[32]⟩ : ByteArray) ++ t206).size ≤ 9223372036854775807 then (spec_l06Text.l2 k3 (x3_3 ++ ((⟨#[32]⟩ : ByteArray) ++ t206)) x5_2 (wrap64 (x7_3 + 1)) l0_0 l0_1 ((rd_T49 l0_1 x5_2).f0) ((rd_T49 l0_1 x5_2).f1) ((rd_T49 l0_1 x5_2).f2)) else (none)) else (none)) = some r := H
                 have A40 := Aside0.mk A400
                 clear A400
                 by_cases c41 : 1 + t206.size ≤ 9223372036854775807
                 ·rw [if_pos c41] at H
                  have c41b0 := eq_true c41
                  have c41b1 : decide (1 + t206.size ≤ 9223372036854775807) = true := decide_eq_true c41
                  try have c41b2 : (9223372036854775807 < 1 + t206.size) = False := eq_false (Nat.not_lt.2 c41)
                  by_cases c42 : x3_3.size + ((⟨#[32]⟩ : ByteArray) ++ t206).size ≤ 9223372036854775807
                  ·rw [if_pos c42] at H
                   have c42b0 := eq_true c42
                   have c42b1 : decide (x3_3.size + ((⟨#[32]⟩ : ByteArray) ++ t206).size ≤ 9223372036854775807) = true := decide_eq_true c42
                   try have c42b2 : (9223372036854775807 < x3_3.size + ((⟨#[32]⟩ : ByteArray) ++ t206).size) = False := eq_false (Nat.not_lt.2 c42)
                   have c42n := c42
                   simp only [ByteArray.size_append, show ((⟨#[104, 111, 115, 116]⟩ : ByteArray).size = 4) from rfl, show ((⟨#[10]⟩ : ByteArray).size = 1) from rfl, show ((⟨#[110, 111, 100, 101, 32]⟩ : ByteArray).size = 5) from rfl, show ((⟨#[114, 111, 111, 116]⟩ : ByteArray).size = 4) from rfl, show ((⟨#[114, 97, 99, 107]⟩ : ByteArray).size = 4) from rfl, show ((⟨#[32]⟩ : ByteArray).size = 1) from rfl, show ((⟨#[]⟩ : ByteArray).size = 0) from rfl] at c42n
                   have c42b3 := eq_false (Nat.not_lt.2 c42n)
                   clear c42n
                   have H' := Aside0.mk H
                   clear H
                   have hnb43 := NB199_193.out
                   have hnc43 := NB193_199.out
                   have hcz44_0 : wr.cell? ⟨gb199, 0, none⟩ = some (.int .i64 ((rd_T49 l0_1 x5_2).f0)) := (blk_cell BK199.out 0).trans rfl
                   have hcz44_1 : wr.cell? ⟨gb199, 1, none⟩ = some (.int .i64 ((rd_T49 l0_1 x5_2).f1)) := (blk_cell BK199.out 1).trans rfl
                   have hcz44_2 : wr.cell? ⟨gb199, 2, none⟩ = some (.slice A198_2 ((rd_T49 l0_1 x5_2).f2).length c198_2) := (blk_cell BK199.out 2).trans rfl
                   have hfz44_0 := blk_frozen BK199.out 0
                   have hfz44_1 := blk_frozen BK199.out 1
                   have hfz44_2 := blk_frozen BK199.out 2
                   have p205 : 0 ≤ (x7_3 : Int) := of_decide_eq_true (by assumption)
                   have q205 : x7_3 < (((rd_T49 l0_1 x5_2).f2).length : Int) := of_decide_eq_true (by assumption)
                   obtain ⟨ad205, e205, hx205_0⟩ := Kd.at_int HR198_2.out x7_3 p205 q205
                   cases e205
                   replace hx205_0 := (HB.out.cell (World.block_lt_of_cell? w _ hx205_0)).trans hx205_0
                   replace p205 := eq_true p205
                   replace q205 := eq_true q205
                   go_wp2_with (first | ((with_reducible refine gate_callee (f := 48) rfl ?_); refine goesL_ (some 73) rfl rfl Tryz.func48 (by kernel_rfl) rfl #[.int .i64 (rd ((rd_T49 l0_1 x5_2).f2) x7_3)] rfl (by (try simp only [List.map_toArray, List.map_cons, List.map_nil]); first | done | rfl | (simp only [List.length_drop, List.length_take]; rfl)) ?_; (with_reducible refine (spec_l06Num.calls k3 (rd ((rd_T49 l0_1 x5_2).f2) x7_3) t206 _ A40.out).mono ?_); rintro e w45 ⟨rfl, hb⟩; refine ⟨_, rfl, ?_⟩; have n0_ := Aside0.mk (blk_below (g := gb193) (o := .cells #[.slice A0_0 l0_0.length c0_0, .slice (some ad198) l0_1.length c0_1] 25 (0, 0)) (by (with_reducible repeat first | apply blk_drewN | apply blk_drew | apply blk_alloc); exact BK193.out) hb); have n1_ := Aside0.mk (blk_below (g := gb199) (o := .cells #[.int .i64 ((rd_T49 l0_1 x5_2).f0), .int .i64 ((rd_T49 l0_1 x5_2).f1), .slice (some ad205) ((rd_T49 l0_1 x5_2).f2).length c198_2] 49 (0, 0)) (by (with_reducible repeat first | apply blk_drewN | apply blk_drew | apply blk_alloc); exact BK199.out) hb); have n2_ := Aside0.mk (below_step (by repeat (first | (with_reducible first | exact HB.out | apply below_alloc | apply pw_below_drewN | apply below_drew1 | refine below_set ?_ GE193.out | refine below_set ?_ GE199.out) | exact HB.out)) hb); clear BK193; clear BK199; clear HB; have BK193 := n0_; have BK199 := n1_; have HB := n2_; clear n0_ n1_ n2_; (try clear hb); (try clear hb2); (try clear hk); (try clear hi)))
                   go_roundg k3
                   case measure => have := HK1.out; have := HK2.out; have := HK3.out; omega
                   case rel => exact ⟨(x3_3 ++ ((⟨#[32]⟩ : ByteArray) ++ t206)), (wrap64 (x7_3 + 1)), (by first | rfl | (simp; done) | (simp [*]; done)), (by first | rfl | (simp; done) | (simp [*]; done)), H', ⟨by have := HK1.out; have := HK2.out; have := HK3.out; omega⟩, ⟨by (with_reducible repeat first | apply blk_drewN | apply blk_drew | apply blk_alloc); exact BK193.out⟩, ⟨by (with_reducible repeat first | apply blk_drewN | apply blk_drew | apply blk_alloc); exact BK199.out⟩, ⟨by repeat (first | (with_reducible first | exact HB.out | apply below_alloc | apply pw_below_drewN | apply below_drew1 | refine below_set ?_ GE193.out | refine below_set ?_ GE199.out) | exact HB.out)⟩⟩
                  ·rw [if_neg c42] at H
                   exact absurd H (by simp)
                 ·rw [if_neg c41] at H
                  exact absurd H (by simp)
                ·rw [if_neg c39] at H
                 exact absurd H (by simp)
               ·rw [if_neg c38] at H
                have c38b0 : decide (x7_3 < (((rd_T49 l0_1 x5_2).f2).length : Int)) = false := decide_eq_false c38
                clear c38
                by_cases c46 : x3_3.size + 1 ≤ 9223372036854775807
                ·rw [if_pos c46] at H
                 have c46b0 := eq_true c46
                 have c46b1 : decide (x3_3.size + 1 ≤ 9223372036854775807) = true := decide_eq_true c46
                 try have c46b2 : (9223372036854775807 < x3_3.size + 1) = False := eq_false (Nat.not_lt.2 c46)
                 have H' := Aside0.mk H
                 clear H
                 have hnb47 := NB199_193.out
                 have hnc47 := NB193_199.out
                 have hcz48_0 : wr.cell? ⟨gb199, 0, none⟩ = some (.int .i64 ((rd_T49 l0_1 x5_2).f0)) := (blk_cell BK199.out 0).trans rfl
                 have hcz48_1 : wr.cell? ⟨gb199, 1, none⟩ = some (.int .i64 ((rd_T49 l0_1 x5_2).f1)) := (blk_cell BK199.out 1).trans rfl
                 have hcz48_2 : wr.cell? ⟨gb199, 2, none⟩ = some (.slice A198_2 ((rd_T49 l0_1 x5_2).f2).length c198_2) := (blk_cell BK199.out 2).trans rfl
                 have hfz48_0 := blk_frozen BK199.out 0
                 have hfz48_1 := blk_frozen BK199.out 1
                 have hfz48_2 := blk_frozen BK199.out 2
                 go_wp2
                 go_roundg k3
                 case measure => have := HK1.out; have := HK2.out; have := HK3.out; omega
                 case rel => exact ⟨(x3_3 ++ (⟨#[10]⟩ : ByteArray)), (wrap64 (x5_2 + 1)), (by first | rfl | (simp; done) | (simp [*]; done)), (by first | rfl | (simp; done) | (simp [*]; done)), H', ⟨by have := HK1.out; have := HK2.out; have := HK3.out; omega⟩, ⟨by (with_reducible repeat first | apply blk_drewN | apply blk_drew | apply blk_alloc); exact BK193.out⟩, ⟨by repeat (first | (with_reducible first | exact HB.out | apply below_alloc | apply pw_below_drewN | apply below_drew1 | refine below_set ?_ GE193.out | refine below_set ?_ GE199.out) | exact HB.out)⟩⟩
                ·rw [if_neg c46] at H
                 exact absurd H (by simp)
            ·rw [if_neg c25] at H
             exact absurd H (by simp)
           ·rw [if_neg c24] at H
            exact absurd H (by simp)
          ·rw [if_neg c22] at H
           exact absurd H (by simp)
         ·rw [if_neg c21] at H
          exact absurd H (by simp)
        ·rw [if_neg c20] at H
         exact absurd H (by simp)
       ·rw [if_neg c18] at H
        exact absurd H (by simp)
      ·rw [if_neg c17] at H
       have c17b0 : decide (x5_2 < (l0_1.length : Int)) = false := decide_eq_false c17
       clear c17
       obtain rfl := Option.some.inj H
       have hcz49_0 : wr.cell? ⟨gb193, 0, none⟩ = some (.slice A0_0 l0_0.length c0_0) := (blk_cell BK193.out 0).trans rfl
       have hcz49_1 : wr.cell? ⟨gb193, 1, none⟩ = some (.slice A0_1 l0_1.length c0_1) := (blk_cell BK193.out 1).trans rfl
       have hfz49_0 := blk_frozen BK193.out 0
       have hfz49_1 := blk_frozen BK193.out 1
       go_wp2
       go_ret
       exact ⟨by first | rfl | (simp [*, errW_none, errW_some] <;> rfl), by repeat (first | (with_reducible first | exact HB.out | apply below_alloc | apply pw_below_drewN | apply below_drew1 | refine below_set ?_ GE193.out) | exact HB.out)⟩

end Go.Proofs.YtohjpgcmhihdhaaGreatDoor.Q
