/- Walks of the Go functions that the laws call: each returns what a plain Lean function says. Written by a program for these claims. -/
import Derived.Test.YtbofikjgileanaaQ0
import Derived.Test.YtbofikjgileanaaQf17
import Derived.Test.YtbofikjgileanaaQf19
import Derived.Test.YtbofikjgileanaaQf21
import Derived.Test.YtbofikjgileanaaQf22
import Derived.Test.YtbofikjgileanaaQf23
import Derived.Test.YtbofikjgileanaaQf24
namespace Go.Proofs.Ytbofikjgileanaa.Q
open Go.RowKit Go.Proofs.YtbofikjgileanaaW.PrintWords Go.Proofs.YtbofikjgileanaaW.PrintLast Go.Proofs.YtbofikjgileanaaW.PrintMore
attribute [local go_sem] max2_int min2_int max_two min_two max_three min_three max_four min_four   -- for this text's walks alone
set_option linter.unusedVariables false
set_option linter.unusedSimpArgs false

/-! ### laws_FnExactRuleOk: function 4 -/
def laws_FnExactRuleOk.f (k : Nat) (l0_0 : List (S116)) (l0_1 : List (S113)) (a1_0 : Int) (a1_1 : Int) (a1_2 : Int) (a1_3 : Bool) : Option (Bool) := (laws_szTree.f k l0_0 l0_1 1048576).bind fun t266 => (if t266 < 0 then (some true) else ((laws_toTree.f k l0_0 l0_1).bind fun bt267 => ((laws_toRule.f a1_0 a1_1 a1_2 a1_3).bind fun bt273 => ((spec_RuleOk.f k bt267.1 bt267.2 bt273.1 bt273.2.1 bt273.2.2.1 bt273.2.2.2).bind fun t277 => ((laws_toTree.f k l0_0 l0_1).bind fun bt278 => ((laws_toRule.f a1_0 a1_1 a1_2 a1_3).bind fun bt285 => ((impl_RuleOk.f k bt278.1 bt278.2 bt285.1 bt285.2.1 bt285.2.2.1 bt285.2.2.2).bind fun t289 => (if (t289 != t277) = true then (some false) else ((laws_toTree.f k l0_0 l0_1).bind fun bt290 => ((laws_eqTree.f k bt278.1 bt278.2 bt290.1 bt290.2).bind fun t296 => (if t296 = true then (some true) else (some false))))))))))))
theorem pu_z4 {P : Program} {ops : Array Oper} {Q : Exit → Act → World → Prop} {md : Region.Mode} {S : World → Prop} {ds : List Nat} {oi : Oper} {fuel : Nat} {l : Array Bool} {a : Act} {w : World} (i : Nat) (N : Option Tmp) (v : Value) (l' : Array Bool) (hi : ops[i]? = some oi) (hN : oi.dst = N) (hc : anyB md ops l l' i = true)
    (hQ : ∀ c a w, Q (.panic c) (a.put oi.dst v) w → Q (.panic c) a w) (hy : Yields P ops oi v a) (a' : Act) (ha : a.put N v = a')
    (h : wpAnyLast P md ops Q S ds fuel l' a' w) : wpAnyLast P md ops Q S ds (fuel + 1) l a w := pure_ l' hi hN hc hQ hy ha h
theorem pq_z4 : (∀ (l : List Value) (i : Nat) (v : Value), l.toArray.setIfInBounds i v = (l.set i v).toArray) ∧ (∀ (x v : Value) (xs : List Value), (x :: xs).set 0 v = v :: xs) ∧ (∀ (x v : Value) (xs : List Value) (n : Nat), (x :: xs).set (n + 1) v = x :: xs.set n v) ∧ (∀ n : Int, IntKind.i64.wrap n = Go.RowKit.wrap64 n) ∧ (∀ n : Int, IntKind.i32.wrap n = Go.RowKit.wrap32 n) :=
  ⟨fun l i v => List.setIfInBounds_toArray l i v, fun _ _ _ => rfl, fun _ _ _ _ => rfl, i64_w, i32_w⟩
set_option maxHeartbeats 8000000 in
set_option maxRecDepth 100000 in
theorem laws_FnExactRuleOk.calls (k : Nat) (A0_0 : Option Addr) (c0_0 : Nat) (l0_0 : List (S116)) (A0_1 : Option Addr) (c0_1 : Nat) (l0_1 : List (S113)) (a1_0 : Int) (a1_1 : Int) (a1_2 : Int) (a1_3 : Bool) (r : Bool) (w : World) (hr0_0 : Kd.C k116 w A0_0 l0_0.length l0_0) (hc0_0 : l0_0.length ≤ c0_0) (hr0_1 : Kd.C k113 w A0_1 l0_1.length l0_1) (hc0_1 : l0_1.length ≤ c0_1) (h : laws_FnExactRuleOk.f k l0_0 l0_1 a1_0 a1_1 a1_2 a1_3 = some r) :
  Calls Try.prog 4 #[.agg #[.slice A0_0 l0_0.length c0_0, .slice A0_1 l0_1.length c0_1], .agg #[.int .i64 a1_0, .int .i64 a1_1, .int .i64 a1_2, .bool a1_3]] w fun e w' => e = .returned (.bool r) ∧ Below w.heap.size w w' := by
 have hu25 := Try.underlying25
 have hu36 := Try.underlying36
 have hu31 := Try.underlying31
 have HR0_0 := Aside0.mk hr0_0
 have HC0_0 := Aside0.mk hc0_0
 clear hr0_0 hc0_0
 have HR0_1 := Aside0.mk hr0_1
 have HC0_1 := Aside0.mk hc0_1
 clear hr0_1 hc0_1
 have HB := Aside0.mk (Below.refl w.heap.size w)
 have H : ((laws_szTree.f k l0_0 l0_1 1048576).bind fun t266 => (if t266 < 0 then (some true) else ((laws_toTree.f k l0_0 l0_1).bind fun bt267 => ((laws_toRule.f a1_0 a1_1 a1_2 a1_3).bind fun bt273 => ((spec_RuleOk.f k bt267.1 bt267.2 bt273.1 bt273.2.1 bt273.2.2.1 bt273.2.2.2).bind fun t277 => ((laws_toTree.f k l0_0 l0_1).bind fun bt278 => ((laws_toRule.f a1_0 a1_1 a1_2 a1_3).bind fun bt285 => ((impl_RuleOk.f k bt278.1 bt278.2 bt285.1 bt285.2.1 bt285.2.2.1 bt285.2.2.2).bind fun t289 => (if (t289 != t277) = true then (some false) else ((laws_toTree.f k l0_0 l0_1).bind fun bt290 => ((laws_eqTree.f k bt278.1 bt278.2 bt290.1 bt290.2).bind fun t296 => (if t296 = true then (some true) else (some false))))))))))))) = some r := h
 clear h
 replace H := Option.bind_eq_some_iff.mp H
 obtain ⟨t266, A30, H⟩ := H
 replace H : (if t266 < 0 then (some true) else ((laws_toTree.f k l0_0 l0_1).bind fun bt267 => ((laws_toRule.f a1_0 a1_1 a1_2 a1_3).bind fun bt273 => ((spec_RuleOk.f k bt267.1 bt267.2 bt273.1 bt273.2.1 bt273.2.2.1 bt273.2.2.2).bind fun t277 => ((laws_toTree.f k l0_0 l0_1).bind fun bt278 => ((laws_toRule.f a1_0 a1_1 a1_2 a1_3).bind fun bt285 => ((impl_RuleOk.f k bt278.1 bt278.2 bt285.1 bt285.2.1 bt285.2.2.1 bt285.2.2.2).bind fun t289 => (if (t289 != t277) = true then (some false) else ((laws_toTree.f k l0_0 l0_1).bind fun bt290 => ((laws_eqTree.f k bt278.1 bt278.2 bt290.1 bt290.2).bind fun t296 => (if t296 = true then (some true) else (some false)))))))))))) = some r := H
 have A3 := Aside0.mk A30
 clear A30
 by_cases c4 : t266 < 0
 ·rw [if_pos c4] at H
  have c4b0 : decide (t266 < 0) = true := decide_eq_true c4
  clear c4
  obtain rfl := Option.some.inj H
  go_enter Try.func4, Try.ntmps4
  go_wp2_with (first | ((with_reducible refine gate_dst (N := 2) rfl ?_); refine box_event ?hg (N := 2) ?hd (cs := #[.slice A0_0 l0_0.length c0_0, .slice A0_1 l0_1.length c0_1]) (t := 25) ?hr ?_; (case hd => rfl); (case hg => rfl); (case hr => first | (go_simp; done) | (go_simp; rfl)); intro gb264 hg w5 hbox hb; have n0_ := Aside0.mk (below_step (by repeat first | exact HB.out | apply below_alloc | apply pw_below_drewN | apply below_drew1) hb); have n1_ := Aside0.mk (hbox); have n2_ := Aside0.mk ((by rw [hg]; exact (below_size (by repeat first | exact HB.out | apply below_alloc | apply pw_below_drewN | apply below_drew1)) : w.heap.size ≤ gb264)); have n3_ := Aside0.mk ((by rw [hg]; exact (below_size (by repeat first | exact HB.out | apply below_alloc | apply pw_below_drewN | apply below_drew1)) : w.heap.size ≤ gb264)); clear HB; have HB := n0_; have BK264 := n1_; have GW264 := n2_; have GE264 := n3_; clear n0_ n1_ n2_ n3_; clear hb hbox hg) | ((with_reducible refine gate_dst (N := 3) rfl ?_); refine box_event ?hg (N := 3) ?hd (cs := #[.int .i64 a1_0, .int .i64 a1_1, .int .i64 a1_2, .bool a1_3]) (t := 36) ?hr ?_; (case hd => rfl); (case hg => rfl); (case hr => first | (go_simp; done) | (go_simp; rfl)); intro gb265 hg w6 hbox hb; have n0_ := Aside0.mk (blk_below (g := gb264) (o := .cells #[.slice A0_0 l0_0.length c0_0, .slice A0_1 l0_1.length c0_1] 25 (0, 0)) (by (with_reducible repeat first | apply blk_drewN | apply blk_drew | apply blk_alloc); exact BK264.out) hb); have n1_ := Aside0.mk (below_step (by repeat (first | (with_reducible first | exact HB.out | apply below_alloc | apply pw_below_drewN | apply below_drew1 | refine below_set ?_ GE264.out) | exact HB.out)) hb); have n2_ := Aside0.mk (hbox); have n3_ := Aside0.mk ((by rw [hg]; exact (below_size (by repeat (first | (with_reducible first | exact HB.out | apply below_alloc | apply pw_below_drewN | apply below_drew1 | refine below_set ?_ GE264.out) | exact HB.out))) : w.heap.size ≤ gb265)); have n4_ := Aside0.mk ((by rw [hg]; exact (below_size (by repeat (first | (with_reducible first | exact HB.out | apply below_alloc | apply pw_below_drewN | apply below_drew1 | refine below_set ?_ GE264.out) | exact HB.out))) : w.heap.size ≤ gb265)); have n5_ := Aside0.mk ((by rw [hg]; exact Nat.ne_of_lt (blk_lt (g := gb264) (o := .cells #[.slice A0_0 l0_0.length c0_0, .slice A0_1 l0_1.length c0_1] 25 (0, 0)) (by (with_reducible repeat first | apply blk_drewN | apply blk_drew | apply blk_alloc); exact BK264.out)) : gb264 ≠ gb265)); have n6_ := Aside0.mk ((by rw [hg]; exact Nat.ne_of_gt (blk_lt (g := gb264) (o := .cells #[.slice A0_0 l0_0.length c0_0, .slice A0_1 l0_1.length c0_1] 25 (0, 0)) (by (with_reducible repeat first | apply blk_drewN | apply blk_drew | apply blk_alloc); exact BK264.out)) : gb265 ≠ gb264)); clear BK264; clear HB; have BK264 := n0_; have HB := n1_; have BK265 := n2_; have GW265 := n3_; have GE265 := n4_; have NB264_265 := n5_; have NB265_264 := n6_; clear n0_ n1_ n2_ n3_ n4_ n5_ n6_; clear hb hbox hg; have hnb7 := NB264_265.out; have hnc7 := NB265_264.out; have hcz8_0 : w6.cell? ⟨gb264, 0, none⟩ = some (.slice A0_0 l0_0.length c0_0) := (blk_cell BK264.out 0).trans rfl; have hcz8_1 : w6.cell? ⟨gb264, 1, none⟩ = some (.slice A0_1 l0_1.length c0_1) := (blk_cell BK264.out 1).trans rfl; have hfz8_0 := blk_frozen BK264.out 0; have hfz8_1 := blk_frozen BK264.out 1) | ((with_reducible refine gate_callee (f := 17) rfl ?_); refine goesL_ (some 11) rfl rfl Try.func17 (by kernel_rfl) rfl #[.agg #[.slice A0_0 l0_0.length c0_0, .slice A0_1 l0_1.length c0_1], .int .i64 1048576] rfl (by (try simp only [List.map_toArray, List.map_cons, List.map_nil]); first | done | rfl | (simp only [List.length_drop, List.length_take]; rfl)) ?_; (with_reducible refine (laws_szTree.calls k _ _ l0_0 _ _ l0_1 1048576 t266 _ ?side1 ?side2 ?side3 ?side4 A3.out).mono ?_); (case side1 => repeat (first | exact (Kd.C_below HR0_0.out HB.out) | (with_reducible refine Kd.C_alloc ?_ _) | (with_reducible refine Kd.C_drewN ?_ _) | (with_reducible refine Kd.C_drew ?_))); (case side2 => exact HC0_0.out); (case side3 => repeat (first | exact (Kd.C_below HR0_1.out HB.out) | (with_reducible refine Kd.C_alloc ?_ _) | (with_reducible refine Kd.C_drewN ?_ _) | (with_reducible refine Kd.C_drew ?_))); (case side4 => exact HC0_1.out); rintro e w9 ⟨rfl, hb⟩; refine ⟨_, rfl, ?_⟩; have n0_ := Aside0.mk (blk_below (g := gb264) (o := .cells #[.slice A0_0 l0_0.length c0_0, .slice A0_1 l0_1.length c0_1] 25 (0, 0)) (by (with_reducible repeat first | apply blk_drewN | apply blk_drew | apply blk_alloc); exact BK264.out) hb); have n1_ := Aside0.mk (blk_below (g := gb265) (o := .cells #[.int .i64 a1_0, .int .i64 a1_1, .int .i64 a1_2, .bool a1_3] 36 (0, 0)) (by (with_reducible repeat first | apply blk_drewN | apply blk_drew | apply blk_alloc); exact BK265.out) hb); have n2_ := Aside0.mk (below_step (by repeat (first | (with_reducible first | exact HB.out | apply below_alloc | apply pw_below_drewN | apply below_drew1 | refine below_set ?_ GE264.out | refine below_set ?_ GE265.out) | exact HB.out)) hb); clear BK264; clear BK265; clear HB; have BK264 := n0_; have BK265 := n1_; have HB := n2_; clear n0_ n1_ n2_; (try clear hb); (try clear hb2); (try clear hk); (try clear hi)))
  go_ret
  exact ⟨by first | rfl | (simp [*, errW_none, errW_some] <;> rfl), by repeat (first | (with_reducible first | exact HB.out | apply below_alloc | apply pw_below_drewN | apply below_drew1 | refine below_set ?_ GE264.out | refine below_set ?_ GE265.out) | exact HB.out)⟩
 ·rw [if_neg c4] at H
  have c4b0 : decide (t266 < 0) = false := decide_eq_false c4
  clear c4
  replace H := Option.bind_eq_some_iff.mp H
  obtain ⟨⟨t267, t270⟩, A100, H⟩ := H
  replace H : ((laws_toRule.f a1_0 a1_1 a1_2 a1_3).bind fun bt273 => ((spec_RuleOk.f k t267 t270 bt273.1 bt273.2.1 bt273.2.2.1 bt273.2.2.2).bind fun t277 => ((laws_toTree.f k l0_0 l0_1).bind fun bt278 => ((laws_toRule.f a1_0 a1_1 a1_2 a1_3).bind fun bt285 => ((impl_RuleOk.f k bt278.1 bt278.2 bt285.1 bt285.2.1 bt285.2.2.1 bt285.2.2.2).bind fun t289 => (if (t289 != t277) = true then (some false) else ((laws_toTree.f k l0_0 l0_1).bind fun bt290 => ((laws_eqTree.f k bt278.1 bt278.2 bt290.1 bt290.2).bind fun t296 => (if t296 = true then (some true) else (some false)))))))))) = some r := H
  have A10 := Aside0.mk A100
  clear A100
  replace H := Option.bind_eq_some_iff.mp H
  obtain ⟨⟨t273, t274, t275, t276⟩, A110, H⟩ := H
  replace H : ((spec_RuleOk.f k t267 t270 t273 t274 t275 t276).bind fun t277 => ((laws_toTree.f k l0_0 l0_1).bind fun bt278 => ((laws_toRule.f a1_0 a1_1 a1_2 a1_3).bind fun bt285 => ((impl_RuleOk.f k bt278.1 bt278.2 bt285.1 bt285.2.1 bt285.2.2.1 bt285.2.2.2).bind fun t289 => (if (t289 != t277) = true then (some false) else ((laws_toTree.f k l0_0 l0_1).bind fun bt290 => ((laws_eqTree.f k bt278.1 bt278.2 bt290.1 bt290.2).bind fun t296 => (if t296 = true then (some true) else (some false))))))))) = some r := H
  have A11 := Aside0.mk A110
  clear A110
  replace H := Option.bind_eq_some_iff.mp H
  obtain ⟨t277, A120, H⟩ := H
  replace H : ((laws_toTree.f k l0_0 l0_1).bind fun bt278 => ((laws_toRule.f a1_0 a1_1 a1_2 a1_3).bind fun bt285 => ((impl_RuleOk.f k bt278.1 bt278.2 bt285.1 bt285.2.1 bt285.2.2.1 bt285.2.2.2).bind fun t289 => (if (t289 != t277) = true then (some false) else ((laws_toTree.f k l0_0 l0_1).bind fun bt290 => ((laws_eqTree.f k bt278.1 bt278.2 bt290.1 bt290.2).bind fun t296 => (if t296 = true then (some true) else (some false)))))))) = some r := H
  have A12 := Aside0.mk A120
  clear A120
  replace H := Option.bind_eq_some_iff.mp H
  obtain ⟨⟨t278, t281⟩, A130, H⟩ := H
  replace H : ((laws_toRule.f a1_0 a1_1 a1_2 a1_3).bind fun bt285 => ((impl_RuleOk.f k t278 t281 bt285.1 bt285.2.1 bt285.2.2.1 bt285.2.2.2).bind fun t289 => (if (t289 != t277) = true then (some false) else ((laws_toTree.f k l0_0 l0_1).bind fun bt290 => ((laws_eqTree.f k t278 t281 bt290.1 bt290.2).bind fun t296 => (if t296 = true then (some true) else (some false))))))) = some r := H
  have A13 := Aside0.mk A130
  clear A130
  replace H := Option.bind_eq_some_iff.mp H
  obtain ⟨⟨t285, t286, t287, t288⟩, A140, H⟩ := H
  replace H : ((impl_RuleOk.f k t278 t281 t285 t286 t287 t288).bind fun t289 => (if (t289 != t277) = true then (some false) else ((laws_toTree.f k l0_0 l0_1).bind fun bt290 => ((laws_eqTree.f k t278 t281 bt290.1 bt290.2).bind fun t296 => (if t296 = true then (some true) else (some false)))))) = some r := H
  have A14 := Aside0.mk A140
  clear A140
  replace H := Option.bind_eq_some_iff.mp H
  obtain ⟨t289, A150, H⟩ := H
  replace H : (if (t289 != t277) = true then (some false) else ((laws_toTree.f k l0_0 l0_1).bind fun bt290 => ((laws_eqTree.f k t278 t281 bt290.1 bt290.2).bind fun t296 => (if t296 = true then (some true) else (some false))))) = some r := H
  have A15 := Aside0.mk A150
  clear A150
  by_cases c16 : (t289 != t277) = true
  ·rw [if_pos c16] at H
   have c16b0 : (t289 != t277) = true := c16
   (try (have c16b1 : decide (t289 = t277) = false := by simpa using c16))
   (try (have c16b2 : (t289 == t277) = false := by simpa using c16))
   (try (have c16b3 : ¬ (t289 = t277) := by simpa using c16))
   clear c16
   obtain rfl := Option.some.inj H
   go_enter Try.func4, Try.ntmps4
   try go_wp2_with (first | ((with_reducible refine gate_dst (N := 2) rfl ?_); refine box_event ?hg (N := 2) ?hd (cs := #[.slice A0_0 l0_0.length c0_0, .slice A0_1 l0_1.length c0_1]) (t := 25) ?hr ?_; (case hd => rfl); (case hg => rfl); (case hr => first | (go_simp; done) | (go_simp; rfl)); intro gb264 hg w17 hbox hb; have n0_ := Aside0.mk (below_step (by repeat first | exact HB.out | apply below_alloc | apply pw_below_drewN | apply below_drew1) hb); have n1_ := Aside0.mk (hbox); have n2_ := Aside0.mk ((by rw [hg]; exact (below_size (by repeat first | exact HB.out | apply below_alloc | apply pw_below_drewN | apply below_drew1)) : w.heap.size ≤ gb264)); have n3_ := Aside0.mk ((by rw [hg]; exact (below_size (by repeat first | exact HB.out | apply below_alloc | apply pw_below_drewN | apply below_drew1)) : w.heap.size ≤ gb264)); clear HB; have HB := n0_; have BK264 := n1_; have GW264 := n2_; have GE264 := n3_; clear n0_ n1_ n2_ n3_; clear hb hbox hg) | ((with_reducible refine gate_dst (N := 3) rfl ?_); refine box_event ?hg (N := 3) ?hd (cs := #[.int .i64 a1_0, .int .i64 a1_1, .int .i64 a1_2, .bool a1_3]) (t := 36) ?hr ?_; (case hd => rfl); (case hg => rfl); (case hr => first | (go_simp; done) | (go_simp; rfl)); intro gb265 hg w18 hbox hb; have n0_ := Aside0.mk (blk_below (g := gb264) (o := .cells #[.slice A0_0 l0_0.length c0_0, .slice A0_1 l0_1.length c0_1] 25 (0, 0)) (by (with_reducible repeat first | apply blk_drewN | apply blk_drew | apply blk_alloc); exact BK264.out) hb); have n1_ := Aside0.mk (below_step (by repeat (first | (with_reducible first | exact HB.out | apply below_alloc | apply pw_below_drewN | apply below_drew1 | refine below_set ?_ GE264.out) | exact HB.out)) hb); have n2_ := Aside0.mk (hbox); have n3_ := Aside0.mk ((by rw [hg]; exact (below_size (by repeat (first | (with_reducible first | exact HB.out | apply below_alloc | apply pw_below_drewN | apply below_drew1 | refine below_set ?_ GE264.out) | exact HB.out))) : w.heap.size ≤ gb265)); have n4_ := Aside0.mk ((by rw [hg]; exact (below_size (by repeat (first | (with_reducible first | exact HB.out | apply below_alloc | apply pw_below_drewN | apply below_drew1 | refine below_set ?_ GE264.out) | exact HB.out))) : w.heap.size ≤ gb265)); have n5_ := Aside0.mk ((by rw [hg]; exact Nat.ne_of_lt (blk_lt (g := gb264) (o := .cells #[.slice A0_0 l0_0.length c0_0, .slice A0_1 l0_1.length c0_1] 25 (0, 0)) (by (with_reducible repeat first | apply blk_drewN | apply blk_drew | apply blk_alloc); exact BK264.out)) : gb264 ≠ gb265)); have n6_ := Aside0.mk ((by rw [hg]; exact Nat.ne_of_gt (blk_lt (g := gb264) (o := .cells #[.slice A0_0 l0_0.length c0_0, .slice A0_1 l0_1.length c0_1] 25 (0, 0)) (by (with_reducible repeat first | apply blk_drewN | apply blk_drew | apply blk_alloc); exact BK264.out)) : gb265 ≠ gb264)); clear BK264; clear HB; have BK264 := n0_; have HB := n1_; have BK265 := n2_; have GW265 := n3_; have GE265 := n4_; have NB264_265 := n5_; have NB265_264 := n6_; clear n0_ n1_ n2_ n3_ n4_ n5_ n6_; clear hb hbox hg; have hnb19 := NB264_265.out; have hnc19 := NB265_264.out; have hcz20_0 : w18.cell? ⟨gb264, 0, none⟩ = some (.slice A0_0 l0_0.length c0_0) := (blk_cell BK264.out 0).trans rfl; have hcz20_1 : w18.cell? ⟨gb264, 1, none⟩ = some (.slice A0_1 l0_1.length c0_1) := (blk_cell BK264.out 1).trans rfl; have hfz20_0 := blk_frozen BK264.out 0; have hfz20_1 := blk_frozen BK264.out 1) | ((with_reducible refine gate_callee (f := 17) rfl ?_); refine goesL_ (some 11) rfl rfl Try.func17 (by kernel_rfl) rfl #[.agg #[.slice A0_0 l0_0.length c0_0, .slice A0_1 l0_1.length c0_1], .int .i64 1048576] rfl (by (try simp only [List.map_toArray, List.map_cons, List.map_nil]); first | done | rfl | (simp only [List.length_drop, List.length_take]; rfl)) ?_; (with_reducible refine (laws_szTree.calls k _ _ l0_0 _ _ l0_1 1048576 t266 _ ?side1 ?side2 ?side3 ?side4 A3.out).mono ?_); (case side1 => repeat (first | exact (Kd.C_below HR0_0.out HB.out) | (with_reducible refine Kd.C_alloc ?_ _) | (with_reducible refine Kd.C_drewN ?_ _) | (with_reducible refine Kd.C_drew ?_))); (case side2 => exact HC0_0.out); (case side3 => repeat (first | exact (Kd.C_below HR0_1.out HB.out) | (with_reducible refine Kd.C_alloc ?_ _) | (with_reducible refine Kd.C_drewN ?_ _) | (with_reducible refine Kd.C_drew ?_))); (case side4 => exact HC0_1.out); rintro e w21 ⟨rfl, hb⟩; refine ⟨_, rfl, ?_⟩; have n0_ := Aside0.mk (blk_below (g := gb264) (o := .cells #[.slice A0_0 l0_0.length c0_0, .slice A0_1 l0_1.length c0_1] 25 (0, 0)) (by (with_reducible repeat first | apply blk_drewN | apply blk_drew | apply blk_alloc); exact BK264.out) hb); have n1_ := Aside0.mk (blk_below (g := gb265) (o := .cells #[.int .i64 a1_0, .int .i64 a1_1, .int .i64 a1_2, .bool a1_3] 36 (0, 0)) (by (with_reducible repeat first | apply blk_drewN | apply blk_drew | apply blk_alloc); exact BK265.out) hb); have n2_ := Aside0.mk (below_step (by repeat (first | (with_reducible first | exact HB.out | apply below_alloc | apply pw_below_drewN | apply below_drew1 | refine below_set ?_ GE264.out | refine below_set ?_ GE265.out) | exact HB.out)) hb); clear BK264; clear BK265; clear HB; have BK264 := n0_; have BK265 := n1_; have HB := n2_; clear n0_ n1_ n2_; (try clear hb); (try clear hb2); (try clear hk); (try clear hi)))
   have n0_ := Aside0.mk (blk_drew BK264.out)
   have n1_ := Aside0.mk (blk_drew BK265.out)
   have n2_ := Aside0.mk (below_drew1 HB.out)
   clear BK264
   clear BK265
   clear HB
   have BK264 := n0_
   have BK265 := n1_
   have HB := n2_
   clear n0_ n1_ n2_
   refine start_ (n := 6) (S := fun w' => w'.cell? ⟨gb264, 0, none⟩ = some (.slice A0_0 l0_0.length c0_0) ∧ w'.cell? ⟨gb264, 1, none⟩ = some (.slice A0_1 l0_1.length c0_1) ∧ w'.cell? ⟨gb265, 0, none⟩ = some (.int .i64 a1_0) ∧ w'.cell? ⟨gb265, 1, none⟩ = some (.int .i64 a1_1) ∧ w'.cell? ⟨gb265, 2, none⟩ = some (.int .i64 a1_2) ∧ w'.cell? ⟨gb265, 3, none⟩ = some (.bool a1_3)) (ds := []) #[false, false, false, false, false, false] (by kernel_rfl) rfl rfl ⟨(blk_cell BK264.out 0).trans rfl, (blk_cell BK264.out 1).trans rfl, (blk_cell BK265.out 0).trans rfl, (blk_cell BK265.out 1).trans rfl, (blk_cell BK265.out 2).trans rfl, (blk_cell BK265.out 3).trans rfl⟩ (fun hHeld => ?_)
   generalize w21.drew = w22 at BK264 BK265 HB hHeld ⊢
   refine take_ (i := 0) (N := some 14) (v := ?_) (a' := ?_) #[true, false, false, false, false, false] rfl rfl (by kernel_rfl) (fun _ _ _ h => h) (Or.inl ⟨by rfl, ?_⟩) hHeld ?_ ?_
   (rotate_left; ·(rintro w' ⟨s0, s1, s2, s3, s4, s5⟩; go_simp; with_reducible rfl)); (rotate_left; ·(simp only [Act.put, pq_z4]; rfl))
   refine take_ (i := 2) (N := some 16) (v := ?_) (a' := ?_) #[true, false, true, false, false, false] rfl rfl (by kernel_rfl) (fun _ _ _ h => h) (Or.inl ⟨by rfl, ?_⟩) hHeld ?_ ?_
   (rotate_left; ·(rintro w' ⟨s0, s1, s2, s3, s4, s5⟩; go_simp; with_reducible rfl)); (rotate_left; ·(simp only [Act.put, pq_z4]; rfl))
   refine one_ (i := 1) (N := some 15) #[true, true, true, false, false, false] rfl rfl (by kernel_rfl) (by decide) (fun K hK => ?_)
   refine goes_ Try.func19 (by kernel_rfl) rfl #[.agg #[.slice A0_0 l0_0.length c0_0, .slice A0_1 l0_1.length c0_1]] (by rfl) rfl rfl (by (try simp only [List.map_toArray, List.map_cons, List.map_nil]); first | done | rfl | (simp only [List.length_drop, List.length_take]; rfl)) ?_
   with_reducible refine (laws_toTree.calls k _ _ l0_0 _ _ l0_1 t267 t270 _ ?side1 ?side2 ?side3 ?side4 A10.out).mono ?_
   (case side1 => repeat (first | exact (Kd.C_below HR0_0.out HB.out) | (with_reducible refine Kd.C_alloc ?_ _) | (with_reducible refine Kd.C_drewN ?_ _) | (with_reducible refine Kd.C_drew ?_)))
   (case side2 => exact HC0_0.out)
   (case side3 => repeat (first | exact (Kd.C_below HR0_1.out HB.out) | (with_reducible refine Kd.C_alloc ?_ _) | (with_reducible refine Kd.C_drewN ?_ _) | (with_reducible refine Kd.C_drew ?_)))
   (case side4 => exact HC0_1.out)
   rintro e w23 ⟨v268, v271, rfl, ho0, ho1, hb⟩
   refine ⟨_, rfl, ?_⟩
   have n0_ := Aside0.mk (Kd.R_lower ho0 (below_size (by repeat (first | (with_reducible first | exact HB.out | apply below_alloc | apply pw_below_drewN | apply below_drew1 | refine below_set ?_ GE264.out | refine below_set ?_ GE265.out) | exact HB.out))))
   have n1_ := Aside0.mk (Kd.S_lower ho1 (below_size (by repeat (first | (with_reducible first | exact HB.out | apply below_alloc | apply pw_below_drewN | apply below_drew1 | refine below_set ?_ GE264.out | refine below_set ?_ GE265.out) | exact HB.out))))
   have n2_ := Aside0.mk (blk_below (g := gb264) (o := .cells #[.slice A0_0 l0_0.length c0_0, .slice A0_1 l0_1.length c0_1] 25 (0, 0)) (by (with_reducible repeat first | apply blk_drewN | apply blk_drew | apply blk_alloc); exact BK264.out) hb)
   have n3_ := Aside0.mk (blk_below (g := gb265) (o := .cells #[.int .i64 a1_0, .int .i64 a1_1, .int .i64 a1_2, .bool a1_3] 36 (0, 0)) (by (with_reducible repeat first | apply blk_drewN | apply blk_drew | apply blk_alloc); exact BK265.out) hb)
   have n4_ := Aside0.mk (below_step (by repeat (first | (with_reducible first | exact HB.out | apply below_alloc | apply pw_below_drewN | apply below_drew1 | refine below_set ?_ GE264.out | refine below_set ?_ GE265.out) | exact HB.out)) hb)
   clear BK264
   clear BK265
   clear HB
   have HO269 := n0_
   have HO272 := n1_
   have BK264 := n2_
   have BK265 := n3_
   have HB := n4_
   clear n0_ n1_ n2_ n3_ n4_
   (try clear hb)
   (try clear hb2)
   (try clear hk)
   (try clear hi)
   (try clear ho0)
   (try clear ho1)
   refine hK.out _ _ ⟨(blk_cell BK264.out 0).trans rfl, (blk_cell BK264.out 1).trans rfl, (blk_cell BK265.out 0).trans rfl, (blk_cell BK265.out 1).trans rfl, (blk_cell BK265.out 2).trans rfl, (blk_cell BK265.out 3).trans rfl⟩ (fun hHeld => ?_)
   clear hK K
   refine norm_ (a' := ?_) ?_ ?_
   (rotate_left; ·(show Act.put _ (some 15) _ = _; simp only [Act.put, pq_z4]; rfl))
   refine one_ (i := 3) (N := some 17) #[true, true, true, true, false, false] rfl rfl (by kernel_rfl) (by decide) (fun K hK => ?_)
   refine goes_ Try.func23 (by kernel_rfl) rfl #[.agg #[.int .i64 a1_0, .int .i64 a1_1, .int .i64 a1_2, .bool a1_3]] (by rfl) rfl rfl (by (try simp only [List.map_toArray, List.map_cons, List.map_nil]); first | done | rfl | (simp only [List.length_drop, List.length_take]; rfl)) ?_
   with_reducible refine (laws_toRule.calls a1_0 a1_1 a1_2 a1_3 t273 t274 t275 t276 _ A11.out).mono ?_
   rintro e w24 ⟨rfl, hb⟩
   refine ⟨_, rfl, ?_⟩
   have n0_ := Aside0.mk (Kd.R_below (by (with_reducible repeat (first | apply Kd.R_alloc | apply Kd.R_drewN | apply Kd.R_drew)); exact HO269.out) hb)
   have n1_ := Aside0.mk (Kd.S_below (by (with_reducible repeat (first | apply Kd.S_alloc | apply Kd.S_drewN | apply Kd.S_drew)); exact HO272.out) hb)
   have n2_ := Aside0.mk (blk_below (g := gb264) (o := .cells #[.slice A0_0 l0_0.length c0_0, .slice A0_1 l0_1.length c0_1] 25 (0, 0)) (by (with_reducible repeat first | apply blk_drewN | apply blk_drew | apply blk_alloc); exact BK264.out) hb)
   have n3_ := Aside0.mk (blk_below (g := gb265) (o := .cells #[.int .i64 a1_0, .int .i64 a1_1, .int .i64 a1_2, .bool a1_3] 36 (0, 0)) (by (with_reducible repeat first | apply blk_drewN | apply blk_drew | apply blk_alloc); exact BK265.out) hb)
   have n4_ := Aside0.mk (below_step (by repeat (first | (with_reducible first | exact HB.out | apply below_alloc | apply pw_below_drewN | apply below_drew1 | refine below_set ?_ GE264.out | refine below_set ?_ GE265.out) | exact HB.out)) hb)
   clear HO269
   clear HO272
   clear BK264
   clear BK265
   clear HB
   have HO269 := n0_
   have HO272 := n1_
   have BK264 := n2_
   have BK265 := n3_
   have HB := n4_
   clear n0_ n1_ n2_ n3_ n4_
   (try clear hb)
   (try clear hb2)
   (try clear hk)
   (try clear hi)
   obtain ⟨Ao25, co25, eo25⟩ := Kd.R_slice HO269.out
   (first | subst eo25 | (injection eo25 with f1_ f2_ f3_; have f4_ := f1_.symm; have f5_ := f3_.symm; clear f1_ f2_ f3_; subst f4_; subst f5_))
   obtain ⟨Ao26, co26, eo26⟩ := Kd.S_slice HO272.out
   (first | subst eo26 | (injection eo26 with f1_ f2_ f3_; have f4_ := f1_.symm; have f5_ := f3_.symm; clear f1_ f2_ f3_; subst f4_; subst f5_))
   refine hK.out _ _ ⟨(blk_cell BK264.out 0).trans rfl, (blk_cell BK264.out 1).trans rfl, (blk_cell BK265.out 0).trans rfl, (blk_cell BK265.out 1).trans rfl, (blk_cell BK265.out 2).trans rfl, (blk_cell BK265.out 3).trans rfl⟩ (fun hHeld => ?_)
   clear hK K
   refine norm_ (a' := ?_) ?_ ?_
   (rotate_left; ·(show Act.put _ (some 17) _ = _; simp only [Act.put, pq_z4]; rfl))
   refine one_ (i := 4) (N := some 18) #[true, true, true, true, true, false] rfl rfl (by kernel_rfl) (by decide) (fun K hK => ?_)
   refine goes_ Try.func22 (by kernel_rfl) rfl #[.agg #[.slice Ao25 t267.length co25, .slice Ao26 t270.length co26], .agg #[.int .i64 t273, .int .i64 t274, .int .i64 t275, .bool t276]] (by rfl) rfl rfl (by (try simp only [List.map_toArray, List.map_cons, List.map_nil]); first | done | rfl | (simp only [List.length_drop, List.length_take]; rfl)) ?_
   with_reducible refine (spec_RuleOk.calls k _ _ t267 _ _ t270 t273 t274 t275 t276 t277 _ ?side1 ?side2 ?side3 ?side4 A12.out).mono ?_
   (case side1 => repeat (first | exact (Kd.R_reads' HO269.out).2.2 | (with_reducible refine Kd.C_alloc ?_ _) | (with_reducible refine Kd.C_drewN ?_ _) | (with_reducible refine Kd.C_drew ?_)))
   (case side2 => exact (Kd.R_reads' HO269.out).2.1)
   (case side3 => repeat (first | exact (Kd.S_reads' HO272.out).2.2 | (with_reducible refine Kd.C_alloc ?_ _) | (with_reducible refine Kd.C_drewN ?_ _) | (with_reducible refine Kd.C_drew ?_)))
   (case side4 => exact (Kd.S_reads' HO272.out).2.1)
   rintro e w27 ⟨rfl, hb⟩
   refine ⟨_, rfl, ?_⟩
   have n0_ := Aside0.mk (Kd.R_below (by (with_reducible repeat (first | apply Kd.R_alloc | apply Kd.R_drewN | apply Kd.R_drew)); exact HO269.out) hb)
   have n1_ := Aside0.mk (Kd.S_below (by (with_reducible repeat (first | apply Kd.S_alloc | apply Kd.S_drewN | apply Kd.S_drew)); exact HO272.out) hb)
   have n2_ := Aside0.mk (blk_below (g := gb264) (o := .cells #[.slice A0_0 l0_0.length c0_0, .slice A0_1 l0_1.length c0_1] 25 (0, 0)) (by (with_reducible repeat first | apply blk_drewN | apply blk_drew | apply blk_alloc); exact BK264.out) hb)
   have n3_ := Aside0.mk (blk_below (g := gb265) (o := .cells #[.int .i64 a1_0, .int .i64 a1_1, .int .i64 a1_2, .bool a1_3] 36 (0, 0)) (by (with_reducible repeat first | apply blk_drewN | apply blk_drew | apply blk_alloc); exact BK265.out) hb)
   have n4_ := Aside0.mk (below_step (by repeat (first | (with_reducible first | exact HB.out | apply below_alloc | apply pw_below_drewN | apply below_drew1 | refine below_set ?_ GE264.out | refine below_set ?_ GE265.out) | exact HB.out)) hb)
   clear HO269
   clear HO272
   clear BK264
   clear BK265
   clear HB
   have HO269 := n0_
   have HO272 := n1_
   have BK264 := n2_
   have BK265 := n3_
   have HB := n4_
   clear n0_ n1_ n2_ n3_ n4_
   (try clear hb)
   (try clear hb2)
   (try clear hk)
   (try clear hi)
   refine hK.out _ _ ⟨(blk_cell BK264.out 0).trans rfl, (blk_cell BK264.out 1).trans rfl, (blk_cell BK265.out 0).trans rfl, (blk_cell BK265.out 1).trans rfl, (blk_cell BK265.out 2).trans rfl, (blk_cell BK265.out 3).trans rfl⟩ (fun hHeld => ?_)
   clear hK K
   refine norm_ (a' := ?_) ?_ ?_
   (rotate_left; ·(show Act.put _ (some 18) _ = _; simp only [Act.put, pq_z4]; rfl))
   refine pu_z4 5 (some 6) ?_ #[true, true, true, true, true, true] rfl rfl (by kernel_rfl) (fun _ _ _ h => h) (Or.inl ⟨by rfl, ?_⟩) ?_ ?_ ?_
   (rotate_left; ·(intro w'; go_simp; with_reducible rfl)); (rotate_left; ·(simp only [Act.put, pq_z4]; rfl))
   refine done_ (by kernel_rfl) ?_
   have hcz28_0 : w27.cell? ⟨gb264, 0, none⟩ = some (.slice A0_0 l0_0.length c0_0) := (blk_cell BK264.out 0).trans rfl
   have hcz28_1 : w27.cell? ⟨gb264, 1, none⟩ = some (.slice A0_1 l0_1.length c0_1) := (blk_cell BK264.out 1).trans rfl
   have hfz28_0 := blk_frozen BK264.out 0
   have hfz28_1 := blk_frozen BK264.out 1
   try go_wp2_with (first | ((with_reducible refine gate_callee (f := 19) rfl ?_); refine goesL_ (some 20) rfl rfl Try.func19 (by kernel_rfl) rfl #[.agg #[.slice A0_0 l0_0.length c0_0, .slice A0_1 l0_1.length c0_1]] rfl (by (try simp only [List.map_toArray, List.map_cons, List.map_nil]); first | done | rfl | (simp only [List.length_drop, List.length_take]; rfl)) ?_; (with_reducible refine (laws_toTree.calls k _ _ l0_0 _ _ l0_1 t278 t281 _ ?side1 ?side2 ?side3 ?side4 A13.out).mono ?_); (case side1 => repeat (first | exact (Kd.C_below HR0_0.out HB.out) | (with_reducible refine Kd.C_alloc ?_ _) | (with_reducible refine Kd.C_drewN ?_ _) | (with_reducible refine Kd.C_drew ?_))); (case side2 => exact HC0_0.out); (case side3 => repeat (first | exact (Kd.C_below HR0_1.out HB.out) | (with_reducible refine Kd.C_alloc ?_ _) | (with_reducible refine Kd.C_drewN ?_ _) | (with_reducible refine Kd.C_drew ?_))); (case side4 => exact HC0_1.out); rintro e w29 ⟨v279, v282, rfl, ho0, ho1, hb⟩; refine ⟨_, rfl, ?_⟩; have n0_ := Aside0.mk (Kd.R_elder' (by (with_reducible repeat (first | apply Kd.R_alloc | apply Kd.R_drewN | apply Kd.R_drew)); exact HO269.out) (Kd.R_base ho0) hb); have n1_ := Aside0.mk (Kd.S_elder' (by (with_reducible repeat (first | apply Kd.S_alloc | apply Kd.S_drewN | apply Kd.S_drew)); exact HO272.out) (Kd.S_base ho1) hb); have n2_ := Aside0.mk (Kd.R_lower (Kd.R_new' ho0 (Kd.R_lt (by (with_reducible repeat (first | apply Kd.R_alloc | apply Kd.R_drewN | apply Kd.R_drew)); exact HO269.out))) (below_size (by repeat (first | (with_reducible first | exact HB.out | apply below_alloc | apply pw_below_drewN | apply below_drew1 | refine below_set ?_ GE264.out | refine below_set ?_ GE265.out) | exact HB.out)))); have n3_ := Aside0.mk (Kd.S_lower (Kd.S_new' ho1 (Kd.S_lt (by (with_reducible repeat (first | apply Kd.S_alloc | apply Kd.S_drewN | apply Kd.S_drew)); exact HO272.out))) (below_size (by repeat (first | (with_reducible first | exact HB.out | apply below_alloc | apply pw_below_drewN | apply below_drew1 | refine below_set ?_ GE264.out | refine below_set ?_ GE265.out) | exact HB.out)))); have n4_ := Aside0.mk (blk_below (g := gb264) (o := .cells #[.slice A0_0 l0_0.length c0_0, .slice A0_1 l0_1.length c0_1] 25 (0, 0)) (by (with_reducible repeat first | apply blk_drewN | apply blk_drew | apply blk_alloc); exact BK264.out) hb); have n5_ := Aside0.mk (blk_below (g := gb265) (o := .cells #[.int .i64 a1_0, .int .i64 a1_1, .int .i64 a1_2, .bool a1_3] 36 (0, 0)) (by (with_reducible repeat first | apply blk_drewN | apply blk_drew | apply blk_alloc); exact BK265.out) hb); have n6_ := Aside0.mk (below_step (by repeat (first | (with_reducible first | exact HB.out | apply below_alloc | apply pw_below_drewN | apply below_drew1 | refine below_set ?_ GE264.out | refine below_set ?_ GE265.out) | exact HB.out)) hb); clear HO269; clear HO272; clear BK264; clear BK265; clear HB; have HO269 := n0_; have HO272 := n1_; have HO280 := n2_; have HO283 := n3_; have BK264 := n4_; have BK265 := n5_; have HB := n6_; clear n0_ n1_ n2_ n3_ n4_ n5_ n6_; (try clear hb); (try clear hb2); (try clear hk); (try clear hi); (try clear ho0); (try clear ho1)) | ((with_reducible refine gate_dst (N := 7) rfl ?_); refine box_event ?hg (N := 7) ?hd (cs := #[.slice none 0 0, .slice none 0 0]) (t := 31) ?hr ?_; (case hd => rfl); (case hg => rfl); (case hr => first | (go_simp; done) | (go_simp; rfl)); intro gb284 hg w30 hbox hb; have n0_ := Aside0.mk (Kd.R_below (by (with_reducible repeat (first | apply Kd.R_alloc | apply Kd.R_drewN | apply Kd.R_drew)); exact HO269.out) hb); have n1_ := Aside0.mk (Kd.S_below (by (with_reducible repeat (first | apply Kd.S_alloc | apply Kd.S_drewN | apply Kd.S_drew)); exact HO272.out) hb); have n2_ := Aside0.mk (Kd.R_below (by (with_reducible repeat (first | apply Kd.R_alloc | apply Kd.R_drewN | apply Kd.R_drew)); exact HO280.out) hb); have n3_ := Aside0.mk (Kd.S_below (by (with_reducible repeat (first | apply Kd.S_alloc | apply Kd.S_drewN | apply Kd.S_drew)); exact HO283.out) hb); have n4_ := Aside0.mk (blk_below (g := gb264) (o := .cells #[.slice A0_0 l0_0.length c0_0, .slice A0_1 l0_1.length c0_1] 25 (0, 0)) (by (with_reducible repeat first | apply blk_drewN | apply blk_drew | apply blk_alloc); exact BK264.out) hb); have n5_ := Aside0.mk (blk_below (g := gb265) (o := .cells #[.int .i64 a1_0, .int .i64 a1_1, .int .i64 a1_2, .bool a1_3] 36 (0, 0)) (by (with_reducible repeat first | apply blk_drewN | apply blk_drew | apply blk_alloc); exact BK265.out) hb); have n6_ := Aside0.mk (below_step (by repeat (first | (with_reducible first | exact HB.out | apply below_alloc | apply pw_below_drewN | apply below_drew1 | refine below_set ?_ GE264.out | refine below_set ?_ GE265.out) | exact HB.out)) hb); have n7_ := Aside0.mk (hbox); have n8_ := Aside0.mk ((by rw [hg]; exact (below_size (by repeat (first | (with_reducible first | exact HB.out | apply below_alloc | apply pw_below_drewN | apply below_drew1 | refine below_set ?_ GE264.out | refine below_set ?_ GE265.out) | exact HB.out))) : w.heap.size ≤ gb284)); have n9_ := Aside0.mk ((by rw [hg]; exact (below_size (by repeat (first | (with_reducible first | exact HB.out | apply below_alloc | apply pw_below_drewN | apply below_drew1 | refine below_set ?_ GE264.out | refine below_set ?_ GE265.out) | exact HB.out))) : w.heap.size ≤ gb284)); have n10_ := Aside0.mk ((by rw [hg]; exact Nat.ne_of_lt (blk_lt (g := gb264) (o := .cells #[.slice A0_0 l0_0.length c0_0, .slice A0_1 l0_1.length c0_1] 25 (0, 0)) (by (with_reducible repeat first | apply blk_drewN | apply blk_drew | apply blk_alloc); exact BK264.out)) : gb264 ≠ gb284)); have n11_ := Aside0.mk ((by rw [hg]; exact Nat.ne_of_gt (blk_lt (g := gb264) (o := .cells #[.slice A0_0 l0_0.length c0_0, .slice A0_1 l0_1.length c0_1] 25 (0, 0)) (by (with_reducible repeat first | apply blk_drewN | apply blk_drew | apply blk_alloc); exact BK264.out)) : gb284 ≠ gb264)); have n12_ := Aside0.mk ((by rw [hg]; exact Nat.ne_of_lt (blk_lt (g := gb265) (o := .cells #[.int .i64 a1_0, .int .i64 a1_1, .int .i64 a1_2, .bool a1_3] 36 (0, 0)) (by (with_reducible repeat first | apply blk_drewN | apply blk_drew | apply blk_alloc); exact BK265.out)) : gb265 ≠ gb284)); have n13_ := Aside0.mk ((by rw [hg]; exact Nat.ne_of_gt (blk_lt (g := gb265) (o := .cells #[.int .i64 a1_0, .int .i64 a1_1, .int .i64 a1_2, .bool a1_3] 36 (0, 0)) (by (with_reducible repeat first | apply blk_drewN | apply blk_drew | apply blk_alloc); exact BK265.out)) : gb284 ≠ gb265)); clear HO269; clear HO272; clear HO280; clear HO283; clear BK264; clear BK265; clear HB; have HO269 := n0_; have HO272 := n1_; have HO280 := n2_; have HO283 := n3_; have BK264 := n4_; have BK265 := n5_; have HB := n6_; have BK284 := n7_; have GW284 := n8_; have GE284 := n9_; have NB264_284 := n10_; have NB284_264 := n11_; have NB265_284 := n12_; have NB284_265 := n13_; clear n0_ n1_ n2_ n3_ n4_ n5_ n6_ n7_ n8_ n9_ n10_ n11_ n12_ n13_; clear hb hbox hg; obtain ⟨Ao31, co31, eo31⟩ := Kd.R_slice HO280.out; subst eo31; have hnb32 := NB284_264.out; have hnc32 := NB264_284.out; have hnb33 := NB284_265.out; have hnc33 := NB265_284.out; have hcz34_0 : w30.cell? ⟨gb284, 0, none⟩ = some (.slice none 0 0) := (blk_cell BK284.out 0).trans rfl; have hcz34_1 : w30.cell? ⟨gb284, 1, none⟩ = some (.slice none 0 0) := (blk_cell BK284.out 1).trans rfl; have hfz34_0 := blk_frozen BK284.out 0; have hfz34_1 := blk_frozen BK284.out 1; obtain ⟨Ao35, co35, eo35⟩ := Kd.S_slice HO283.out; subst eo35))
   have n0_ : Aside0 (Kd.R k58 58 ((w30.setCell ⟨gb284, 0, none⟩ (.slice Ao31 t278.length co31)).setCell ⟨gb284, 1, none⟩ (.slice Ao35 t281.length co35)) w.heap.size (fun k_ => some k_ ≠ (.slice Ao31 t278.length co31 : Value).ownBlock) (.slice Ao25 t267.length co25) t267) := ⟨by (with_reducible repeat (first | apply Kd.R_alloc | apply Kd.R_drewN | apply Kd.R_drew)); exact Kd.R_mono (Kd.R_far (p := ⟨gb284, 1, none⟩) (Kd.R_far (p := ⟨gb284, 0, none⟩) (Kd.R_types HO269.out BK284.out (by decide)) (fun _ hk => hk.2) (.slice Ao31 t278.length co31)) (fun _ hk => hk.2) (.slice Ao35 t281.length co35)) (fun _ hk => hk.1.2)⟩
   have n1_ : Aside0 (Kd.S k84 84 ((w30.setCell ⟨gb284, 0, none⟩ (.slice Ao31 t278.length co31)).setCell ⟨gb284, 1, none⟩ (.slice Ao35 t281.length co35)) w.heap.size (fun k_ => some k_ ≠ (.slice Ao35 t281.length co35 : Value).ownBlock) (.slice Ao26 t270.length co26) t270) := ⟨by (with_reducible repeat (first | apply Kd.S_alloc | apply Kd.S_drewN | apply Kd.S_drew)); exact Kd.S_mono (Kd.S_far (p := ⟨gb284, 1, none⟩) (Kd.S_far (p := ⟨gb284, 0, none⟩) (Kd.S_types HO272.out BK284.out (by decide)) (fun _ hk => hk.2) (.slice Ao31 t278.length co31)) (fun _ hk => hk.2) (.slice Ao35 t281.length co35)) (fun _ hk => hk.1.2)⟩
   have n2_ : Aside0 (Kd.R k58 58 ((w30.setCell ⟨gb284, 0, none⟩ (.slice Ao31 t278.length co31)).setCell ⟨gb284, 1, none⟩ (.slice Ao35 t281.length co35)) w.heap.size (fun k_ => some k_ ≠ (.slice Ao25 t267.length co25 : Value).ownBlock) (.slice Ao31 t278.length co31) t278) := ⟨by (with_reducible repeat (first | apply Kd.R_alloc | apply Kd.R_drewN | apply Kd.R_drew)); exact Kd.R_mono (Kd.R_far (p := ⟨gb284, 1, none⟩) (Kd.R_far (p := ⟨gb284, 0, none⟩) (Kd.R_types HO280.out BK284.out (by decide)) (fun _ hk => hk.2) (.slice Ao31 t278.length co31)) (fun _ hk => hk.2) (.slice Ao35 t281.length co35)) (fun _ hk => hk.1.2)⟩
   have n3_ : Aside0 (Kd.S k84 84 ((w30.setCell ⟨gb284, 0, none⟩ (.slice Ao31 t278.length co31)).setCell ⟨gb284, 1, none⟩ (.slice Ao35 t281.length co35)) w.heap.size (fun k_ => some k_ ≠ (.slice Ao26 t270.length co26 : Value).ownBlock) (.slice Ao35 t281.length co35) t281) := ⟨by (with_reducible repeat (first | apply Kd.S_alloc | apply Kd.S_drewN | apply Kd.S_drew)); exact Kd.S_mono (Kd.S_far (p := ⟨gb284, 1, none⟩) (Kd.S_far (p := ⟨gb284, 0, none⟩) (Kd.S_types HO283.out BK284.out (by decide)) (fun _ hk => hk.2) (.slice Ao31 t278.length co31)) (fun _ hk => hk.2) (.slice Ao35 t281.length co35)) (fun _ hk => hk.1.2)⟩
   have n4_ : Aside0 (((w30.setCell ⟨gb284, 0, none⟩ (.slice Ao31 t278.length co31)).setCell ⟨gb284, 1, none⟩ (.slice Ao35 t281.length co35)).heap[gb264]? = some (.cells #[.slice A0_0 l0_0.length c0_0, .slice A0_1 l0_1.length c0_1] 25 (0, 0))) := ⟨by (with_reducible repeat first | apply blk_drewN | apply blk_drew | apply blk_alloc); refine blk_far ?_ NB264_284.out _; (with_reducible repeat first | apply blk_drewN | apply blk_drew | apply blk_alloc); refine blk_far ?_ NB264_284.out _; (with_reducible repeat first | apply blk_drewN | apply blk_drew | apply blk_alloc); exact BK264.out⟩
   have n5_ : Aside0 (((w30.setCell ⟨gb284, 0, none⟩ (.slice Ao31 t278.length co31)).setCell ⟨gb284, 1, none⟩ (.slice Ao35 t281.length co35)).heap[gb265]? = some (.cells #[.int .i64 a1_0, .int .i64 a1_1, .int .i64 a1_2, .bool a1_3] 36 (0, 0))) := ⟨by (with_reducible repeat first | apply blk_drewN | apply blk_drew | apply blk_alloc); refine blk_far ?_ NB265_284.out _; (with_reducible repeat first | apply blk_drewN | apply blk_drew | apply blk_alloc); refine blk_far ?_ NB265_284.out _; (with_reducible repeat first | apply blk_drewN | apply blk_drew | apply blk_alloc); exact BK265.out⟩
   have n6_ : Aside0 (((w30.setCell ⟨gb284, 0, none⟩ (.slice Ao31 t278.length co31)).setCell ⟨gb284, 1, none⟩ (.slice Ao35 t281.length co35)).heap[gb284]? = some (.cells #[.slice Ao31 t278.length co31, .slice Ao35 t281.length co35] 31 (0, 0))) := ⟨by (with_reducible repeat first | apply blk_drewN | apply blk_drew | apply blk_alloc); refine blk_put (cs := #[.slice Ao31 t278.length co31, .slice none 0 0]) ?_ 1 _ rfl; (with_reducible repeat first | apply blk_drewN | apply blk_drew | apply blk_alloc); refine blk_put (cs := #[.slice none 0 0, .slice none 0 0]) ?_ 0 _ rfl; (with_reducible repeat first | apply blk_drewN | apply blk_drew | apply blk_alloc); exact BK284.out⟩
   have n7_ : Aside0 (Below w.heap.size w ((w30.setCell ⟨gb284, 0, none⟩ (.slice Ao31 t278.length co31)).setCell ⟨gb284, 1, none⟩ (.slice Ao35 t281.length co35))) := ⟨by repeat (first | (with_reducible first | exact HB.out | apply below_alloc | apply pw_below_drewN | apply below_drew1 | refine below_set ?_ GE264.out | refine below_set ?_ GE265.out | refine below_set ?_ GE284.out) | exact HB.out)⟩
   (try clear HO269)
   (try clear HO272)
   (try clear HO280)
   (try clear HO283)
   (try clear BK264)
   (try clear BK265)
   (try clear BK284)
   (try clear HB)
   generalize ((w30.setCell ⟨gb284, 0, none⟩ (.slice Ao31 t278.length co31)).setCell ⟨gb284, 1, none⟩ (.slice Ao35 t281.length co35)) = w36 at n0_ n1_ n2_ n3_ n4_ n5_ n6_ n7_ ⊢
   have HO269 := n0_
   have HO272 := n1_
   have HO280 := n2_
   have HO283 := n3_
   have BK264 := n4_
   have BK265 := n5_
   have BK284 := n6_
   have HB := n7_
   clear n0_ n1_ n2_ n3_ n4_ n5_ n6_ n7_
   have n0_ := Aside0.mk (Kd.R_drew HO269.out)
   have n1_ := Aside0.mk (Kd.S_drew HO272.out)
   have n2_ := Aside0.mk (Kd.R_drew HO280.out)
   have n3_ := Aside0.mk (Kd.S_drew HO283.out)
   have n4_ := Aside0.mk (blk_drew BK264.out)
   have n5_ := Aside0.mk (blk_drew BK265.out)
   have n6_ := Aside0.mk (blk_drew BK284.out)
   have n7_ := Aside0.mk (below_drew1 HB.out)
   clear HO269
   clear HO272
   clear HO280
   clear HO283
   clear BK264
   clear BK265
   clear BK284
   clear HB
   have HO269 := n0_
   have HO272 := n1_
   have HO280 := n2_
   have HO283 := n3_
   have BK264 := n4_
   have BK265 := n5_
   have BK284 := n6_
   have HB := n7_
   clear n0_ n1_ n2_ n3_ n4_ n5_ n6_ n7_
   refine start_ (n := 5) (S := fun w' => w'.cell? ⟨gb284, 0, none⟩ = some (.slice Ao31 t278.length co31) ∧ w'.cell? ⟨gb284, 1, none⟩ = some (.slice Ao35 t281.length co35) ∧ w'.cell? ⟨gb265, 0, none⟩ = some (.int .i64 a1_0) ∧ w'.cell? ⟨gb265, 1, none⟩ = some (.int .i64 a1_1) ∧ w'.cell? ⟨gb265, 2, none⟩ = some (.int .i64 a1_2) ∧ w'.cell? ⟨gb265, 3, none⟩ = some (.bool a1_3)) (ds := []) #[false, false, false, false, false] (by kernel_rfl) rfl rfl ⟨(blk_cell BK284.out 0).trans rfl, (blk_cell BK284.out 1).trans rfl, (blk_cell BK265.out 0).trans rfl, (blk_cell BK265.out 1).trans rfl, (blk_cell BK265.out 2).trans rfl, (blk_cell BK265.out 3).trans rfl⟩ (fun hHeld => ?_)
   generalize w36.drew = w37 at HO269 HO272 HO280 HO283 BK264 BK265 BK284 HB hHeld ⊢
   refine take_ (i := 0) (N := some 21) (v := ?_) (a' := ?_) #[true, false, false, false, false] rfl rfl (by kernel_rfl) (fun _ _ _ h => h) (Or.inl ⟨by rfl, ?_⟩) hHeld ?_ ?_
   (rotate_left; ·(rintro w' ⟨s0, s1, s2, s3, s4, s5⟩; go_simp; with_reducible rfl)); (rotate_left; ·(simp only [Act.put, pq_z4]; rfl))
   refine take_ (i := 1) (N := some 22) (v := ?_) (a' := ?_) #[true, true, false, false, false] rfl rfl (by kernel_rfl) (fun _ _ _ h => h) (Or.inl ⟨by rfl, ?_⟩) hHeld ?_ ?_
   (rotate_left; ·(rintro w' ⟨s0, s1, s2, s3, s4, s5⟩; go_simp; with_reducible rfl)); (rotate_left; ·(simp only [Act.put, pq_z4]; rfl))
   refine one_ (i := 2) (N := some 23) #[true, true, true, false, false] rfl rfl (by kernel_rfl) (by decide) (fun K hK => ?_)
   refine goes_ Try.func23 (by kernel_rfl) rfl #[.agg #[.int .i64 a1_0, .int .i64 a1_1, .int .i64 a1_2, .bool a1_3]] (by rfl) rfl rfl (by (try simp only [List.map_toArray, List.map_cons, List.map_nil]); first | done | rfl | (simp only [List.length_drop, List.length_take]; rfl)) ?_
   with_reducible refine (laws_toRule.calls a1_0 a1_1 a1_2 a1_3 t285 t286 t287 t288 _ A14.out).mono ?_
   rintro e w38 ⟨rfl, hb⟩
   refine ⟨_, rfl, ?_⟩
   have n0_ := Aside0.mk (Kd.R_below (by (with_reducible repeat (first | apply Kd.R_alloc | apply Kd.R_drewN | apply Kd.R_drew)); exact HO269.out) hb)
   have n1_ := Aside0.mk (Kd.S_below (by (with_reducible repeat (first | apply Kd.S_alloc | apply Kd.S_drewN | apply Kd.S_drew)); exact HO272.out) hb)
   have n2_ := Aside0.mk (Kd.R_below (by (with_reducible repeat (first | apply Kd.R_alloc | apply Kd.R_drewN | apply Kd.R_drew)); exact HO280.out) hb)
   have n3_ := Aside0.mk (Kd.S_below (by (with_reducible repeat (first | apply Kd.S_alloc | apply Kd.S_drewN | apply Kd.S_drew)); exact HO283.out) hb)
   have n4_ := Aside0.mk (blk_below (g := gb264) (o := .cells #[.slice A0_0 l0_0.length c0_0, .slice A0_1 l0_1.length c0_1] 25 (0, 0)) (by (with_reducible repeat first | apply blk_drewN | apply blk_drew | apply blk_alloc); exact BK264.out) hb)
   have n5_ := Aside0.mk (blk_below (g := gb265) (o := .cells #[.int .i64 a1_0, .int .i64 a1_1, .int .i64 a1_2, .bool a1_3] 36 (0, 0)) (by (with_reducible repeat first | apply blk_drewN | apply blk_drew | apply blk_alloc); exact BK265.out) hb)
   have n6_ := Aside0.mk (blk_below (g := gb284) (o := .cells #[.slice Ao31 t278.length co31, .slice Ao35 t281.length co35] 31 (0, 0)) (by (with_reducible repeat first | apply blk_drewN | apply blk_drew | apply blk_alloc); exact BK284.out) hb)
   have n7_ := Aside0.mk (below_step (by repeat (first | (with_reducible first | exact HB.out | apply below_alloc | apply pw_below_drewN | apply below_drew1 | refine below_set ?_ GE264.out | refine below_set ?_ GE265.out | refine below_set ?_ GE284.out) | exact HB.out)) hb)
   clear HO269
   clear HO272
   clear HO280
   clear HO283
   clear BK264
   clear BK265
   clear BK284
   clear HB
   have HO269 := n0_
   have HO272 := n1_
   have HO280 := n2_
   have HO283 := n3_
   have BK264 := n4_
   have BK265 := n5_
   have BK284 := n6_
   have HB := n7_
   clear n0_ n1_ n2_ n3_ n4_ n5_ n6_ n7_
   (try clear hb)
   (try clear hb2)
   (try clear hk)
   (try clear hi)
   refine hK.out _ _ ⟨(blk_cell BK284.out 0).trans rfl, (blk_cell BK284.out 1).trans rfl, (blk_cell BK265.out 0).trans rfl, (blk_cell BK265.out 1).trans rfl, (blk_cell BK265.out 2).trans rfl, (blk_cell BK265.out 3).trans rfl⟩ (fun hHeld => ?_)
   clear hK K
   refine norm_ (a' := ?_) ?_ ?_
   (rotate_left; ·(show Act.put _ (some 23) _ = _; simp only [Act.put, pq_z4]; rfl))
   refine one_ (i := 3) (N := some 24) #[true, true, true, true, false] rfl rfl (by kernel_rfl) (by decide) (fun K hK => ?_)
   refine goes_ Try.func24 (by kernel_rfl) rfl #[.agg #[.slice Ao31 t278.length co31, .slice Ao35 t281.length co35], .agg #[.int .i64 t285, .int .i64 t286, .int .i64 t287, .bool t288]] (by rfl) rfl rfl (by (try simp only [List.map_toArray, List.map_cons, List.map_nil]); first | done | rfl | (simp only [List.length_drop, List.length_take]; rfl)) ?_
   with_reducible refine (impl_RuleOk.calls k _ _ t278 _ _ t281 t285 t286 t287 t288 t289 _ ?side1 ?side2 ?side3 ?side4 A15.out).mono ?_
   (case side1 => repeat (first | exact (Kd.R_reads' HO280.out).2.2 | (with_reducible refine Kd.C_alloc ?_ _) | (with_reducible refine Kd.C_drewN ?_ _) | (with_reducible refine Kd.C_drew ?_)))
   (case side2 => exact (Kd.R_reads' HO280.out).2.1)
   (case side3 => repeat (first | exact (Kd.S_reads' HO283.out).2.2 | (with_reducible refine Kd.C_alloc ?_ _) | (with_reducible refine Kd.C_drewN ?_ _) | (with_reducible refine Kd.C_drew ?_)))
   (case side4 => exact (Kd.S_reads' HO283.out).2.1)
   rintro e w39 ⟨rfl, hb⟩
   refine ⟨_, rfl, ?_⟩
   have n0_ := Aside0.mk (Kd.R_below (by (with_reducible repeat (first | apply Kd.R_alloc | apply Kd.R_drewN | apply Kd.R_drew)); exact HO269.out) hb)
   have n1_ := Aside0.mk (Kd.S_below (by (with_reducible repeat (first | apply Kd.S_alloc | apply Kd.S_drewN | apply Kd.S_drew)); exact HO272.out) hb)
   have n2_ := Aside0.mk (Kd.R_below (by (with_reducible repeat (first | apply Kd.R_alloc | apply Kd.R_drewN | apply Kd.R_drew)); exact HO280.out) hb)
   have n3_ := Aside0.mk (Kd.S_below (by (with_reducible repeat (first | apply Kd.S_alloc | apply Kd.S_drewN | apply Kd.S_drew)); exact HO283.out) hb)
   have n4_ := Aside0.mk (blk_below (g := gb264) (o := .cells #[.slice A0_0 l0_0.length c0_0, .slice A0_1 l0_1.length c0_1] 25 (0, 0)) (by (with_reducible repeat first | apply blk_drewN | apply blk_drew | apply blk_alloc); exact BK264.out) hb)
   have n5_ := Aside0.mk (blk_below (g := gb265) (o := .cells #[.int .i64 a1_0, .int .i64 a1_1, .int .i64 a1_2, .bool a1_3] 36 (0, 0)) (by (with_reducible repeat first | apply blk_drewN | apply blk_drew | apply blk_alloc); exact BK265.out) hb)
   have n6_ := Aside0.mk (blk_below (g := gb284) (o := .cells #[.slice Ao31 t278.length co31, .slice Ao35 t281.length co35] 31 (0, 0)) (by (with_reducible repeat first | apply blk_drewN | apply blk_drew | apply blk_alloc); exact BK284.out) hb)
   have n7_ := Aside0.mk (below_step (by repeat (first | (with_reducible first | exact HB.out | apply below_alloc | apply pw_below_drewN | apply below_drew1 | refine below_set ?_ GE264.out | refine below_set ?_ GE265.out | refine below_set ?_ GE284.out) | exact HB.out)) hb)
   clear HO269
   clear HO272
   clear HO280
   clear HO283
   clear BK264
   clear BK265
   clear BK284
   clear HB
   have HO269 := n0_
   have HO272 := n1_
   have HO280 := n2_
   have HO283 := n3_
   have BK264 := n4_
   have BK265 := n5_
   have BK284 := n6_
   have HB := n7_
   clear n0_ n1_ n2_ n3_ n4_ n5_ n6_ n7_
   (try clear hb)
   (try clear hb2)
   (try clear hk)
   (try clear hi)
   refine hK.out _ _ ⟨(blk_cell BK284.out 0).trans rfl, (blk_cell BK284.out 1).trans rfl, (blk_cell BK265.out 0).trans rfl, (blk_cell BK265.out 1).trans rfl, (blk_cell BK265.out 2).trans rfl, (blk_cell BK265.out 3).trans rfl⟩ (fun hHeld => ?_)
   clear hK K
   refine norm_ (a' := ?_) ?_ ?_
   (rotate_left; ·(show Act.put _ (some 24) _ = _; simp only [Act.put, pq_z4]; rfl))
   refine pu_z4 4 (some 8) ?_ #[true, true, true, true, true] rfl rfl (by kernel_rfl) (fun _ _ _ h => h) (Or.inl ⟨by rfl, ?_⟩) ?_ ?_ ?_
   (rotate_left; ·(intro w'; go_simp; with_reducible rfl)); (rotate_left; ·(simp only [Act.put, pq_z4]; rfl))
   refine done_ (by kernel_rfl) ?_
   try go_wp2
   go_ret
   exact ⟨by first | rfl | (simp [*, errW_none, errW_some] <;> rfl), by repeat (first | (with_reducible first | exact HB.out | apply below_alloc | apply pw_below_drewN | apply below_drew1 | refine below_set ?_ GE264.out | refine below_set ?_ GE265.out | refine below_set ?_ GE284.out) | exact HB.out)⟩
  ·rw [if_neg c16] at H
   have c16b0 : (t289 != t277) = false := by simpa using c16
   (try (have c16b1 : decide (t289 = t277) = true := by simpa using c16))
   (try (have c16b2 : (t289 == t277) = true := by simpa using c16))
   clear c16
   replace H := Option.bind_eq_some_iff.mp H
   obtain ⟨⟨t290, t293⟩, A400, H⟩ := H
   replace H : ((laws_eqTree.f k t278 t281 t290 t293).bind fun t296 => (if t296 = true then (some true) else (some false))) = some r := H
   have A40 := Aside0.mk A400
   clear A400
   replace H := Option.bind_eq_some_iff.mp H
   obtain ⟨t296, A410, H⟩ := H
   replace H : (if t296 = true then (some true) else (some false)) = some r := H
   have A41 := Aside0.mk A410
   clear A410
   by_cases c42 : t296 = true
   ·subst c42
    have H1 : (some true) = some r := by rw [if_pos rfl] at H; exact H
    clear H
    have H := H1
    clear H1
    obtain rfl := Option.some.inj H
    go_enter Try.func4, Try.ntmps4
    try go_wp2_with (first | ((with_reducible refine gate_dst (N := 2) rfl ?_); refine box_event ?hg (N := 2) ?hd (cs := #[.slice A0_0 l0_0.length c0_0, .slice A0_1 l0_1.length c0_1]) (t := 25) ?hr ?_; (case hd => rfl); (case hg => rfl); (case hr => first | (go_simp; done) | (go_simp; rfl)); intro gb264 hg w43 hbox hb; have n0_ := Aside0.mk (below_step (by repeat first | exact HB.out | apply below_alloc | apply pw_below_drewN | apply below_drew1) hb); have n1_ := Aside0.mk (hbox); have n2_ := Aside0.mk ((by rw [hg]; exact (below_size (by repeat first | exact HB.out | apply below_alloc | apply pw_below_drewN | apply below_drew1)) : w.heap.size ≤ gb264)); have n3_ := Aside0.mk ((by rw [hg]; exact (below_size (by repeat first | exact HB.out | apply below_alloc | apply pw_below_drewN | apply below_drew1)) : w.heap.size ≤ gb264)); clear HB; have HB := n0_; have BK264 := n1_; have GW264 := n2_; have GE264 := n3_; clear n0_ n1_ n2_ n3_; clear hb hbox hg) | ((with_reducible refine gate_dst (N := 3) rfl ?_); refine box_event ?hg (N := 3) ?hd (cs := #[.int .i64 a1_0, .int .i64 a1_1, .int .i64 a1_2, .bool a1_3]) (t := 36) ?hr ?_; (case hd => rfl); (case hg => rfl); (case hr => first | (go_simp; done) | (go_simp; rfl)); intro gb265 hg w44 hbox hb; have n0_ := Aside0.mk (blk_below (g := gb264) (o := .cells #[.slice A0_0 l0_0.length c0_0, .slice A0_1 l0_1.length c0_1] 25 (0, 0)) (by (with_reducible repeat first | apply blk_drewN | apply blk_drew | apply blk_alloc); exact BK264.out) hb); have n1_ := Aside0.mk (below_step (by repeat (first | (with_reducible first | exact HB.out | apply below_alloc | apply pw_below_drewN | apply below_drew1 | refine below_set ?_ GE264.out) | exact HB.out)) hb); have n2_ := Aside0.mk (hbox); have n3_ := Aside0.mk ((by rw [hg]; exact (below_size (by repeat (first | (with_reducible first | exact HB.out | apply below_alloc | apply pw_below_drewN | apply below_drew1 | refine below_set ?_ GE264.out) | exact HB.out))) : w.heap.size ≤ gb265)); have n4_ := Aside0.mk ((by rw [hg]; exact (below_size (by repeat (first | (with_reducible first | exact HB.out | apply below_alloc | apply pw_below_drewN | apply below_drew1 | refine below_set ?_ GE264.out) | exact HB.out))) : w.heap.size ≤ gb265)); have n5_ := Aside0.mk ((by rw [hg]; exact Nat.ne_of_lt (blk_lt (g := gb264) (o := .cells #[.slice A0_0 l0_0.length c0_0, .slice A0_1 l0_1.length c0_1] 25 (0, 0)) (by (with_reducible repeat first | apply blk_drewN | apply blk_drew | apply blk_alloc); exact BK264.out)) : gb264 ≠ gb265)); have n6_ := Aside0.mk ((by rw [hg]; exact Nat.ne_of_gt (blk_lt (g := gb264) (o := .cells #[.slice A0_0 l0_0.length c0_0, .slice A0_1 l0_1.length c0_1] 25 (0, 0)) (by (with_reducible repeat first | apply blk_drewN | apply blk_drew | apply blk_alloc); exact BK264.out)) : gb265 ≠ gb264)); clear BK264; clear HB; have BK264 := n0_; have HB := n1_; have BK265 := n2_; have GW265 := n3_; have GE265 := n4_; have NB264_265 := n5_; have NB265_264 := n6_; clear n0_ n1_ n2_ n3_ n4_ n5_ n6_; clear hb hbox hg; have hnb45 := NB264_265.out; have hnc45 := NB265_264.out; have hcz46_0 : w44.cell? ⟨gb264, 0, none⟩ = some (.slice A0_0 l0_0.length c0_0) := (blk_cell BK264.out 0).trans rfl; have hcz46_1 : w44.cell? ⟨gb264, 1, none⟩ = some (.slice A0_1 l0_1.length c0_1) := (blk_cell BK264.out 1).trans rfl; have hfz46_0 := blk_frozen BK264.out 0; have hfz46_1 := blk_frozen BK264.out 1) | ((with_reducible refine gate_callee (f := 17) rfl ?_); refine goesL_ (some 11) rfl rfl Try.func17 (by kernel_rfl) rfl #[.agg #[.slice A0_0 l0_0.length c0_0, .slice A0_1 l0_1.length c0_1], .int .i64 1048576] rfl (by (try simp only [List.map_toArray, List.map_cons, List.map_nil]); first | done | rfl | (simp only [List.length_drop, List.length_take]; rfl)) ?_; (with_reducible refine (laws_szTree.calls k _ _ l0_0 _ _ l0_1 1048576 t266 _ ?side1 ?side2 ?side3 ?side4 A3.out).mono ?_); (case side1 => repeat (first | exact (Kd.C_below HR0_0.out HB.out) | (with_reducible refine Kd.C_alloc ?_ _) | (with_reducible refine Kd.C_drewN ?_ _) | (with_reducible refine Kd.C_drew ?_))); (case side2 => exact HC0_0.out); (case side3 => repeat (first | exact (Kd.C_below HR0_1.out HB.out) | (with_reducible refine Kd.C_alloc ?_ _) | (with_reducible refine Kd.C_drewN ?_ _) | (with_reducible refine Kd.C_drew ?_))); (case side4 => exact HC0_1.out); rintro e w47 ⟨rfl, hb⟩; refine ⟨_, rfl, ?_⟩; have n0_ := Aside0.mk (blk_below (g := gb264) (o := .cells #[.slice A0_0 l0_0.length c0_0, .slice A0_1 l0_1.length c0_1] 25 (0, 0)) (by (with_reducible repeat first | apply blk_drewN | apply blk_drew | apply blk_alloc); exact BK264.out) hb); have n1_ := Aside0.mk (blk_below (g := gb265) (o := .cells #[.int .i64 a1_0, .int .i64 a1_1, .int .i64 a1_2, .bool a1_3] 36 (0, 0)) (by (with_reducible repeat first | apply blk_drewN | apply blk_drew | apply blk_alloc); exact BK265.out) hb); have n2_ := Aside0.mk (below_step (by repeat (first | (with_reducible first | exact HB.out | apply below_alloc | apply pw_below_drewN | apply below_drew1 | refine below_set ?_ GE264.out | refine below_set ?_ GE265.out) | exact HB.out)) hb); clear BK264; clear BK265; clear HB; have BK264 := n0_; have BK265 := n1_; have HB := n2_; clear n0_ n1_ n2_; (try clear hb); (try clear hb2); (try clear hk); (try clear hi)))
    have n0_ := Aside0.mk (blk_drew BK264.out)
    have n1_ := Aside0.mk (blk_drew BK265.out)
    have n2_ := Aside0.mk (below_drew1 HB.out)
    clear BK264
    clear BK265
    clear HB
    have BK264 := n0_
    have BK265 := n1_
    have HB := n2_
    clear n0_ n1_ n2_
    refine start_ (n := 6) (S := fun w' => w'.cell? ⟨gb264, 0, none⟩ = some (.slice A0_0 l0_0.length c0_0) ∧ w'.cell? ⟨gb264, 1, none⟩ = some (.slice A0_1 l0_1.length c0_1) ∧ w'.cell? ⟨gb265, 0, none⟩ = some (.int .i64 a1_0) ∧ w'.cell? ⟨gb265, 1, none⟩ = some (.int .i64 a1_1) ∧ w'.cell? ⟨gb265, 2, none⟩ = some (.int .i64 a1_2) ∧ w'.cell? ⟨gb265, 3, none⟩ = some (.bool a1_3)) (ds := []) #[false, false, false, false, false, false] (by kernel_rfl) rfl rfl ⟨(blk_cell BK264.out 0).trans rfl, (blk_cell BK264.out 1).trans rfl, (blk_cell BK265.out 0).trans rfl, (blk_cell BK265.out 1).trans rfl, (blk_cell BK265.out 2).trans rfl, (blk_cell BK265.out 3).trans rfl⟩ (fun hHeld => ?_)
    generalize w47.drew = w48 at BK264 BK265 HB hHeld ⊢
    refine take_ (i := 0) (N := some 14) (v := ?_) (a' := ?_) #[true, false, false, false, false, false] rfl rfl (by kernel_rfl) (fun _ _ _ h => h) (Or.inl ⟨by rfl, ?_⟩) hHeld ?_ ?_
    (rotate_left; ·(rintro w' ⟨s0, s1, s2, s3, s4, s5⟩; go_simp; with_reducible rfl)); (rotate_left; ·(simp only [Act.put, pq_z4]; rfl))
    refine take_ (i := 2) (N := some 16) (v := ?_) (a' := ?_) #[true, false, true, false, false, false] rfl rfl (by kernel_rfl) (fun _ _ _ h => h) (Or.inl ⟨by rfl, ?_⟩) hHeld ?_ ?_
    (rotate_left; ·(rintro w' ⟨s0, s1, s2, s3, s4, s5⟩; go_simp; with_reducible rfl)); (rotate_left; ·(simp only [Act.put, pq_z4]; rfl))
    refine one_ (i := 1) (N := some 15) #[true, true, true, false, false, false] rfl rfl (by kernel_rfl) (by decide) (fun K hK => ?_)
    refine goes_ Try.func19 (by kernel_rfl) rfl #[.agg #[.slice A0_0 l0_0.length c0_0, .slice A0_1 l0_1.length c0_1]] (by rfl) rfl rfl (by (try simp only [List.map_toArray, List.map_cons, List.map_nil]); first | done | rfl | (simp only [List.length_drop, List.length_take]; rfl)) ?_
    with_reducible refine (laws_toTree.calls k _ _ l0_0 _ _ l0_1 t267 t270 _ ?side1 ?side2 ?side3 ?side4 A10.out).mono ?_
    (case side1 => repeat (first | exact (Kd.C_below HR0_0.out HB.out) | (with_reducible refine Kd.C_alloc ?_ _) | (with_reducible refine Kd.C_drewN ?_ _) | (with_reducible refine Kd.C_drew ?_)))
    (case side2 => exact HC0_0.out)
    (case side3 => repeat (first | exact (Kd.C_below HR0_1.out HB.out) | (with_reducible refine Kd.C_alloc ?_ _) | (with_reducible refine Kd.C_drewN ?_ _) | (with_reducible refine Kd.C_drew ?_)))
    (case side4 => exact HC0_1.out)
    rintro e w49 ⟨v268, v271, rfl, ho0, ho1, hb⟩
    refine ⟨_, rfl, ?_⟩
    have n0_ := Aside0.mk (Kd.R_lower ho0 (below_size (by repeat (first | (with_reducible first | exact HB.out | apply below_alloc | apply pw_below_drewN | apply below_drew1 | refine below_set ?_ GE264.out | refine below_set ?_ GE265.out) | exact HB.out))))
    have n1_ := Aside0.mk (Kd.S_lower ho1 (below_size (by repeat (first | (with_reducible first | exact HB.out | apply below_alloc | apply pw_below_drewN | apply below_drew1 | refine below_set ?_ GE264.out | refine below_set ?_ GE265.out) | exact HB.out))))
    have n2_ := Aside0.mk (blk_below (g := gb264) (o := .cells #[.slice A0_0 l0_0.length c0_0, .slice A0_1 l0_1.length c0_1] 25 (0, 0)) (by (with_reducible repeat first | apply blk_drewN | apply blk_drew | apply blk_alloc); exact BK264.out) hb)
    have n3_ := Aside0.mk (blk_below (g := gb265) (o := .cells #[.int .i64 a1_0, .int .i64 a1_1, .int .i64 a1_2, .bool a1_3] 36 (0, 0)) (by (with_reducible repeat first | apply blk_drewN | apply blk_drew | apply blk_alloc); exact BK265.out) hb)
    have n4_ := Aside0.mk (below_step (by repeat (first | (with_reducible first | exact HB.out | apply below_alloc | apply pw_below_drewN | apply below_drew1 | refine below_set ?_ GE264.out | refine below_set ?_ GE265.out) | exact HB.out)) hb)
    clear BK264
    clear BK265
    clear HB
    have HO269 := n0_
    have HO272 := n1_
    have BK264 := n2_
    have BK265 := n3_
    have HB := n4_
    clear n0_ n1_ n2_ n3_ n4_
    (try clear hb)
    (try clear hb2)
    (try clear hk)
    (try clear hi)
    (try clear ho0)
    (try clear ho1)
    refine hK.out _ _ ⟨(blk_cell BK264.out 0).trans rfl, (blk_cell BK264.out 1).trans rfl, (blk_cell BK265.out 0).trans rfl, (blk_cell BK265.out 1).trans rfl, (blk_cell BK265.out 2).trans rfl, (blk_cell BK265.out 3).trans rfl⟩ (fun hHeld => ?_)
    clear hK K
    refine norm_ (a' := ?_) ?_ ?_
    (rotate_left; ·(show Act.put _ (some 15) _ = _; simp only [Act.put, pq_z4]; rfl))
    refine one_ (i := 3) (N := some 17) #[true, true, true, true, false, false] rfl rfl (by kernel_rfl) (by decide) (fun K hK => ?_)
    refine goes_ Try.func23 (by kernel_rfl) rfl #[.agg #[.int .i64 a1_0, .int .i64 a1_1, .int .i64 a1_2, .bool a1_3]] (by rfl) rfl rfl (by (try simp only [List.map_toArray, List.map_cons, List.map_nil]); first | done | rfl | (simp only [List.length_drop, List.length_take]; rfl)) ?_
    with_reducible refine (laws_toRule.calls a1_0 a1_1 a1_2 a1_3 t273 t274 t275 t276 _ A11.out).mono ?_
    rintro e w50 ⟨rfl, hb⟩
    refine ⟨_, rfl, ?_⟩
    have n0_ := Aside0.mk (Kd.R_below (by (with_reducible repeat (first | apply Kd.R_alloc | apply Kd.R_drewN | apply Kd.R_drew)); exact HO269.out) hb)
    have n1_ := Aside0.mk (Kd.S_below (by (with_reducible repeat (first | apply Kd.S_alloc | apply Kd.S_drewN | apply Kd.S_drew)); exact HO272.out) hb)
    have n2_ := Aside0.mk (blk_below (g := gb264) (o := .cells #[.slice A0_0 l0_0.length c0_0, .slice A0_1 l0_1.length c0_1] 25 (0, 0)) (by (with_reducible repeat first | apply blk_drewN | apply blk_drew | apply blk_alloc); exact BK264.out) hb)
    have n3_ := Aside0.mk (blk_below (g := gb265) (o := .cells #[.int .i64 a1_0, .int .i64 a1_1, .int .i64 a1_2, .bool a1_3] 36 (0, 0)) (by (with_reducible repeat first | apply blk_drewN | apply blk_drew | apply blk_alloc); exact BK265.out) hb)
    have n4_ := Aside0.mk (below_step (by repeat (first | (with_reducible first | exact HB.out | apply below_alloc | apply pw_below_drewN | apply below_drew1 | refine below_set ?_ GE264.out | refine below_set ?_ GE265.out) | exact HB.out)) hb)
    clear HO269
    clear HO272
    clear BK264
    clear BK265
    clear HB
    have HO269 := n0_
    have HO272 := n1_
    have BK264 := n2_
    have BK265 := n3_
    have HB := n4_
    clear n0_ n1_ n2_ n3_ n4_
    (try clear hb)
    (try clear hb2)
    (try clear hk)
    (try clear hi)
    obtain ⟨Ao51, co51, eo51⟩ := Kd.R_slice HO269.out
    (first | subst eo51 | (injection eo51 with f1_ f2_ f3_; have f4_ := f1_.symm; have f5_ := f3_.symm; clear f1_ f2_ f3_; subst f4_; subst f5_))
    obtain ⟨Ao52, co52, eo52⟩ := Kd.S_slice HO272.out
    (first | subst eo52 | (injection eo52 with f1_ f2_ f3_; have f4_ := f1_.symm; have f5_ := f3_.symm; clear f1_ f2_ f3_; subst f4_; subst f5_))
    refine hK.out _ _ ⟨(blk_cell BK264.out 0).trans rfl, (blk_cell BK264.out 1).trans rfl, (blk_cell BK265.out 0).trans rfl, (blk_cell BK265.out 1).trans rfl, (blk_cell BK265.out 2).trans rfl, (blk_cell BK265.out 3).trans rfl⟩ (fun hHeld => ?_)
    clear hK K
    refine norm_ (a' := ?_) ?_ ?_
    (rotate_left; ·(show Act.put _ (some 17) _ = _; simp only [Act.put, pq_z4]; rfl))
    refine one_ (i := 4) (N := some 18) #[true, true, true, true, true, false] rfl rfl (by kernel_rfl) (by decide) (fun K hK => ?_)
    refine goes_ Try.func22 (by kernel_rfl) rfl #[.agg #[.slice Ao51 t267.length co51, .slice Ao52 t270.length co52], .agg #[.int .i64 t273, .int .i64 t274, .int .i64 t275, .bool t276]] (by rfl) rfl rfl (by (try simp only [List.map_toArray, List.map_cons, List.map_nil]); first | done | rfl | (simp only [List.length_drop, List.length_take]; rfl)) ?_
    with_reducible refine (spec_RuleOk.calls k _ _ t267 _ _ t270 t273 t274 t275 t276 t277 _ ?side1 ?side2 ?side3 ?side4 A12.out).mono ?_
    (case side1 => repeat (first | exact (Kd.R_reads' HO269.out).2.2 | (with_reducible refine Kd.C_alloc ?_ _) | (with_reducible refine Kd.C_drewN ?_ _) | (with_reducible refine Kd.C_drew ?_)))
    (case side2 => exact (Kd.R_reads' HO269.out).2.1)
    (case side3 => repeat (first | exact (Kd.S_reads' HO272.out).2.2 | (with_reducible refine Kd.C_alloc ?_ _) | (with_reducible refine Kd.C_drewN ?_ _) | (with_reducible refine Kd.C_drew ?_)))
    (case side4 => exact (Kd.S_reads' HO272.out).2.1)
    rintro e w53 ⟨rfl, hb⟩
    refine ⟨_, rfl, ?_⟩
    have n0_ := Aside0.mk (Kd.R_below (by (with_reducible repeat (first | apply Kd.R_alloc | apply Kd.R_drewN | apply Kd.R_drew)); exact HO269.out) hb)
    have n1_ := Aside0.mk (Kd.S_below (by (with_reducible repeat (first | apply Kd.S_alloc | apply Kd.S_drewN | apply Kd.S_drew)); exact HO272.out) hb)
    have n2_ := Aside0.mk (blk_below (g := gb264) (o := .cells #[.slice A0_0 l0_0.length c0_0, .slice A0_1 l0_1.length c0_1] 25 (0, 0)) (by (with_reducible repeat first | apply blk_drewN | apply blk_drew | apply blk_alloc); exact BK264.out) hb)
    have n3_ := Aside0.mk (blk_below (g := gb265) (o := .cells #[.int .i64 a1_0, .int .i64 a1_1, .int .i64 a1_2, .bool a1_3] 36 (0, 0)) (by (with_reducible repeat first | apply blk_drewN | apply blk_drew | apply blk_alloc); exact BK265.out) hb)
    have n4_ := Aside0.mk (below_step (by repeat (first | (with_reducible first | exact HB.out | apply below_alloc | apply pw_below_drewN | apply below_drew1 | refine below_set ?_ GE264.out | refine below_set ?_ GE265.out) | exact HB.out)) hb)
    clear HO269
    clear HO272
    clear BK264
    clear BK265
    clear HB
    have HO269 := n0_
    have HO272 := n1_
    have BK264 := n2_
    have BK265 := n3_
    have HB := n4_
    clear n0_ n1_ n2_ n3_ n4_
    (try clear hb)
    (try clear hb2)
    (try clear hk)
    (try clear hi)
    refine hK.out _ _ ⟨(blk_cell BK264.out 0).trans rfl, (blk_cell BK264.out 1).trans rfl, (blk_cell BK265.out 0).trans rfl, (blk_cell BK265.out 1).trans rfl, (blk_cell BK265.out 2).trans rfl, (blk_cell BK265.out 3).trans rfl⟩ (fun hHeld => ?_)
    clear hK K
    refine norm_ (a' := ?_) ?_ ?_
    (rotate_left; ·(show Act.put _ (some 18) _ = _; simp only [Act.put, pq_z4]; rfl))
    refine pu_z4 5 (some 6) ?_ #[true, true, true, true, true, true] rfl rfl (by kernel_rfl) (fun _ _ _ h => h) (Or.inl ⟨by rfl, ?_⟩) ?_ ?_ ?_
    (rotate_left; ·(intro w'; go_simp; with_reducible rfl)); (rotate_left; ·(simp only [Act.put, pq_z4]; rfl))
    refine done_ (by kernel_rfl) ?_
    have hcz54_0 : w53.cell? ⟨gb264, 0, none⟩ = some (.slice A0_0 l0_0.length c0_0) := (blk_cell BK264.out 0).trans rfl
    have hcz54_1 : w53.cell? ⟨gb264, 1, none⟩ = some (.slice A0_1 l0_1.length c0_1) := (blk_cell BK264.out 1).trans rfl
    have hfz54_0 := blk_frozen BK264.out 0
    have hfz54_1 := blk_frozen BK264.out 1
    try go_wp2_with (first | ((with_reducible refine gate_callee (f := 19) rfl ?_); refine goesL_ (some 20) rfl rfl Try.func19 (by kernel_rfl) rfl #[.agg #[.slice A0_0 l0_0.length c0_0, .slice A0_1 l0_1.length c0_1]] rfl (by (try simp only [List.map_toArray, List.map_cons, List.map_nil]); first | done | rfl | (simp only [List.length_drop, List.length_take]; rfl)) ?_; (with_reducible refine (laws_toTree.calls k _ _ l0_0 _ _ l0_1 t278 t281 _ ?side1 ?side2 ?side3 ?side4 A13.out).mono ?_); (case side1 => repeat (first | exact (Kd.C_below HR0_0.out HB.out) | (with_reducible refine Kd.C_alloc ?_ _) | (with_reducible refine Kd.C_drewN ?_ _) | (with_reducible refine Kd.C_drew ?_))); (case side2 => exact HC0_0.out); (case side3 => repeat (first | exact (Kd.C_below HR0_1.out HB.out) | (with_reducible refine Kd.C_alloc ?_ _) | (with_reducible refine Kd.C_drewN ?_ _) | (with_reducible refine Kd.C_drew ?_))); (case side4 => exact HC0_1.out); rintro e w55 ⟨v279, v282, rfl, ho0, ho1, hb⟩; refine ⟨_, rfl, ?_⟩; have n0_ := Aside0.mk (Kd.R_elder' (by (with_reducible repeat (first | apply Kd.R_alloc | apply Kd.R_drewN | apply Kd.R_drew)); exact HO269.out) (Kd.R_base ho0) hb); have n1_ := Aside0.mk (Kd.S_elder' (by (with_reducible repeat (first | apply Kd.S_alloc | apply Kd.S_drewN | apply Kd.S_drew)); exact HO272.out) (Kd.S_base ho1) hb); have n2_ := Aside0.mk (Kd.R_lower (Kd.R_new' ho0 (Kd.R_lt (by (with_reducible repeat (first | apply Kd.R_alloc | apply Kd.R_drewN | apply Kd.R_drew)); exact HO269.out))) (below_size (by repeat (first | (with_reducible first | exact HB.out | apply below_alloc | apply pw_below_drewN | apply below_drew1 | refine below_set ?_ GE264.out | refine below_set ?_ GE265.out) | exact HB.out)))); have n3_ := Aside0.mk (Kd.S_lower (Kd.S_new' ho1 (Kd.S_lt (by (with_reducible repeat (first | apply Kd.S_alloc | apply Kd.S_drewN | apply Kd.S_drew)); exact HO272.out))) (below_size (by repeat (first | (with_reducible first | exact HB.out | apply below_alloc | apply pw_below_drewN | apply below_drew1 | refine below_set ?_ GE264.out | refine below_set ?_ GE265.out) | exact HB.out)))); have n4_ := Aside0.mk (blk_below (g := gb264) (o := .cells #[.slice A0_0 l0_0.length c0_0, .slice A0_1 l0_1.length c0_1] 25 (0, 0)) (by (with_reducible repeat first | apply blk_drewN | apply blk_drew | apply blk_alloc); exact BK264.out) hb); have n5_ := Aside0.mk (blk_below (g := gb265) (o := .cells #[.int .i64 a1_0, .int .i64 a1_1, .int .i64 a1_2, .bool a1_3] 36 (0, 0)) (by (with_reducible repeat first | apply blk_drewN | apply blk_drew | apply blk_alloc); exact BK265.out) hb); have n6_ := Aside0.mk (below_step (by repeat (first | (with_reducible first | exact HB.out | apply below_alloc | apply pw_below_drewN | apply below_drew1 | refine below_set ?_ GE264.out | refine below_set ?_ GE265.out) | exact HB.out)) hb); clear HO269; clear HO272; clear BK264; clear BK265; clear HB; have HO269 := n0_; have HO272 := n1_; have HO280 := n2_; have HO283 := n3_; have BK264 := n4_; have BK265 := n5_; have HB := n6_; clear n0_ n1_ n2_ n3_ n4_ n5_ n6_; (try clear hb); (try clear hb2); (try clear hk); (try clear hi); (try clear ho0); (try clear ho1)) | ((with_reducible refine gate_dst (N := 7) rfl ?_); refine box_event ?hg (N := 7) ?hd (cs := #[.slice none 0 0, .slice none 0 0]) (t := 31) ?hr ?_; (case hd => rfl); (case hg => rfl); (case hr => first | (go_simp; done) | (go_simp; rfl)); intro gb284 hg w56 hbox hb; have n0_ := Aside0.mk (Kd.R_below (by (with_reducible repeat (first | apply Kd.R_alloc | apply Kd.R_drewN | apply Kd.R_drew)); exact HO269.out) hb); have n1_ := Aside0.mk (Kd.S_below (by (with_reducible repeat (first | apply Kd.S_alloc | apply Kd.S_drewN | apply Kd.S_drew)); exact HO272.out) hb); have n2_ := Aside0.mk (Kd.R_below (by (with_reducible repeat (first | apply Kd.R_alloc | apply Kd.R_drewN | apply Kd.R_drew)); exact HO280.out) hb); have n3_ := Aside0.mk (Kd.S_below (by (with_reducible repeat (first | apply Kd.S_alloc | apply Kd.S_drewN | apply Kd.S_drew)); exact HO283.out) hb); have n4_ := Aside0.mk (blk_below (g := gb264) (o := .cells #[.slice A0_0 l0_0.length c0_0, .slice A0_1 l0_1.length c0_1] 25 (0, 0)) (by (with_reducible repeat first | apply blk_drewN | apply blk_drew | apply blk_alloc); exact BK264.out) hb); have n5_ := Aside0.mk (blk_below (g := gb265) (o := .cells #[.int .i64 a1_0, .int .i64 a1_1, .int .i64 a1_2, .bool a1_3] 36 (0, 0)) (by (with_reducible repeat first | apply blk_drewN | apply blk_drew | apply blk_alloc); exact BK265.out) hb); have n6_ := Aside0.mk (below_step (by repeat (first | (with_reducible first | exact HB.out | apply below_alloc | apply pw_below_drewN | apply below_drew1 | refine below_set ?_ GE264.out | refine below_set ?_ GE265.out) | exact HB.out)) hb); have n7_ := Aside0.mk (hbox); have n8_ := Aside0.mk ((by rw [hg]; exact (below_size (by repeat (first | (with_reducible first | exact HB.out | apply below_alloc | apply pw_below_drewN | apply below_drew1 | refine below_set ?_ GE264.out | refine below_set ?_ GE265.out) | exact HB.out))) : w.heap.size ≤ gb284)); have n9_ := Aside0.mk ((by rw [hg]; exact (below_size (by repeat (first | (with_reducible first | exact HB.out | apply below_alloc | apply pw_below_drewN | apply below_drew1 | refine below_set ?_ GE264.out | refine below_set ?_ GE265.out) | exact HB.out))) : w.heap.size ≤ gb284)); have n10_ := Aside0.mk ((by rw [hg]; exact Nat.ne_of_lt (blk_lt (g := gb264) (o := .cells #[.slice A0_0 l0_0.length c0_0, .slice A0_1 l0_1.length c0_1] 25 (0, 0)) (by (with_reducible repeat first | apply blk_drewN | apply blk_drew | apply blk_alloc); exact BK264.out)) : gb264 ≠ gb284)); have n11_ := Aside0.mk ((by rw [hg]; exact Nat.ne_of_gt (blk_lt (g := gb264) (o := .cells #[.slice A0_0 l0_0.length c0_0, .slice A0_1 l0_1.length c0_1] 25 (0, 0)) (by (with_reducible repeat first | apply blk_drewN | apply blk_drew | apply blk_alloc); exact BK264.out)) : gb284 ≠ gb264)); have n12_ := Aside0.mk ((by rw [hg]; exact Nat.ne_of_lt (blk_lt (g := gb265) (o := .cells #[.int .i64 a1_0, .int .i64 a1_1, .int .i64 a1_2, .bool a1_3] 36 (0, 0)) (by (with_reducible repeat first | apply blk_drewN | apply blk_drew | apply blk_alloc); exact BK265.out)) : gb265 ≠ gb284)); have n13_ := Aside0.mk ((by rw [hg]; exact Nat.ne_of_gt (blk_lt (g := gb265) (o := .cells #[.int .i64 a1_0, .int .i64 a1_1, .int .i64 a1_2, .bool a1_3] 36 (0, 0)) (by (with_reducible repeat first | apply blk_drewN | apply blk_drew | apply blk_alloc); exact BK265.out)) : gb284 ≠ gb265)); clear HO269; clear HO272; clear HO280; clear HO283; clear BK264; clear BK265; clear HB; have HO269 := n0_; have HO272 := n1_; have HO280 := n2_; have HO283 := n3_; have BK264 := n4_; have BK265 := n5_; have HB := n6_; have BK284 := n7_; have GW284 := n8_; have GE284 := n9_; have NB264_284 := n10_; have NB284_264 := n11_; have NB265_284 := n12_; have NB284_265 := n13_; clear n0_ n1_ n2_ n3_ n4_ n5_ n6_ n7_ n8_ n9_ n10_ n11_ n12_ n13_; clear hb hbox hg; obtain ⟨Ao57, co57, eo57⟩ := Kd.R_slice HO280.out; subst eo57; have hnb58 := NB284_264.out; have hnc58 := NB264_284.out; have hnb59 := NB284_265.out; have hnc59 := NB265_284.out; have hcz60_0 : w56.cell? ⟨gb284, 0, none⟩ = some (.slice none 0 0) := (blk_cell BK284.out 0).trans rfl; have hcz60_1 : w56.cell? ⟨gb284, 1, none⟩ = some (.slice none 0 0) := (blk_cell BK284.out 1).trans rfl; have hfz60_0 := blk_frozen BK284.out 0; have hfz60_1 := blk_frozen BK284.out 1; obtain ⟨Ao61, co61, eo61⟩ := Kd.S_slice HO283.out; subst eo61))
    have n0_ : Aside0 (Kd.R k58 58 ((w56.setCell ⟨gb284, 0, none⟩ (.slice Ao57 t278.length co57)).setCell ⟨gb284, 1, none⟩ (.slice Ao61 t281.length co61)) w.heap.size (fun k_ => some k_ ≠ (.slice Ao57 t278.length co57 : Value).ownBlock) (.slice Ao51 t267.length co51) t267) := ⟨by (with_reducible repeat (first | apply Kd.R_alloc | apply Kd.R_drewN | apply Kd.R_drew)); exact Kd.R_mono (Kd.R_far (p := ⟨gb284, 1, none⟩) (Kd.R_far (p := ⟨gb284, 0, none⟩) (Kd.R_types HO269.out BK284.out (by decide)) (fun _ hk => hk.2) (.slice Ao57 t278.length co57)) (fun _ hk => hk.2) (.slice Ao61 t281.length co61)) (fun _ hk => hk.1.2)⟩
    have n1_ : Aside0 (Kd.S k84 84 ((w56.setCell ⟨gb284, 0, none⟩ (.slice Ao57 t278.length co57)).setCell ⟨gb284, 1, none⟩ (.slice Ao61 t281.length co61)) w.heap.size (fun k_ => some k_ ≠ (.slice Ao61 t281.length co61 : Value).ownBlock) (.slice Ao52 t270.length co52) t270) := ⟨by (with_reducible repeat (first | apply Kd.S_alloc | apply Kd.S_drewN | apply Kd.S_drew)); exact Kd.S_mono (Kd.S_far (p := ⟨gb284, 1, none⟩) (Kd.S_far (p := ⟨gb284, 0, none⟩) (Kd.S_types HO272.out BK284.out (by decide)) (fun _ hk => hk.2) (.slice Ao57 t278.length co57)) (fun _ hk => hk.2) (.slice Ao61 t281.length co61)) (fun _ hk => hk.1.2)⟩
    have n2_ : Aside0 (Kd.R k58 58 ((w56.setCell ⟨gb284, 0, none⟩ (.slice Ao57 t278.length co57)).setCell ⟨gb284, 1, none⟩ (.slice Ao61 t281.length co61)) w.heap.size (fun k_ => some k_ ≠ (.slice Ao51 t267.length co51 : Value).ownBlock) (.slice Ao57 t278.length co57) t278) := ⟨by (with_reducible repeat (first | apply Kd.R_alloc | apply Kd.R_drewN | apply Kd.R_drew)); exact Kd.R_mono (Kd.R_far (p := ⟨gb284, 1, none⟩) (Kd.R_far (p := ⟨gb284, 0, none⟩) (Kd.R_types HO280.out BK284.out (by decide)) (fun _ hk => hk.2) (.slice Ao57 t278.length co57)) (fun _ hk => hk.2) (.slice Ao61 t281.length co61)) (fun _ hk => hk.1.2)⟩
    have n3_ : Aside0 (Kd.S k84 84 ((w56.setCell ⟨gb284, 0, none⟩ (.slice Ao57 t278.length co57)).setCell ⟨gb284, 1, none⟩ (.slice Ao61 t281.length co61)) w.heap.size (fun k_ => some k_ ≠ (.slice Ao52 t270.length co52 : Value).ownBlock) (.slice Ao61 t281.length co61) t281) := ⟨by (with_reducible repeat (first | apply Kd.S_alloc | apply Kd.S_drewN | apply Kd.S_drew)); exact Kd.S_mono (Kd.S_far (p := ⟨gb284, 1, none⟩) (Kd.S_far (p := ⟨gb284, 0, none⟩) (Kd.S_types HO283.out BK284.out (by decide)) (fun _ hk => hk.2) (.slice Ao57 t278.length co57)) (fun _ hk => hk.2) (.slice Ao61 t281.length co61)) (fun _ hk => hk.1.2)⟩
    have n4_ : Aside0 (((w56.setCell ⟨gb284, 0, none⟩ (.slice Ao57 t278.length co57)).setCell ⟨gb284, 1, none⟩ (.slice Ao61 t281.length co61)).heap[gb264]? = some (.cells #[.slice A0_0 l0_0.length c0_0, .slice A0_1 l0_1.length c0_1] 25 (0, 0))) := ⟨by (with_reducible repeat first | apply blk_drewN | apply blk_drew | apply blk_alloc); refine blk_far ?_ NB264_284.out _; (with_reducible repeat first | apply blk_drewN | apply blk_drew | apply blk_alloc); refine blk_far ?_ NB264_284.out _; (with_reducible repeat first | apply blk_drewN | apply blk_drew | apply blk_alloc); exact BK264.out⟩
    have n5_ : Aside0 (((w56.setCell ⟨gb284, 0, none⟩ (.slice Ao57 t278.length co57)).setCell ⟨gb284, 1, none⟩ (.slice Ao61 t281.length co61)).heap[gb265]? = some (.cells #[.int .i64 a1_0, .int .i64 a1_1, .int .i64 a1_2, .bool a1_3] 36 (0, 0))) := ⟨by (with_reducible repeat first | apply blk_drewN | apply blk_drew | apply blk_alloc); refine blk_far ?_ NB265_284.out _; (with_reducible repeat first | apply blk_drewN | apply blk_drew | apply blk_alloc); refine blk_far ?_ NB265_284.out _; (with_reducible repeat first | apply blk_drewN | apply blk_drew | apply blk_alloc); exact BK265.out⟩
    have n6_ : Aside0 (((w56.setCell ⟨gb284, 0, none⟩ (.slice Ao57 t278.length co57)).setCell ⟨gb284, 1, none⟩ (.slice Ao61 t281.length co61)).heap[gb284]? = some (.cells #[.slice Ao57 t278.length co57, .slice Ao61 t281.length co61] 31 (0, 0))) := ⟨by (with_reducible repeat first | apply blk_drewN | apply blk_drew | apply blk_alloc); refine blk_put (cs := #[.slice Ao57 t278.length co57, .slice none 0 0]) ?_ 1 _ rfl; (with_reducible repeat first | apply blk_drewN | apply blk_drew | apply blk_alloc); refine blk_put (cs := #[.slice none 0 0, .slice none 0 0]) ?_ 0 _ rfl; (with_reducible repeat first | apply blk_drewN | apply blk_drew | apply blk_alloc); exact BK284.out⟩
    have n7_ : Aside0 (Below w.heap.size w ((w56.setCell ⟨gb284, 0, none⟩ (.slice Ao57 t278.length co57)).setCell ⟨gb284, 1, none⟩ (.slice Ao61 t281.length co61))) := ⟨by repeat (first | (with_reducible first | exact HB.out | apply below_alloc | apply pw_below_drewN | apply below_drew1 | refine below_set ?_ GE264.out | refine below_set ?_ GE265.out | refine below_set ?_ GE284.out) | exact HB.out)⟩
    (try clear HO269)
    (try clear HO272)
    (try clear HO280)
    (try clear HO283)
    (try clear BK264)
    (try clear BK265)
    (try clear BK284)
    (try clear HB)
    generalize ((w56.setCell ⟨gb284, 0, none⟩ (.slice Ao57 t278.length co57)).setCell ⟨gb284, 1, none⟩ (.slice Ao61 t281.length co61)) = w62 at n0_ n1_ n2_ n3_ n4_ n5_ n6_ n7_ ⊢
    have HO269 := n0_
    have HO272 := n1_
    have HO280 := n2_
    have HO283 := n3_
    have BK264 := n4_
    have BK265 := n5_
    have BK284 := n6_
    have HB := n7_
    clear n0_ n1_ n2_ n3_ n4_ n5_ n6_ n7_
    have n0_ := Aside0.mk (Kd.R_drew HO269.out)
    have n1_ := Aside0.mk (Kd.S_drew HO272.out)
    have n2_ := Aside0.mk (Kd.R_drew HO280.out)
    have n3_ := Aside0.mk (Kd.S_drew HO283.out)
    have n4_ := Aside0.mk (blk_drew BK264.out)
    have n5_ := Aside0.mk (blk_drew BK265.out)
    have n6_ := Aside0.mk (blk_drew BK284.out)
    have n7_ := Aside0.mk (below_drew1 HB.out)
    clear HO269
    clear HO272
    clear HO280
    clear HO283
    clear BK264
    clear BK265
    clear BK284
    clear HB
    have HO269 := n0_
    have HO272 := n1_
    have HO280 := n2_
    have HO283 := n3_
    have BK264 := n4_
    have BK265 := n5_
    have BK284 := n6_
    have HB := n7_
    clear n0_ n1_ n2_ n3_ n4_ n5_ n6_ n7_
    refine start_ (n := 5) (S := fun w' => w'.cell? ⟨gb284, 0, none⟩ = some (.slice Ao57 t278.length co57) ∧ w'.cell? ⟨gb284, 1, none⟩ = some (.slice Ao61 t281.length co61) ∧ w'.cell? ⟨gb265, 0, none⟩ = some (.int .i64 a1_0) ∧ w'.cell? ⟨gb265, 1, none⟩ = some (.int .i64 a1_1) ∧ w'.cell? ⟨gb265, 2, none⟩ = some (.int .i64 a1_2) ∧ w'.cell? ⟨gb265, 3, none⟩ = some (.bool a1_3)) (ds := []) #[false, false, false, false, false] (by kernel_rfl) rfl rfl ⟨(blk_cell BK284.out 0).trans rfl, (blk_cell BK284.out 1).trans rfl, (blk_cell BK265.out 0).trans rfl, (blk_cell BK265.out 1).trans rfl, (blk_cell BK265.out 2).trans rfl, (blk_cell BK265.out 3).trans rfl⟩ (fun hHeld => ?_)
    generalize w62.drew = w63 at HO269 HO272 HO280 HO283 BK264 BK265 BK284 HB hHeld ⊢
    refine take_ (i := 0) (N := some 21) (v := ?_) (a' := ?_) #[true, false, false, false, false] rfl rfl (by kernel_rfl) (fun _ _ _ h => h) (Or.inl ⟨by rfl, ?_⟩) hHeld ?_ ?_
    (rotate_left; ·(rintro w' ⟨s0, s1, s2, s3, s4, s5⟩; go_simp; with_reducible rfl)); (rotate_left; ·(simp only [Act.put, pq_z4]; rfl))
    refine take_ (i := 1) (N := some 22) (v := ?_) (a' := ?_) #[true, true, false, false, false] rfl rfl (by kernel_rfl) (fun _ _ _ h => h) (Or.inl ⟨by rfl, ?_⟩) hHeld ?_ ?_
    (rotate_left; ·(rintro w' ⟨s0, s1, s2, s3, s4, s5⟩; go_simp; with_reducible rfl)); (rotate_left; ·(simp only [Act.put, pq_z4]; rfl))
    refine one_ (i := 2) (N := some 23) #[true, true, true, false, false] rfl rfl (by kernel_rfl) (by decide) (fun K hK => ?_)
    refine goes_ Try.func23 (by kernel_rfl) rfl #[.agg #[.int .i64 a1_0, .int .i64 a1_1, .int .i64 a1_2, .bool a1_3]] (by rfl) rfl rfl (by (try simp only [List.map_toArray, List.map_cons, List.map_nil]); first | done | rfl | (simp only [List.length_drop, List.length_take]; rfl)) ?_
    with_reducible refine (laws_toRule.calls a1_0 a1_1 a1_2 a1_3 t285 t286 t287 t288 _ A14.out).mono ?_
    rintro e w64 ⟨rfl, hb⟩
    refine ⟨_, rfl, ?_⟩
    have n0_ := Aside0.mk (Kd.R_below (by (with_reducible repeat (first | apply Kd.R_alloc | apply Kd.R_drewN | apply Kd.R_drew)); exact HO269.out) hb)
    have n1_ := Aside0.mk (Kd.S_below (by (with_reducible repeat (first | apply Kd.S_alloc | apply Kd.S_drewN | apply Kd.S_drew)); exact HO272.out) hb)
    have n2_ := Aside0.mk (Kd.R_below (by (with_reducible repeat (first | apply Kd.R_alloc | apply Kd.R_drewN | apply Kd.R_drew)); exact HO280.out) hb)
    have n3_ := Aside0.mk (Kd.S_below (by (with_reducible repeat (first | apply Kd.S_alloc | apply Kd.S_drewN | apply Kd.S_drew)); exact HO283.out) hb)
    have n4_ := Aside0.mk (blk_below (g := gb264) (o := .cells #[.slice A0_0 l0_0.length c0_0, .slice A0_1 l0_1.length c0_1] 25 (0, 0)) (by (with_reducible repeat first | apply blk_drewN | apply blk_drew | apply blk_alloc); exact BK264.out) hb)
    have n5_ := Aside0.mk (blk_below (g := gb265) (o := .cells #[.int .i64 a1_0, .int .i64 a1_1, .int .i64 a1_2, .bool a1_3] 36 (0, 0)) (by (with_reducible repeat first | apply blk_drewN | apply blk_drew | apply blk_alloc); exact BK265.out) hb)
    have n6_ := Aside0.mk (blk_below (g := gb284) (o := .cells #[.slice Ao57 t278.length co57, .slice Ao61 t281.length co61] 31 (0, 0)) (by (with_reducible repeat first | apply blk_drewN | apply blk_drew | apply blk_alloc); exact BK284.out) hb)
    have n7_ := Aside0.mk (below_step (by repeat (first | (with_reducible first | exact HB.out | apply below_alloc | apply pw_below_drewN | apply below_drew1 | refine below_set ?_ GE264.out | refine below_set ?_ GE265.out | refine below_set ?_ GE284.out) | exact HB.out)) hb)
    clear HO269
    clear HO272
    clear HO280
    clear HO283
    clear BK264
    clear BK265
    clear BK284
    clear HB
    have HO269 := n0_
    have HO272 := n1_
    have HO280 := n2_
    have HO283 := n3_
    have BK264 := n4_
    have BK265 := n5_
    have BK284 := n6_
    have HB := n7_
    clear n0_ n1_ n2_ n3_ n4_ n5_ n6_ n7_
    (try clear hb)
    (try clear hb2)
    (try clear hk)
    (try clear hi)
    refine hK.out _ _ ⟨(blk_cell BK284.out 0).trans rfl, (blk_cell BK284.out 1).trans rfl, (blk_cell BK265.out 0).trans rfl, (blk_cell BK265.out 1).trans rfl, (blk_cell BK265.out 2).trans rfl, (blk_cell BK265.out 3).trans rfl⟩ (fun hHeld => ?_)
    clear hK K
    refine norm_ (a' := ?_) ?_ ?_
    (rotate_left; ·(show Act.put _ (some 23) _ = _; simp only [Act.put, pq_z4]; rfl))
    refine one_ (i := 3) (N := some 24) #[true, true, true, true, false] rfl rfl (by kernel_rfl) (by decide) (fun K hK => ?_)
    refine goes_ Try.func24 (by kernel_rfl) rfl #[.agg #[.slice Ao57 t278.length co57, .slice Ao61 t281.length co61], .agg #[.int .i64 t285, .int .i64 t286, .int .i64 t287, .bool t288]] (by rfl) rfl rfl (by (try simp only [List.map_toArray, List.map_cons, List.map_nil]); first | done | rfl | (simp only [List.length_drop, List.length_take]; rfl)) ?_
    with_reducible refine (impl_RuleOk.calls k _ _ t278 _ _ t281 t285 t286 t287 t288 t289 _ ?side1 ?side2 ?side3 ?side4 A15.out).mono ?_
    (case side1 => repeat (first | exact (Kd.R_reads' HO280.out).2.2 | (with_reducible refine Kd.C_alloc ?_ _) | (with_reducible refine Kd.C_drewN ?_ _) | (with_reducible refine Kd.C_drew ?_)))
    (case side2 => exact (Kd.R_reads' HO280.out).2.1)
    (case side3 => repeat (first | exact (Kd.S_reads' HO283.out).2.2 | (with_reducible refine Kd.C_alloc ?_ _) | (with_reducible refine Kd.C_drewN ?_ _) | (with_reducible refine Kd.C_drew ?_)))
    (case side4 => exact (Kd.S_reads' HO283.out).2.1)
    rintro e w65 ⟨rfl, hb⟩
    refine ⟨_, rfl, ?_⟩
    have n0_ := Aside0.mk (Kd.R_below (by (with_reducible repeat (first | apply Kd.R_alloc | apply Kd.R_drewN | apply Kd.R_drew)); exact HO269.out) hb)
    have n1_ := Aside0.mk (Kd.S_below (by (with_reducible repeat (first | apply Kd.S_alloc | apply Kd.S_drewN | apply Kd.S_drew)); exact HO272.out) hb)
    have n2_ := Aside0.mk (Kd.R_below (by (with_reducible repeat (first | apply Kd.R_alloc | apply Kd.R_drewN | apply Kd.R_drew)); exact HO280.out) hb)
    have n3_ := Aside0.mk (Kd.S_below (by (with_reducible repeat (first | apply Kd.S_alloc | apply Kd.S_drewN | apply Kd.S_drew)); exact HO283.out) hb)
    have n4_ := Aside0.mk (blk_below (g := gb264) (o := .cells #[.slice A0_0 l0_0.length c0_0, .slice A0_1 l0_1.length c0_1] 25 (0, 0)) (by (with_reducible repeat first | apply blk_drewN | apply blk_drew | apply blk_alloc); exact BK264.out) hb)
    have n5_ := Aside0.mk (blk_below (g := gb265) (o := .cells #[.int .i64 a1_0, .int .i64 a1_1, .int .i64 a1_2, .bool a1_3] 36 (0, 0)) (by (with_reducible repeat first | apply blk_drewN | apply blk_drew | apply blk_alloc); exact BK265.out) hb)
    have n6_ := Aside0.mk (blk_below (g := gb284) (o := .cells #[.slice Ao57 t278.length co57, .slice Ao61 t281.length co61] 31 (0, 0)) (by (with_reducible repeat first | apply blk_drewN | apply blk_drew | apply blk_alloc); exact BK284.out) hb)
    have n7_ := Aside0.mk (below_step (by repeat (first | (with_reducible first | exact HB.out | apply below_alloc | apply pw_below_drewN | apply below_drew1 | refine below_set ?_ GE264.out | refine below_set ?_ GE265.out | refine below_set ?_ GE284.out) | exact HB.out)) hb)
    clear HO269
    clear HO272
    clear HO280
    clear HO283
    clear BK264
    clear BK265
    clear BK284
    clear HB
    have HO269 := n0_
    have HO272 := n1_
    have HO280 := n2_
    have HO283 := n3_
    have BK264 := n4_
    have BK265 := n5_
    have BK284 := n6_
    have HB := n7_
    clear n0_ n1_ n2_ n3_ n4_ n5_ n6_ n7_
    (try clear hb)
    (try clear hb2)
    (try clear hk)
    (try clear hi)
    refine hK.out _ _ ⟨(blk_cell BK284.out 0).trans rfl, (blk_cell BK284.out 1).trans rfl, (blk_cell BK265.out 0).trans rfl, (blk_cell BK265.out 1).trans rfl, (blk_cell BK265.out 2).trans rfl, (blk_cell BK265.out 3).trans rfl⟩ (fun hHeld => ?_)
    clear hK K
    refine norm_ (a' := ?_) ?_ ?_
    (rotate_left; ·(show Act.put _ (some 24) _ = _; simp only [Act.put, pq_z4]; rfl))
    refine pu_z4 4 (some 8) ?_ #[true, true, true, true, true] rfl rfl (by kernel_rfl) (fun _ _ _ h => h) (Or.inl ⟨by rfl, ?_⟩) ?_ ?_ ?_
    (rotate_left; ·(intro w'; go_simp; with_reducible rfl)); (rotate_left; ·(simp only [Act.put, pq_z4]; rfl))
    refine done_ (by kernel_rfl) ?_
    try go_wp2
    have n0_ := Aside0.mk (Kd.R_drew HO269.out)
    have n1_ := Aside0.mk (Kd.S_drew HO272.out)
    have n2_ := Aside0.mk (Kd.R_drew HO280.out)
    have n3_ := Aside0.mk (Kd.S_drew HO283.out)
    have n4_ := Aside0.mk (blk_drew BK264.out)
    have n5_ := Aside0.mk (blk_drew BK265.out)
    have n6_ := Aside0.mk (blk_drew BK284.out)
    have n7_ := Aside0.mk (below_drew1 HB.out)
    clear HO269
    clear HO272
    clear HO280
    clear HO283
    clear BK264
    clear BK265
    clear BK284
    clear HB
    have HO269 := n0_
    have HO272 := n1_
    have HO280 := n2_
    have HO283 := n3_
    have BK264 := n4_
    have BK265 := n5_
    have BK284 := n6_
    have HB := n7_
    clear n0_ n1_ n2_ n3_ n4_ n5_ n6_ n7_
    refine start_ (n := 5) (S := fun w' => w'.cell? ⟨gb284, 0, none⟩ = some (.slice Ao57 t278.length co57) ∧ w'.cell? ⟨gb284, 1, none⟩ = some (.slice Ao61 t281.length co61) ∧ w'.cell? ⟨gb264, 0, none⟩ = some (.slice A0_0 l0_0.length c0_0) ∧ w'.cell? ⟨gb264, 1, none⟩ = some (.slice A0_1 l0_1.length c0_1)) (ds := []) #[false, false, false, false, false] (by kernel_rfl) rfl rfl ⟨(blk_cell BK284.out 0).trans rfl, (blk_cell BK284.out 1).trans rfl, (blk_cell BK264.out 0).trans rfl, (blk_cell BK264.out 1).trans rfl⟩ (fun hHeld => ?_)
    generalize w65.drew = w66 at HO269 HO272 HO280 HO283 BK264 BK265 BK284 HB hHeld ⊢
    refine take_ (i := 0) (N := some 28) (v := ?_) (a' := ?_) #[true, false, false, false, false] rfl rfl (by kernel_rfl) (fun _ _ _ h => h) (Or.inl ⟨by rfl, ?_⟩) hHeld ?_ ?_
    (rotate_left; ·(rintro w' ⟨s0, s1, s2, s3⟩; go_simp; with_reducible rfl)); (rotate_left; ·(simp only [Act.put, pq_z4]; rfl))
    refine take_ (i := 1) (N := some 29) (v := ?_) (a' := ?_) #[true, true, false, false, false] rfl rfl (by kernel_rfl) (fun _ _ _ h => h) (Or.inl ⟨by rfl, ?_⟩) hHeld ?_ ?_
    (rotate_left; ·(rintro w' ⟨s0, s1, s2, s3⟩; go_simp; with_reducible rfl)); (rotate_left; ·(simp only [Act.put, pq_z4]; rfl))
    refine one_ (i := 2) (N := some 30) #[true, true, true, false, false] rfl rfl (by kernel_rfl) (by decide) (fun K hK => ?_)
    refine goes_ Try.func19 (by kernel_rfl) rfl #[.agg #[.slice A0_0 l0_0.length c0_0, .slice A0_1 l0_1.length c0_1]] (by rfl) rfl rfl (by (try simp only [List.map_toArray, List.map_cons, List.map_nil]); first | done | rfl | (simp only [List.length_drop, List.length_take]; rfl)) ?_
    with_reducible refine (laws_toTree.calls k _ _ l0_0 _ _ l0_1 t290 t293 _ ?side1 ?side2 ?side3 ?side4 A40.out).mono ?_
    (case side1 => repeat (first | exact (Kd.C_below HR0_0.out HB.out) | (with_reducible refine Kd.C_alloc ?_ _) | (with_reducible refine Kd.C_drewN ?_ _) | (with_reducible refine Kd.C_drew ?_)))
    (case side2 => exact HC0_0.out)
    (case side3 => repeat (first | exact (Kd.C_below HR0_1.out HB.out) | (with_reducible refine Kd.C_alloc ?_ _) | (with_reducible refine Kd.C_drewN ?_ _) | (with_reducible refine Kd.C_drew ?_)))
    (case side4 => exact HC0_1.out)
    rintro e w67 ⟨v291, v294, rfl, ho0, ho1, hb⟩
    refine ⟨_, rfl, ?_⟩
    have n0_ := Aside0.mk (Kd.R_elder' (by (with_reducible repeat (first | apply Kd.R_alloc | apply Kd.R_drewN | apply Kd.R_drew)); exact HO269.out) (Kd.R_base ho0) hb)
    have n1_ := Aside0.mk (Kd.S_elder' (by (with_reducible repeat (first | apply Kd.S_alloc | apply Kd.S_drewN | apply Kd.S_drew)); exact HO272.out) (Kd.S_base ho1) hb)
    have n2_ := Aside0.mk (Kd.R_elder' (by (with_reducible repeat (first | apply Kd.R_alloc | apply Kd.R_drewN | apply Kd.R_drew)); exact HO280.out) (Kd.R_base ho0) hb)
    have n3_ := Aside0.mk (Kd.S_elder' (by (with_reducible repeat (first | apply Kd.S_alloc | apply Kd.S_drewN | apply Kd.S_drew)); exact HO283.out) (Kd.S_base ho1) hb)
    have n4_ := Aside0.mk (Kd.R_lower (Kd.R_new' (Kd.R_new' ho0 (Kd.R_lt (by (with_reducible repeat (first | apply Kd.R_alloc | apply Kd.R_drewN | apply Kd.R_drew)); exact HO269.out))) (Kd.R_lt (by (with_reducible repeat (first | apply Kd.R_alloc | apply Kd.R_drewN | apply Kd.R_drew)); exact HO280.out))) (below_size (by repeat (first | (with_reducible first | exact HB.out | apply below_alloc | apply pw_below_drewN | apply below_drew1 | refine below_set ?_ GE264.out | refine below_set ?_ GE265.out | refine below_set ?_ GE284.out) | exact HB.out))))
    have n5_ := Aside0.mk (Kd.S_lower (Kd.S_new' (Kd.S_new' ho1 (Kd.S_lt (by (with_reducible repeat (first | apply Kd.S_alloc | apply Kd.S_drewN | apply Kd.S_drew)); exact HO272.out))) (Kd.S_lt (by (with_reducible repeat (first | apply Kd.S_alloc | apply Kd.S_drewN | apply Kd.S_drew)); exact HO283.out))) (below_size (by repeat (first | (with_reducible first | exact HB.out | apply below_alloc | apply pw_below_drewN | apply below_drew1 | refine below_set ?_ GE264.out | refine below_set ?_ GE265.out | refine below_set ?_ GE284.out) | exact HB.out))))
    have n6_ := Aside0.mk (blk_below (g := gb264) (o := .cells #[.slice A0_0 l0_0.length c0_0, .slice A0_1 l0_1.length c0_1] 25 (0, 0)) (by (with_reducible repeat first | apply blk_drewN | apply blk_drew | apply blk_alloc); exact BK264.out) hb)
    have n7_ := Aside0.mk (blk_below (g := gb265) (o := .cells #[.int .i64 a1_0, .int .i64 a1_1, .int .i64 a1_2, .bool a1_3] 36 (0, 0)) (by (with_reducible repeat first | apply blk_drewN | apply blk_drew | apply blk_alloc); exact BK265.out) hb)
    have n8_ := Aside0.mk (blk_below (g := gb284) (o := .cells #[.slice Ao57 t278.length co57, .slice Ao61 t281.length co61] 31 (0, 0)) (by (with_reducible repeat first | apply blk_drewN | apply blk_drew | apply blk_alloc); exact BK284.out) hb)
    have n9_ := Aside0.mk (below_step (by repeat (first | (with_reducible first | exact HB.out | apply below_alloc | apply pw_below_drewN | apply below_drew1 | refine below_set ?_ GE264.out | refine below_set ?_ GE265.out | refine below_set ?_ GE284.out) | exact HB.out)) hb)
    clear HO269
    clear HO272
    clear HO280
    clear HO283
    clear BK264
    clear BK265
    clear BK284
    clear HB
    have HO269 := n0_
    have HO272 := n1_
    have HO280 := n2_
    have HO283 := n3_
    have HO292 := n4_
    have HO295 := n5_
    have BK264 := n6_
    have BK265 := n7_
    have BK284 := n8_
    have HB := n9_
    clear n0_ n1_ n2_ n3_ n4_ n5_ n6_ n7_ n8_ n9_
    (try clear hb)
    (try clear hb2)
    (try clear hk)
    (try clear hi)
    (try clear ho0)
    (try clear ho1)
    obtain ⟨Ao68, co68, eo68⟩ := Kd.R_slice HO292.out
    (first | subst eo68 | (injection eo68 with f1_ f2_ f3_; have f4_ := f1_.symm; have f5_ := f3_.symm; clear f1_ f2_ f3_; subst f4_; subst f5_))
    obtain ⟨Ao69, co69, eo69⟩ := Kd.S_slice HO295.out
    (first | subst eo69 | (injection eo69 with f1_ f2_ f3_; have f4_ := f1_.symm; have f5_ := f3_.symm; clear f1_ f2_ f3_; subst f4_; subst f5_))
    refine hK.out _ _ ⟨(blk_cell BK284.out 0).trans rfl, (blk_cell BK284.out 1).trans rfl, (blk_cell BK264.out 0).trans rfl, (blk_cell BK264.out 1).trans rfl⟩ (fun hHeld => ?_)
    clear hK K
    refine norm_ (a' := ?_) ?_ ?_
    (rotate_left; ·(show Act.put _ (some 30) _ = _; simp only [Act.put, pq_z4]; rfl))
    refine one_ (i := 3) (N := some 31) #[true, true, true, true, false] rfl rfl (by kernel_rfl) (by decide) (fun K hK => ?_)
    refine goes_ Try.func21 (by kernel_rfl) rfl #[.agg #[.slice Ao57 t278.length co57, .slice Ao61 t281.length co61], .agg #[.slice Ao68 t290.length co68, .slice Ao69 t293.length co69]] (by rfl) rfl rfl (by (try simp only [List.map_toArray, List.map_cons, List.map_nil]); first | done | rfl | (simp only [List.length_drop, List.length_take]; rfl)) ?_
    with_reducible refine (laws_eqTree.calls k _ _ t278 _ _ t281 _ _ t290 _ _ t293 true _ ?side1 ?side2 ?side3 ?side4 ?side5 ?side6 ?side7 ?side8 A41.out).mono ?_
    (case side1 => repeat (first | exact (Kd.R_reads' HO280.out).2.2 | (with_reducible refine Kd.C_alloc ?_ _) | (with_reducible refine Kd.C_drewN ?_ _) | (with_reducible refine Kd.C_drew ?_)))
    (case side2 => exact (Kd.R_reads' HO280.out).2.1)
    (case side3 => repeat (first | exact (Kd.S_reads' HO283.out).2.2 | (with_reducible refine Kd.C_alloc ?_ _) | (with_reducible refine Kd.C_drewN ?_ _) | (with_reducible refine Kd.C_drew ?_)))
    (case side4 => exact (Kd.S_reads' HO283.out).2.1)
    (case side5 => repeat (first | exact (Kd.R_reads' HO292.out).2.2 | (with_reducible refine Kd.C_alloc ?_ _) | (with_reducible refine Kd.C_drewN ?_ _) | (with_reducible refine Kd.C_drew ?_)))
    (case side6 => exact (Kd.R_reads' HO292.out).2.1)
    (case side7 => repeat (first | exact (Kd.S_reads' HO295.out).2.2 | (with_reducible refine Kd.C_alloc ?_ _) | (with_reducible refine Kd.C_drewN ?_ _) | (with_reducible refine Kd.C_drew ?_)))
    (case side8 => exact (Kd.S_reads' HO295.out).2.1)
    rintro e w70 ⟨rfl, hb⟩
    refine ⟨_, rfl, ?_⟩
    have n0_ := Aside0.mk (Kd.R_below (by (with_reducible repeat (first | apply Kd.R_alloc | apply Kd.R_drewN | apply Kd.R_drew)); exact HO269.out) hb)
    have n1_ := Aside0.mk (Kd.S_below (by (with_reducible repeat (first | apply Kd.S_alloc | apply Kd.S_drewN | apply Kd.S_drew)); exact HO272.out) hb)
    have n2_ := Aside0.mk (Kd.R_below (by (with_reducible repeat (first | apply Kd.R_alloc | apply Kd.R_drewN | apply Kd.R_drew)); exact HO280.out) hb)
    have n3_ := Aside0.mk (Kd.S_below (by (with_reducible repeat (first | apply Kd.S_alloc | apply Kd.S_drewN | apply Kd.S_drew)); exact HO283.out) hb)
    have n4_ := Aside0.mk (Kd.R_below (by (with_reducible repeat (first | apply Kd.R_alloc | apply Kd.R_drewN | apply Kd.R_drew)); exact HO292.out) hb)
    have n5_ := Aside0.mk (Kd.S_below (by (with_reducible repeat (first | apply Kd.S_alloc | apply Kd.S_drewN | apply Kd.S_drew)); exact HO295.out) hb)
    have n6_ := Aside0.mk (blk_below (g := gb264) (o := .cells #[.slice A0_0 l0_0.length c0_0, .slice A0_1 l0_1.length c0_1] 25 (0, 0)) (by (with_reducible repeat first | apply blk_drewN | apply blk_drew | apply blk_alloc); exact BK264.out) hb)
    have n7_ := Aside0.mk (blk_below (g := gb265) (o := .cells #[.int .i64 a1_0, .int .i64 a1_1, .int .i64 a1_2, .bool a1_3] 36 (0, 0)) (by (with_reducible repeat first | apply blk_drewN | apply blk_drew | apply blk_alloc); exact BK265.out) hb)
    have n8_ := Aside0.mk (blk_below (g := gb284) (o := .cells #[.slice Ao57 t278.length co57, .slice Ao61 t281.length co61] 31 (0, 0)) (by (with_reducible repeat first | apply blk_drewN | apply blk_drew | apply blk_alloc); exact BK284.out) hb)
    have n9_ := Aside0.mk (below_step (by repeat (first | (with_reducible first | exact HB.out | apply below_alloc | apply pw_below_drewN | apply below_drew1 | refine below_set ?_ GE264.out | refine below_set ?_ GE265.out | refine below_set ?_ GE284.out) | exact HB.out)) hb)
    clear HO269
    clear HO272
    clear HO280
    clear HO283
    clear HO292
    clear HO295
    clear BK264
    clear BK265
    clear BK284
    clear HB
    have HO269 := n0_
    have HO272 := n1_
    have HO280 := n2_
    have HO283 := n3_
    have HO292 := n4_
    have HO295 := n5_
    have BK264 := n6_
    have BK265 := n7_
    have BK284 := n8_
    have HB := n9_
    clear n0_ n1_ n2_ n3_ n4_ n5_ n6_ n7_ n8_ n9_
    (try clear hb)
    (try clear hb2)
    (try clear hk)
    (try clear hi)
    refine hK.out _ _ ⟨(blk_cell BK284.out 0).trans rfl, (blk_cell BK284.out 1).trans rfl, (blk_cell BK264.out 0).trans rfl, (blk_cell BK264.out 1).trans rfl⟩ (fun hHeld => ?_)
    clear hK K
    refine norm_ (a' := ?_) ?_ ?_
    (rotate_left; ·(show Act.put _ (some 31) _ = _; simp only [Act.put, pq_z4]; rfl))
    refine pu_z4 4 (some 32) ?_ #[true, true, true, true, true] rfl rfl (by kernel_rfl) (fun _ _ _ h => h) (Or.inl ⟨by rfl, ?_⟩) ?_ ?_ ?_
    (rotate_left; ·(intro w'; go_simp; with_reducible rfl)); (rotate_left; ·(simp only [Act.put, pq_z4]; rfl))
    refine done_ (by kernel_rfl) ?_
    try go_wp2
    go_ret
    exact ⟨by first | rfl | (simp [*, errW_none, errW_some] <;> rfl), by repeat (first | (with_reducible first | exact HB.out | apply below_alloc | apply pw_below_drewN | apply below_drew1 | refine below_set ?_ GE264.out | refine below_set ?_ GE265.out | refine below_set ?_ GE284.out) | exact HB.out)⟩
   ·replace c42 := Bool.eq_false_iff.mpr c42
    subst c42
    have H1 : (some false) = some r := by rw [if_neg (show ¬ (false = true) by decide)] at H; exact H
    clear H
    have H := H1
    clear H1
    obtain rfl := Option.some.inj H
    go_enter Try.func4, Try.ntmps4
    try go_wp2_with (first | ((with_reducible refine gate_dst (N := 2) rfl ?_); refine box_event ?hg (N := 2) ?hd (cs := #[.slice A0_0 l0_0.length c0_0, .slice A0_1 l0_1.length c0_1]) (t := 25) ?hr ?_; (case hd => rfl); (case hg => rfl); (case hr => first | (go_simp; done) | (go_simp; rfl)); intro gb264 hg w71 hbox hb; have n0_ := Aside0.mk (below_step (by repeat first | exact HB.out | apply below_alloc | apply pw_below_drewN | apply below_drew1) hb); have n1_ := Aside0.mk (hbox); have n2_ := Aside0.mk ((by rw [hg]; exact (below_size (by repeat first | exact HB.out | apply below_alloc | apply pw_below_drewN | apply below_drew1)) : w.heap.size ≤ gb264)); have n3_ := Aside0.mk ((by rw [hg]; exact (below_size (by repeat first | exact HB.out | apply below_alloc | apply pw_below_drewN | apply below_drew1)) : w.heap.size ≤ gb264)); clear HB; have HB := n0_; have BK264 := n1_; have GW264 := n2_; have GE264 := n3_; clear n0_ n1_ n2_ n3_; clear hb hbox hg) | ((with_reducible refine gate_dst (N := 3) rfl ?_); refine box_event ?hg (N := 3) ?hd (cs := #[.int .i64 a1_0, .int .i64 a1_1, .int .i64 a1_2, .bool a1_3]) (t := 36) ?hr ?_; (case hd => rfl); (case hg => rfl); (case hr => first | (go_simp; done) | (go_simp; rfl)); intro gb265 hg w72 hbox hb; have n0_ := Aside0.mk (blk_below (g := gb264) (o := .cells #[.slice A0_0 l0_0.length c0_0, .slice A0_1 l0_1.length c0_1] 25 (0, 0)) (by (with_reducible repeat first | apply blk_drewN | apply blk_drew | apply blk_alloc); exact BK264.out) hb); have n1_ := Aside0.mk (below_step (by repeat (first | (with_reducible first | exact HB.out | apply below_alloc | apply pw_below_drewN | apply below_drew1 | refine below_set ?_ GE264.out) | exact HB.out)) hb); have n2_ := Aside0.mk (hbox); have n3_ := Aside0.mk ((by rw [hg]; exact (below_size (by repeat (first | (with_reducible first | exact HB.out | apply below_alloc | apply pw_below_drewN | apply below_drew1 | refine below_set ?_ GE264.out) | exact HB.out))) : w.heap.size ≤ gb265)); have n4_ := Aside0.mk ((by rw [hg]; exact (below_size (by repeat (first | (with_reducible first | exact HB.out | apply below_alloc | apply pw_below_drewN | apply below_drew1 | refine below_set ?_ GE264.out) | exact HB.out))) : w.heap.size ≤ gb265)); have n5_ := Aside0.mk ((by rw [hg]; exact Nat.ne_of_lt (blk_lt (g := gb264) (o := .cells #[.slice A0_0 l0_0.length c0_0, .slice A0_1 l0_1.length c0_1] 25 (0, 0)) (by (with_reducible repeat first | apply blk_drewN | apply blk_drew | apply blk_alloc); exact BK264.out)) : gb264 ≠ gb265)); have n6_ := Aside0.mk ((by rw [hg]; exact Nat.ne_of_gt (blk_lt (g := gb264) (o := .cells #[.slice A0_0 l0_0.length c0_0, .slice A0_1 l0_1.length c0_1] 25 (0, 0)) (by (with_reducible repeat first | apply blk_drewN | apply blk_drew | apply blk_alloc); exact BK264.out)) : gb265 ≠ gb264)); clear BK264; clear HB; have BK264 := n0_; have HB := n1_; have BK265 := n2_; have GW265 := n3_; have GE265 := n4_; have NB264_265 := n5_; have NB265_264 := n6_; clear n0_ n1_ n2_ n3_ n4_ n5_ n6_; clear hb hbox hg; have hnb73 := NB264_265.out; have hnc73 := NB265_264.out; have hcz74_0 : w72.cell? ⟨gb264, 0, none⟩ = some (.slice A0_0 l0_0.length c0_0) := (blk_cell BK264.out 0).trans rfl; have hcz74_1 : w72.cell? ⟨gb264, 1, none⟩ = some (.slice A0_1 l0_1.length c0_1) := (blk_cell BK264.out 1).trans rfl; have hfz74_0 := blk_frozen BK264.out 0; have hfz74_1 := blk_frozen BK264.out 1) | ((with_reducible refine gate_callee (f := 17) rfl ?_); refine goesL_ (some 11) rfl rfl Try.func17 (by kernel_rfl) rfl #[.agg #[.slice A0_0 l0_0.length c0_0, .slice A0_1 l0_1.length c0_1], .int .i64 1048576] rfl (by (try simp only [List.map_toArray, List.map_cons, List.map_nil]); first | done | rfl | (simp only [List.length_drop, List.length_take]; rfl)) ?_; (with_reducible refine (laws_szTree.calls k _ _ l0_0 _ _ l0_1 1048576 t266 _ ?side1 ?side2 ?side3 ?side4 A3.out).mono ?_); (case side1 => repeat (first | exact (Kd.C_below HR0_0.out HB.out) | (with_reducible refine Kd.C_alloc ?_ _) | (with_reducible refine Kd.C_drewN ?_ _) | (with_reducible refine Kd.C_drew ?_))); (case side2 => exact HC0_0.out); (case side3 => repeat (first | exact (Kd.C_below HR0_1.out HB.out) | (with_reducible refine Kd.C_alloc ?_ _) | (with_reducible refine Kd.C_drewN ?_ _) | (with_reducible refine Kd.C_drew ?_))); (case side4 => exact HC0_1.out); rintro e w75 ⟨rfl, hb⟩; refine ⟨_, rfl, ?_⟩; have n0_ := Aside0.mk (blk_below (g := gb264) (o := .cells #[.slice A0_0 l0_0.length c0_0, .slice A0_1 l0_1.length c0_1] 25 (0, 0)) (by (with_reducible repeat first | apply blk_drewN | apply blk_drew | apply blk_alloc); exact BK264.out) hb); have n1_ := Aside0.mk (blk_below (g := gb265) (o := .cells #[.int .i64 a1_0, .int .i64 a1_1, .int .i64 a1_2, .bool a1_3] 36 (0, 0)) (by (with_reducible repeat first | apply blk_drewN | apply blk_drew | apply blk_alloc); exact BK265.out) hb); have n2_ := Aside0.mk (below_step (by repeat (first | (with_reducible first | exact HB.out | apply below_alloc | apply pw_below_drewN | apply below_drew1 | refine below_set ?_ GE264.out | refine below_set ?_ GE265.out) | exact HB.out)) hb); clear BK264; clear BK265; clear HB; have BK264 := n0_; have BK265 := n1_; have HB := n2_; clear n0_ n1_ n2_; (try clear hb); (try clear hb2); (try clear hk); (try clear hi)))
    have n0_ := Aside0.mk (blk_drew BK264.out)
    have n1_ := Aside0.mk (blk_drew BK265.out)
    have n2_ := Aside0.mk (below_drew1 HB.out)
    clear BK264
    clear BK265
    clear HB
    have BK264 := n0_
    have BK265 := n1_
    have HB := n2_
    clear n0_ n1_ n2_
    refine start_ (n := 6) (S := fun w' => w'.cell? ⟨gb264, 0, none⟩ = some (.slice A0_0 l0_0.length c0_0) ∧ w'.cell? ⟨gb264, 1, none⟩ = some (.slice A0_1 l0_1.length c0_1) ∧ w'.cell? ⟨gb265, 0, none⟩ = some (.int .i64 a1_0) ∧ w'.cell? ⟨gb265, 1, none⟩ = some (.int .i64 a1_1) ∧ w'.cell? ⟨gb265, 2, none⟩ = some (.int .i64 a1_2) ∧ w'.cell? ⟨gb265, 3, none⟩ = some (.bool a1_3)) (ds := []) #[false, false, false, false, false, false] (by kernel_rfl) rfl rfl ⟨(blk_cell BK264.out 0).trans rfl, (blk_cell BK264.out 1).trans rfl, (blk_cell BK265.out 0).trans rfl, (blk_cell BK265.out 1).trans rfl, (blk_cell BK265.out 2).trans rfl, (blk_cell BK265.out 3).trans rfl⟩ (fun hHeld => ?_)
    generalize w75.drew = w76 at BK264 BK265 HB hHeld ⊢
    refine take_ (i := 0) (N := some 14) (v := ?_) (a' := ?_) #[true, false, false, false, false, false] rfl rfl (by kernel_rfl) (fun _ _ _ h => h) (Or.inl ⟨by rfl, ?_⟩) hHeld ?_ ?_
    (rotate_left; ·(rintro w' ⟨s0, s1, s2, s3, s4, s5⟩; go_simp; with_reducible rfl)); (rotate_left; ·(simp only [Act.put, pq_z4]; rfl))
    refine take_ (i := 2) (N := some 16) (v := ?_) (a' := ?_) #[true, false, true, false, false, false] rfl rfl (by kernel_rfl) (fun _ _ _ h => h) (Or.inl ⟨by rfl, ?_⟩) hHeld ?_ ?_
    (rotate_left; ·(rintro w' ⟨s0, s1, s2, s3, s4, s5⟩; go_simp; with_reducible rfl)); (rotate_left; ·(simp only [Act.put, pq_z4]; rfl))
    refine one_ (i := 1) (N := some 15) #[true, true, true, false, false, false] rfl rfl (by kernel_rfl) (by decide) (fun K hK => ?_)
    refine goes_ Try.func19 (by kernel_rfl) rfl #[.agg #[.slice A0_0 l0_0.length c0_0, .slice A0_1 l0_1.length c0_1]] (by rfl) rfl rfl (by (try simp only [List.map_toArray, List.map_cons, List.map_nil]); first | done | rfl | (simp only [List.length_drop, List.length_take]; rfl)) ?_
    with_reducible refine (laws_toTree.calls k _ _ l0_0 _ _ l0_1 t267 t270 _ ?side1 ?side2 ?side3 ?side4 A10.out).mono ?_
    (case side1 => repeat (first | exact (Kd.C_below HR0_0.out HB.out) | (with_reducible refine Kd.C_alloc ?_ _) | (with_reducible refine Kd.C_drewN ?_ _) | (with_reducible refine Kd.C_drew ?_)))
    (case side2 => exact HC0_0.out)
    (case side3 => repeat (first | exact (Kd.C_below HR0_1.out HB.out) | (with_reducible refine Kd.C_alloc ?_ _) | (with_reducible refine Kd.C_drewN ?_ _) | (with_reducible refine Kd.C_drew ?_)))
    (case side4 => exact HC0_1.out)
    rintro e w77 ⟨v268, v271, rfl, ho0, ho1, hb⟩
    refine ⟨_, rfl, ?_⟩
    have n0_ := Aside0.mk (Kd.R_lower ho0 (below_size (by repeat (first | (with_reducible first | exact HB.out | apply below_alloc | apply pw_below_drewN | apply below_drew1 | refine below_set ?_ GE264.out | refine below_set ?_ GE265.out) | exact HB.out))))
    have n1_ := Aside0.mk (Kd.S_lower ho1 (below_size (by repeat (first | (with_reducible first | exact HB.out | apply below_alloc | apply pw_below_drewN | apply below_drew1 | refine below_set ?_ GE264.out | refine below_set ?_ GE265.out) | exact HB.out))))
    have n2_ := Aside0.mk (blk_below (g := gb264) (o := .cells #[.slice A0_0 l0_0.length c0_0, .slice A0_1 l0_1.length c0_1] 25 (0, 0)) (by (with_reducible repeat first | apply blk_drewN | apply blk_drew | apply blk_alloc); exact BK264.out) hb)
    have n3_ := Aside0.mk (blk_below (g := gb265) (o := .cells #[.int .i64 a1_0, .int .i64 a1_1, .int .i64 a1_2, .bool a1_3] 36 (0, 0)) (by (with_reducible repeat first | apply blk_drewN | apply blk_drew | apply blk_alloc); exact BK265.out) hb)
    have n4_ := Aside0.mk (below_step (by repeat (first | (with_reducible first | exact HB.out | apply below_alloc | apply pw_below_drewN | apply below_drew1 | refine below_set ?_ GE264.out | refine below_set ?_ GE265.out) | exact HB.out)) hb)
    clear BK264
    clear BK265
    clear HB
    have HO269 := n0_
    have HO272 := n1_
    have BK264 := n2_
    have BK265 := n3_
    have HB := n4_
    clear n0_ n1_ n2_ n3_ n4_
    (try clear hb)
    (try clear hb2)
    (try clear hk)
    (try clear hi)
    (try clear ho0)
    (try clear ho1)
    refine hK.out _ _ ⟨(blk_cell BK264.out 0).trans rfl, (blk_cell BK264.out 1).trans rfl, (blk_cell BK265.out 0).trans rfl, (blk_cell BK265.out 1).trans rfl, (blk_cell BK265.out 2).trans rfl, (blk_cell BK265.out 3).trans rfl⟩ (fun hHeld => ?_)
    clear hK K
    refine norm_ (a' := ?_) ?_ ?_
    (rotate_left; ·(show Act.put _ (some 15) _ = _; simp only [Act.put, pq_z4]; rfl))
    refine one_ (i := 3) (N := some 17) #[true, true, true, true, false, false] rfl rfl (by kernel_rfl) (by decide) (fun K hK => ?_)
    refine goes_ Try.func23 (by kernel_rfl) rfl #[.agg #[.int .i64 a1_0, .int .i64 a1_1, .int .i64 a1_2, .bool a1_3]] (by rfl) rfl rfl (by (try simp only [List.map_toArray, List.map_cons, List.map_nil]); first | done | rfl | (simp only [List.length_drop, List.length_take]; rfl)) ?_
    with_reducible refine (laws_toRule.calls a1_0 a1_1 a1_2 a1_3 t273 t274 t275 t276 _ A11.out).mono ?_
    rintro e w78 ⟨rfl, hb⟩
    refine ⟨_, rfl, ?_⟩
    have n0_ := Aside0.mk (Kd.R_below (by (with_reducible repeat (first | apply Kd.R_alloc | apply Kd.R_drewN | apply Kd.R_drew)); exact HO269.out) hb)
    have n1_ := Aside0.mk (Kd.S_below (by (with_reducible repeat (first | apply Kd.S_alloc | apply Kd.S_drewN | apply Kd.S_drew)); exact HO272.out) hb)
    have n2_ := Aside0.mk (blk_below (g := gb264) (o := .cells #[.slice A0_0 l0_0.length c0_0, .slice A0_1 l0_1.length c0_1] 25 (0, 0)) (by (with_reducible repeat first | apply blk_drewN | apply blk_drew | apply blk_alloc); exact BK264.out) hb)
    have n3_ := Aside0.mk (blk_below (g := gb265) (o := .cells #[.int .i64 a1_0, .int .i64 a1_1, .int .i64 a1_2, .bool a1_3] 36 (0, 0)) (by (with_reducible repeat first | apply blk_drewN | apply blk_drew | apply blk_alloc); exact BK265.out) hb)
    have n4_ := Aside0.mk (below_step (by repeat (first | (with_reducible first | exact HB.out | apply below_alloc | apply pw_below_drewN | apply below_drew1 | refine below_set ?_ GE264.out | refine below_set ?_ GE265.out) | exact HB.out)) hb)
    clear HO269
    clear HO272
    clear BK264
    clear BK265
    clear HB
    have HO269 := n0_
    have HO272 := n1_
    have BK264 := n2_
    have BK265 := n3_
    have HB := n4_
    clear n0_ n1_ n2_ n3_ n4_
    (try clear hb)
    (try clear hb2)
    (try clear hk)
    (try clear hi)
    obtain ⟨Ao79, co79, eo79⟩ := Kd.R_slice HO269.out
    (first | subst eo79 | (injection eo79 with f1_ f2_ f3_; have f4_ := f1_.symm; have f5_ := f3_.symm; clear f1_ f2_ f3_; subst f4_; subst f5_))
    obtain ⟨Ao80, co80, eo80⟩ := Kd.S_slice HO272.out
    (first | subst eo80 | (injection eo80 with f1_ f2_ f3_; have f4_ := f1_.symm; have f5_ := f3_.symm; clear f1_ f2_ f3_; subst f4_; subst f5_))
    refine hK.out _ _ ⟨(blk_cell BK264.out 0).trans rfl, (blk_cell BK264.out 1).trans rfl, (blk_cell BK265.out 0).trans rfl, (blk_cell BK265.out 1).trans rfl, (blk_cell BK265.out 2).trans rfl, (blk_cell BK265.out 3).trans rfl⟩ (fun hHeld => ?_)
    clear hK K
    refine norm_ (a' := ?_) ?_ ?_
    (rotate_left; ·(show Act.put _ (some 17) _ = _; simp only [Act.put, pq_z4]; rfl))
    refine one_ (i := 4) (N := some 18) #[true, true, true, true, true, false] rfl rfl (by kernel_rfl) (by decide) (fun K hK => ?_)
    refine goes_ Try.func22 (by kernel_rfl) rfl #[.agg #[.slice Ao79 t267.length co79, .slice Ao80 t270.length co80], .agg #[.int .i64 t273, .int .i64 t274, .int .i64 t275, .bool t276]] (by rfl) rfl rfl (by (try simp only [List.map_toArray, List.map_cons, List.map_nil]); first | done | rfl | (simp only [List.length_drop, List.length_take]; rfl)) ?_
    with_reducible refine (spec_RuleOk.calls k _ _ t267 _ _ t270 t273 t274 t275 t276 t277 _ ?side1 ?side2 ?side3 ?side4 A12.out).mono ?_
    (case side1 => repeat (first | exact (Kd.R_reads' HO269.out).2.2 | (with_reducible refine Kd.C_alloc ?_ _) | (with_reducible refine Kd.C_drewN ?_ _) | (with_reducible refine Kd.C_drew ?_)))
    (case side2 => exact (Kd.R_reads' HO269.out).2.1)
    (case side3 => repeat (first | exact (Kd.S_reads' HO272.out).2.2 | (with_reducible refine Kd.C_alloc ?_ _) | (with_reducible refine Kd.C_drewN ?_ _) | (with_reducible refine Kd.C_drew ?_)))
    (case side4 => exact (Kd.S_reads' HO272.out).2.1)
    rintro e w81 ⟨rfl, hb⟩
    refine ⟨_, rfl, ?_⟩
    have n0_ := Aside0.mk (Kd.R_below (by (with_reducible repeat (first | apply Kd.R_alloc | apply Kd.R_drewN | apply Kd.R_drew)); exact HO269.out) hb)
    have n1_ := Aside0.mk (Kd.S_below (by (with_reducible repeat (first | apply Kd.S_alloc | apply Kd.S_drewN | apply Kd.S_drew)); exact HO272.out) hb)
    have n2_ := Aside0.mk (blk_below (g := gb264) (o := .cells #[.slice A0_0 l0_0.length c0_0, .slice A0_1 l0_1.length c0_1] 25 (0, 0)) (by (with_reducible repeat first | apply blk_drewN | apply blk_drew | apply blk_alloc); exact BK264.out) hb)
    have n3_ := Aside0.mk (blk_below (g := gb265) (o := .cells #[.int .i64 a1_0, .int .i64 a1_1, .int .i64 a1_2, .bool a1_3] 36 (0, 0)) (by (with_reducible repeat first | apply blk_drewN | apply blk_drew | apply blk_alloc); exact BK265.out) hb)
    have n4_ := Aside0.mk (below_step (by repeat (first | (with_reducible first | exact HB.out | apply below_alloc | apply pw_below_drewN | apply below_drew1 | refine below_set ?_ GE264.out | refine below_set ?_ GE265.out) | exact HB.out)) hb)
    clear HO269
    clear HO272
    clear BK264
    clear BK265
    clear HB
    have HO269 := n0_
    have HO272 := n1_
    have BK264 := n2_
    have BK265 := n3_
    have HB := n4_
    clear n0_ n1_ n2_ n3_ n4_
    (try clear hb)
    (try clear hb2)
    (try clear hk)
    (try clear hi)
    refine hK.out _ _ ⟨(blk_cell BK264.out 0).trans rfl, (blk_cell BK264.out 1).trans rfl, (blk_cell BK265.out 0).trans rfl, (blk_cell BK265.out 1).trans rfl, (blk_cell BK265.out 2).trans rfl, (blk_cell BK265.out 3).trans rfl⟩ (fun hHeld => ?_)
    clear hK K
    refine norm_ (a' := ?_) ?_ ?_
    (rotate_left; ·(show Act.put _ (some 18) _ = _; simp only [Act.put, pq_z4]; rfl))
    refine pu_z4 5 (some 6) ?_ #[true, true, true, true, true, true] rfl rfl (by kernel_rfl) (fun _ _ _ h => h) (Or.inl ⟨by rfl, ?_⟩) ?_ ?_ ?_
    (rotate_left; ·(intro w'; go_simp; with_reducible rfl)); (rotate_left; ·(simp only [Act.put, pq_z4]; rfl))
    refine done_ (by kernel_rfl) ?_
    have hcz82_0 : w81.cell? ⟨gb264, 0, none⟩ = some (.slice A0_0 l0_0.length c0_0) := (blk_cell BK264.out 0).trans rfl
    have hcz82_1 : w81.cell? ⟨gb264, 1, none⟩ = some (.slice A0_1 l0_1.length c0_1) := (blk_cell BK264.out 1).trans rfl
    have hfz82_0 := blk_frozen BK264.out 0
    have hfz82_1 := blk_frozen BK264.out 1
    try go_wp2_with (first | ((with_reducible refine gate_callee (f := 19) rfl ?_); refine goesL_ (some 20) rfl rfl Try.func19 (by kernel_rfl) rfl #[.agg #[.slice A0_0 l0_0.length c0_0, .slice A0_1 l0_1.length c0_1]] rfl (by (try simp only [List.map_toArray, List.map_cons, List.map_nil]); first | done | rfl | (simp only [List.length_drop, List.length_take]; rfl)) ?_; (with_reducible refine (laws_toTree.calls k _ _ l0_0 _ _ l0_1 t278 t281 _ ?side1 ?side2 ?side3 ?side4 A13.out).mono ?_); (case side1 => repeat (first | exact (Kd.C_below HR0_0.out HB.out) | (with_reducible refine Kd.C_alloc ?_ _) | (with_reducible refine Kd.C_drewN ?_ _) | (with_reducible refine Kd.C_drew ?_))); (case side2 => exact HC0_0.out); (case side3 => repeat (first | exact (Kd.C_below HR0_1.out HB.out) | (with_reducible refine Kd.C_alloc ?_ _) | (with_reducible refine Kd.C_drewN ?_ _) | (with_reducible refine Kd.C_drew ?_))); (case side4 => exact HC0_1.out); rintro e w83 ⟨v279, v282, rfl, ho0, ho1, hb⟩; refine ⟨_, rfl, ?_⟩; have n0_ := Aside0.mk (Kd.R_elder' (by (with_reducible repeat (first | apply Kd.R_alloc | apply Kd.R_drewN | apply Kd.R_drew)); exact HO269.out) (Kd.R_base ho0) hb); have n1_ := Aside0.mk (Kd.S_elder' (by (with_reducible repeat (first | apply Kd.S_alloc | apply Kd.S_drewN | apply Kd.S_drew)); exact HO272.out) (Kd.S_base ho1) hb); have n2_ := Aside0.mk (Kd.R_lower (Kd.R_new' ho0 (Kd.R_lt (by (with_reducible repeat (first | apply Kd.R_alloc | apply Kd.R_drewN | apply Kd.R_drew)); exact HO269.out))) (below_size (by repeat (first | (with_reducible first | exact HB.out | apply below_alloc | apply pw_below_drewN | apply below_drew1 | refine below_set ?_ GE264.out | refine below_set ?_ GE265.out) | exact HB.out)))); have n3_ := Aside0.mk (Kd.S_lower (Kd.S_new' ho1 (Kd.S_lt (by (with_reducible repeat (first | apply Kd.S_alloc | apply Kd.S_drewN | apply Kd.S_drew)); exact HO272.out))) (below_size (by repeat (first | (with_reducible first | exact HB.out | apply below_alloc | apply pw_below_drewN | apply below_drew1 | refine below_set ?_ GE264.out | refine below_set ?_ GE265.out) | exact HB.out)))); have n4_ := Aside0.mk (blk_below (g := gb264) (o := .cells #[.slice A0_0 l0_0.length c0_0, .slice A0_1 l0_1.length c0_1] 25 (0, 0)) (by (with_reducible repeat first | apply blk_drewN | apply blk_drew | apply blk_alloc); exact BK264.out) hb); have n5_ := Aside0.mk (blk_below (g := gb265) (o := .cells #[.int .i64 a1_0, .int .i64 a1_1, .int .i64 a1_2, .bool a1_3] 36 (0, 0)) (by (with_reducible repeat first | apply blk_drewN | apply blk_drew | apply blk_alloc); exact BK265.out) hb); have n6_ := Aside0.mk (below_step (by repeat (first | (with_reducible first | exact HB.out | apply below_alloc | apply pw_below_drewN | apply below_drew1 | refine below_set ?_ GE264.out | refine below_set ?_ GE265.out) | exact HB.out)) hb); clear HO269; clear HO272; clear BK264; clear BK265; clear HB; have HO269 := n0_; have HO272 := n1_; have HO280 := n2_; have HO283 := n3_; have BK264 := n4_; have BK265 := n5_; have HB := n6_; clear n0_ n1_ n2_ n3_ n4_ n5_ n6_; (try clear hb); (try clear hb2); (try clear hk); (try clear hi); (try clear ho0); (try clear ho1)) | ((with_reducible refine gate_dst (N := 7) rfl ?_); refine box_event ?hg (N := 7) ?hd (cs := #[.slice none 0 0, .slice none 0 0]) (t := 31) ?hr ?_; (case hd => rfl); (case hg => rfl); (case hr => first | (go_simp; done) | (go_simp; rfl)); intro gb284 hg w84 hbox hb; have n0_ := Aside0.mk (Kd.R_below (by (with_reducible repeat (first | apply Kd.R_alloc | apply Kd.R_drewN | apply Kd.R_drew)); exact HO269.out) hb); have n1_ := Aside0.mk (Kd.S_below (by (with_reducible repeat (first | apply Kd.S_alloc | apply Kd.S_drewN | apply Kd.S_drew)); exact HO272.out) hb); have n2_ := Aside0.mk (Kd.R_below (by (with_reducible repeat (first | apply Kd.R_alloc | apply Kd.R_drewN | apply Kd.R_drew)); exact HO280.out) hb); have n3_ := Aside0.mk (Kd.S_below (by (with_reducible repeat (first | apply Kd.S_alloc | apply Kd.S_drewN | apply Kd.S_drew)); exact HO283.out) hb); have n4_ := Aside0.mk (blk_below (g := gb264) (o := .cells #[.slice A0_0 l0_0.length c0_0, .slice A0_1 l0_1.length c0_1] 25 (0, 0)) (by (with_reducible repeat first | apply blk_drewN | apply blk_drew | apply blk_alloc); exact BK264.out) hb); have n5_ := Aside0.mk (blk_below (g := gb265) (o := .cells #[.int .i64 a1_0, .int .i64 a1_1, .int .i64 a1_2, .bool a1_3] 36 (0, 0)) (by (with_reducible repeat first | apply blk_drewN | apply blk_drew | apply blk_alloc); exact BK265.out) hb); have n6_ := Aside0.mk (below_step (by repeat (first | (with_reducible first | exact HB.out | apply below_alloc | apply pw_below_drewN | apply below_drew1 | refine below_set ?_ GE264.out | refine below_set ?_ GE265.out) | exact HB.out)) hb); have n7_ := Aside0.mk (hbox); have n8_ := Aside0.mk ((by rw [hg]; exact (below_size (by repeat (first | (with_reducible first | exact HB.out | apply below_alloc | apply pw_below_drewN | apply below_drew1 | refine below_set ?_ GE264.out | refine below_set ?_ GE265.out) | exact HB.out))) : w.heap.size ≤ gb284)); have n9_ := Aside0.mk ((by rw [hg]; exact (below_size (by repeat (first | (with_reducible first | exact HB.out | apply below_alloc | apply pw_below_drewN | apply below_drew1 | refine below_set ?_ GE264.out | refine below_set ?_ GE265.out) | exact HB.out))) : w.heap.size ≤ gb284)); have n10_ := Aside0.mk ((by rw [hg]; exact Nat.ne_of_lt (blk_lt (g := gb264) (o := .cells #[.slice A0_0 l0_0.length c0_0, .slice A0_1 l0_1.length c0_1] 25 (0, 0)) (by (with_reducible repeat first | apply blk_drewN | apply blk_drew | apply blk_alloc); exact BK264.out)) : gb264 ≠ gb284)); have n11_ := Aside0.mk ((by rw [hg]; exact Nat.ne_of_gt (blk_lt (g := gb264) (o := .cells #[.slice A0_0 l0_0.length c0_0, .slice A0_1 l0_1.length c0_1] 25 (0, 0)) (by (with_reducible repeat first | apply blk_drewN | apply blk_drew | apply blk_alloc); exact BK264.out)) : gb284 ≠ gb264)); have n12_ := Aside0.mk ((by rw [hg]; exact Nat.ne_of_lt (blk_lt (g := gb265) (o := .cells #[.int .i64 a1_0, .int .i64 a1_1, .int .i64 a1_2, .bool a1_3] 36 (0, 0)) (by (with_reducible repeat first | apply blk_drewN | apply blk_drew | apply blk_alloc); exact BK265.out)) : gb265 ≠ gb284)); have n13_ := Aside0.mk ((by rw [hg]; exact Nat.ne_of_gt (blk_lt (g := gb265) (o := .cells #[.int .i64 a1_0, .int .i64 a1_1, .int .i64 a1_2, .bool a1_3] 36 (0, 0)) (by (with_reducible repeat first | apply blk_drewN | apply blk_drew | apply blk_alloc); exact BK265.out)) : gb284 ≠ gb265)); clear HO269; clear HO272; clear HO280; clear HO283; clear BK264; clear BK265; clear HB; have HO269 := n0_; have HO272 := n1_; have HO280 := n2_; have HO283 := n3_; have BK264 := n4_; have BK265 := n5_; have HB := n6_; have BK284 := n7_; have GW284 := n8_; have GE284 := n9_; have NB264_284 := n10_; have NB284_264 := n11_; have NB265_284 := n12_; have NB284_265 := n13_; clear n0_ n1_ n2_ n3_ n4_ n5_ n6_ n7_ n8_ n9_ n10_ n11_ n12_ n13_; clear hb hbox hg; obtain ⟨Ao85, co85, eo85⟩ := Kd.R_slice HO280.out; subst eo85; have hnb86 := NB284_264.out; have hnc86 := NB264_284.out; have hnb87 := NB284_265.out; have hnc87 := NB265_284.out; have hcz88_0 : w84.cell? ⟨gb284, 0, none⟩ = some (.slice none 0 0) := (blk_cell BK284.out 0).trans rfl; have hcz88_1 : w84.cell? ⟨gb284, 1, none⟩ = some (.slice none 0 0) := (blk_cell BK284.out 1).trans rfl; have hfz88_0 := blk_frozen BK284.out 0; have hfz88_1 := blk_frozen BK284.out 1; obtain ⟨Ao89, co89, eo89⟩ := Kd.S_slice HO283.out; subst eo89))
    have n0_ : Aside0 (Kd.R k58 58 ((w84.setCell ⟨gb284, 0, none⟩ (.slice Ao85 t278.length co85)).setCell ⟨gb284, 1, none⟩ (.slice Ao89 t281.length co89)) w.heap.size (fun k_ => some k_ ≠ (.slice Ao85 t278.length co85 : Value).ownBlock) (.slice Ao79 t267.length co79) t267) := ⟨by (with_reducible repeat (first | apply Kd.R_alloc | apply Kd.R_drewN | apply Kd.R_drew)); exact Kd.R_mono (Kd.R_far (p := ⟨gb284, 1, none⟩) (Kd.R_far (p := ⟨gb284, 0, none⟩) (Kd.R_types HO269.out BK284.out (by decide)) (fun _ hk => hk.2) (.slice Ao85 t278.length co85)) (fun _ hk => hk.2) (.slice Ao89 t281.length co89)) (fun _ hk => hk.1.2)⟩
    have n1_ : Aside0 (Kd.S k84 84 ((w84.setCell ⟨gb284, 0, none⟩ (.slice Ao85 t278.length co85)).setCell ⟨gb284, 1, none⟩ (.slice Ao89 t281.length co89)) w.heap.size (fun k_ => some k_ ≠ (.slice Ao89 t281.length co89 : Value).ownBlock) (.slice Ao80 t270.length co80) t270) := ⟨by (with_reducible repeat (first | apply Kd.S_alloc | apply Kd.S_drewN | apply Kd.S_drew)); exact Kd.S_mono (Kd.S_far (p := ⟨gb284, 1, none⟩) (Kd.S_far (p := ⟨gb284, 0, none⟩) (Kd.S_types HO272.out BK284.out (by decide)) (fun _ hk => hk.2) (.slice Ao85 t278.length co85)) (fun _ hk => hk.2) (.slice Ao89 t281.length co89)) (fun _ hk => hk.1.2)⟩
    have n2_ : Aside0 (Kd.R k58 58 ((w84.setCell ⟨gb284, 0, none⟩ (.slice Ao85 t278.length co85)).setCell ⟨gb284, 1, none⟩ (.slice Ao89 t281.length co89)) w.heap.size (fun k_ => some k_ ≠ (.slice Ao79 t267.length co79 : Value).ownBlock) (.slice Ao85 t278.length co85) t278) := ⟨by (with_reducible repeat (first | apply Kd.R_alloc | apply Kd.R_drewN | apply Kd.R_drew)); exact Kd.R_mono (Kd.R_far (p := ⟨gb284, 1, none⟩) (Kd.R_far (p := ⟨gb284, 0, none⟩) (Kd.R_types HO280.out BK284.out (by decide)) (fun _ hk => hk.2) (.slice Ao85 t278.length co85)) (fun _ hk => hk.2) (.slice Ao89 t281.length co89)) (fun _ hk => hk.1.2)⟩
    have n3_ : Aside0 (Kd.S k84 84 ((w84.setCell ⟨gb284, 0, none⟩ (.slice Ao85 t278.length co85)).setCell ⟨gb284, 1, none⟩ (.slice Ao89 t281.length co89)) w.heap.size (fun k_ => some k_ ≠ (.slice Ao80 t270.length co80 : Value).ownBlock) (.slice Ao89 t281.length co89) t281) := ⟨by (with_reducible repeat (first | apply Kd.S_alloc | apply Kd.S_drewN | apply Kd.S_drew)); exact Kd.S_mono (Kd.S_far (p := ⟨gb284, 1, none⟩) (Kd.S_far (p := ⟨gb284, 0, none⟩) (Kd.S_types HO283.out BK284.out (by decide)) (fun _ hk => hk.2) (.slice Ao85 t278.length co85)) (fun _ hk => hk.2) (.slice Ao89 t281.length co89)) (fun _ hk => hk.1.2)⟩
    have n4_ : Aside0 (((w84.setCell ⟨gb284, 0, none⟩ (.slice Ao85 t278.length co85)).setCell ⟨gb284, 1, none⟩ (.slice Ao89 t281.length co89)).heap[gb264]? = some (.cells #[.slice A0_0 l0_0.length c0_0, .slice A0_1 l0_1.length c0_1] 25 (0, 0))) := ⟨by (with_reducible repeat first | apply blk_drewN | apply blk_drew | apply blk_alloc); refine blk_far ?_ NB264_284.out _; (with_reducible repeat first | apply blk_drewN | apply blk_drew | apply blk_alloc); refine blk_far ?_ NB264_284.out _; (with_reducible repeat first | apply blk_drewN | apply blk_drew | apply blk_alloc); exact BK264.out⟩
    have n5_ : Aside0 (((w84.setCell ⟨gb284, 0, none⟩ (.slice Ao85 t278.length co85)).setCell ⟨gb284, 1, none⟩ (.slice Ao89 t281.length co89)).heap[gb265]? = some (.cells #[.int .i64 a1_0, .int .i64 a1_1, .int .i64 a1_2, .bool a1_3] 36 (0, 0))) := ⟨by (with_reducible repeat first | apply blk_drewN | apply blk_drew | apply blk_alloc); refine blk_far ?_ NB265_284.out _; (with_reducible repeat first | apply blk_drewN | apply blk_drew | apply blk_alloc); refine blk_far ?_ NB265_284.out _; (with_reducible repeat first | apply blk_drewN | apply blk_drew | apply blk_alloc); exact BK265.out⟩
    have n6_ : Aside0 (((w84.setCell ⟨gb284, 0, none⟩ (.slice Ao85 t278.length co85)).setCell ⟨gb284, 1, none⟩ (.slice Ao89 t281.length co89)).heap[gb284]? = some (.cells #[.slice Ao85 t278.length co85, .slice Ao89 t281.length co89] 31 (0, 0))) := ⟨by (with_reducible repeat first | apply blk_drewN | apply blk_drew | apply blk_alloc); refine blk_put (cs := #[.slice Ao85 t278.length co85, .slice none 0 0]) ?_ 1 _ rfl; (with_reducible repeat first | apply blk_drewN | apply blk_drew | apply blk_alloc); refine blk_put (cs := #[.slice none 0 0, .slice none 0 0]) ?_ 0 _ rfl; (with_reducible repeat first | apply blk_drewN | apply blk_drew | apply blk_alloc); exact BK284.out⟩
    have n7_ : Aside0 (Below w.heap.size w ((w84.setCell ⟨gb284, 0, none⟩ (.slice Ao85 t278.length co85)).setCell ⟨gb284, 1, none⟩ (.slice Ao89 t281.length co89))) := ⟨by repeat (first | (with_reducible first | exact HB.out | apply below_alloc | apply pw_below_drewN | apply below_drew1 | refine below_set ?_ GE264.out | refine below_set ?_ GE265.out | refine below_set ?_ GE284.out) | exact HB.out)⟩
    (try clear HO269)
    (try clear HO272)
    (try clear HO280)
    (try clear HO283)
    (try clear BK264)
    (try clear BK265)
    (try clear BK284)
    (try clear HB)
    generalize ((w84.setCell ⟨gb284, 0, none⟩ (.slice Ao85 t278.length co85)).setCell ⟨gb284, 1, none⟩ (.slice Ao89 t281.length co89)) = w90 at n0_ n1_ n2_ n3_ n4_ n5_ n6_ n7_ ⊢
    have HO269 := n0_
    have HO272 := n1_
    have HO280 := n2_
    have HO283 := n3_
    have BK264 := n4_
    have BK265 := n5_
    have BK284 := n6_
    have HB := n7_
    clear n0_ n1_ n2_ n3_ n4_ n5_ n6_ n7_
    have n0_ := Aside0.mk (Kd.R_drew HO269.out)
    have n1_ := Aside0.mk (Kd.S_drew HO272.out)
    have n2_ := Aside0.mk (Kd.R_drew HO280.out)
    have n3_ := Aside0.mk (Kd.S_drew HO283.out)
    have n4_ := Aside0.mk (blk_drew BK264.out)
    have n5_ := Aside0.mk (blk_drew BK265.out)
    have n6_ := Aside0.mk (blk_drew BK284.out)
    have n7_ := Aside0.mk (below_drew1 HB.out)
    clear HO269
    clear HO272
    clear HO280
    clear HO283
    clear BK264
    clear BK265
    clear BK284
    clear HB
    have HO269 := n0_
    have HO272 := n1_
    have HO280 := n2_
    have HO283 := n3_
    have BK264 := n4_
    have BK265 := n5_
    have BK284 := n6_
    have HB := n7_
    clear n0_ n1_ n2_ n3_ n4_ n5_ n6_ n7_
    refine start_ (n := 5) (S := fun w' => w'.cell? ⟨gb284, 0, none⟩ = some (.slice Ao85 t278.length co85) ∧ w'.cell? ⟨gb284, 1, none⟩ = some (.slice Ao89 t281.length co89) ∧ w'.cell? ⟨gb265, 0, none⟩ = some (.int .i64 a1_0) ∧ w'.cell? ⟨gb265, 1, none⟩ = some (.int .i64 a1_1) ∧ w'.cell? ⟨gb265, 2, none⟩ = some (.int .i64 a1_2) ∧ w'.cell? ⟨gb265, 3, none⟩ = some (.bool a1_3)) (ds := []) #[false, false, false, false, false] (by kernel_rfl) rfl rfl ⟨(blk_cell BK284.out 0).trans rfl, (blk_cell BK284.out 1).trans rfl, (blk_cell BK265.out 0).trans rfl, (blk_cell BK265.out 1).trans rfl, (blk_cell BK265.out 2).trans rfl, (blk_cell BK265.out 3).trans rfl⟩ (fun hHeld => ?_)
    generalize w90.drew = w91 at HO269 HO272 HO280 HO283 BK264 BK265 BK284 HB hHeld ⊢
    refine take_ (i := 0) (N := some 21) (v := ?_) (a' := ?_) #[true, false, false, false, false] rfl rfl (by kernel_rfl) (fun _ _ _ h => h) (Or.inl ⟨by rfl, ?_⟩) hHeld ?_ ?_
    (rotate_left; ·(rintro w' ⟨s0, s1, s2, s3, s4, s5⟩; go_simp; with_reducible rfl)); (rotate_left; ·(simp only [Act.put, pq_z4]; rfl))
    refine take_ (i := 1) (N := some 22) (v := ?_) (a' := ?_) #[true, true, false, false, false] rfl rfl (by kernel_rfl) (fun _ _ _ h => h) (Or.inl ⟨by rfl, ?_⟩) hHeld ?_ ?_
    (rotate_left; ·(rintro w' ⟨s0, s1, s2, s3, s4, s5⟩; go_simp; with_reducible rfl)); (rotate_left; ·(simp only [Act.put, pq_z4]; rfl))
    refine one_ (i := 2) (N := some 23) #[true, true, true, false, false] rfl rfl (by kernel_rfl) (by decide) (fun K hK => ?_)
    refine goes_ Try.func23 (by kernel_rfl) rfl #[.agg #[.int .i64 a1_0, .int .i64 a1_1, .int .i64 a1_2, .bool a1_3]] (by rfl) rfl rfl (by (try simp only [List.map_toArray, List.map_cons, List.map_nil]); first | done | rfl | (simp only [List.length_drop, List.length_take]; rfl)) ?_
    with_reducible refine (laws_toRule.calls a1_0 a1_1 a1_2 a1_3 t285 t286 t287 t288 _ A14.out).mono ?_
    rintro e w92 ⟨rfl, hb⟩
    refine ⟨_, rfl, ?_⟩
    have n0_ := Aside0.mk (Kd.R_below (by (with_reducible repeat (first | apply Kd.R_alloc | apply Kd.R_drewN | apply Kd.R_drew)); exact HO269.out) hb)
    have n1_ := Aside0.mk (Kd.S_below (by (with_reducible repeat (first | apply Kd.S_alloc | apply Kd.S_drewN | apply Kd.S_drew)); exact HO272.out) hb)
    have n2_ := Aside0.mk (Kd.R_below (by (with_reducible repeat (first | apply Kd.R_alloc | apply Kd.R_drewN | apply Kd.R_drew)); exact HO280.out) hb)
    have n3_ := Aside0.mk (Kd.S_below (by (with_reducible repeat (first | apply Kd.S_alloc | apply Kd.S_drewN | apply Kd.S_drew)); exact HO283.out) hb)
    have n4_ := Aside0.mk (blk_below (g := gb264) (o := .cells #[.slice A0_0 l0_0.length c0_0, .slice A0_1 l0_1.length c0_1] 25 (0, 0)) (by (with_reducible repeat first | apply blk_drewN | apply blk_drew | apply blk_alloc); exact BK264.out) hb)
    have n5_ := Aside0.mk (blk_below (g := gb265) (o := .cells #[.int .i64 a1_0, .int .i64 a1_1, .int .i64 a1_2, .bool a1_3] 36 (0, 0)) (by (with_reducible repeat first | apply blk_drewN | apply blk_drew | apply blk_alloc); exact BK265.out) hb)
    have n6_ := Aside0.mk (blk_below (g := gb284) (o := .cells #[.slice Ao85 t278.length co85, .slice Ao89 t281.length co89] 31 (0, 0)) (by (with_reducible repeat first | apply blk_drewN | apply blk_drew | apply blk_alloc); exact BK284.out) hb)
    have n7_ := Aside0.mk (below_step (by repeat (first | (with_reducible first | exact HB.out | apply below_alloc | apply pw_below_drewN | apply below_drew1 | refine below_set ?_ GE264.out | refine below_set ?_ GE265.out | refine below_set ?_ GE284.out) | exact HB.out)) hb)
    clear HO269
    clear HO272
    clear HO280
    clear HO283
    clear BK264
    clear BK265
    clear BK284
    clear HB
    have HO269 := n0_
    have HO272 := n1_
    have HO280 := n2_
    have HO283 := n3_
    have BK264 := n4_
    have BK265 := n5_
    have BK284 := n6_
    have HB := n7_
    clear n0_ n1_ n2_ n3_ n4_ n5_ n6_ n7_
    (try clear hb)
    (try clear hb2)
    (try clear hk)
    (try clear hi)
    refine hK.out _ _ ⟨(blk_cell BK284.out 0).trans rfl, (blk_cell BK284.out 1).trans rfl, (blk_cell BK265.out 0).trans rfl, (blk_cell BK265.out 1).trans rfl, (blk_cell BK265.out 2).trans rfl, (blk_cell BK265.out 3).trans rfl⟩ (fun hHeld => ?_)
    clear hK K
    refine norm_ (a' := ?_) ?_ ?_
    (rotate_left; ·(show Act.put _ (some 23) _ = _; simp only [Act.put, pq_z4]; rfl))
    refine one_ (i := 3) (N := some 24) #[true, true, true, true, false] rfl rfl (by kernel_rfl) (by decide) (fun K hK => ?_)
    refine goes_ Try.func24 (by kernel_rfl) rfl #[.agg #[.slice Ao85 t278.length co85, .slice Ao89 t281.length co89], .agg #[.int .i64 t285, .int .i64 t286, .int .i64 t287, .bool t288]] (by rfl) rfl rfl (by (try simp only [List.map_toArray, List.map_cons, List.map_nil]); first | done | rfl | (simp only [List.length_drop, List.length_take]; rfl)) ?_
    with_reducible refine (impl_RuleOk.calls k _ _ t278 _ _ t281 t285 t286 t287 t288 t289 _ ?side1 ?side2 ?side3 ?side4 A15.out).mono ?_
    (case side1 => repeat (first | exact (Kd.R_reads' HO280.out).2.2 | (with_reducible refine Kd.C_alloc ?_ _) | (with_reducible refine Kd.C_drewN ?_ _) | (with_reducible refine Kd.C_drew ?_)))
    (case side2 => exact (Kd.R_reads' HO280.out).2.1)
    (case side3 => repeat (first | exact (Kd.S_reads' HO283.out).2.2 | (with_reducible refine Kd.C_alloc ?_ _) | (with_reducible refine Kd.C_drewN ?_ _) | (with_reducible refine Kd.C_drew ?_)))
    (case side4 => exact (Kd.S_reads' HO283.out).2.1)
    rintro e w93 ⟨rfl, hb⟩
    refine ⟨_, rfl, ?_⟩
    have n0_ := Aside0.mk (Kd.R_below (by (with_reducible repeat (first | apply Kd.R_alloc | apply Kd.R_drewN | apply Kd.R_drew)); exact HO269.out) hb)
    have n1_ := Aside0.mk (Kd.S_below (by (with_reducible repeat (first | apply Kd.S_alloc | apply Kd.S_drewN | apply Kd.S_drew)); exact HO272.out) hb)
    have n2_ := Aside0.mk (Kd.R_below (by (with_reducible repeat (first | apply Kd.R_alloc | apply Kd.R_drewN | apply Kd.R_drew)); exact HO280.out) hb)
    have n3_ := Aside0.mk (Kd.S_below (by (with_reducible repeat (first | apply Kd.S_alloc | apply Kd.S_drewN | apply Kd.S_drew)); exact HO283.out) hb)
    have n4_ := Aside0.mk (blk_below (g := gb264) (o := .cells #[.slice A0_0 l0_0.length c0_0, .slice A0_1 l0_1.length c0_1] 25 (0, 0)) (by (with_reducible repeat first | apply blk_drewN | apply blk_drew | apply blk_alloc); exact BK264.out) hb)
    have n5_ := Aside0.mk (blk_below (g := gb265) (o := .cells #[.int .i64 a1_0, .int .i64 a1_1, .int .i64 a1_2, .bool a1_3] 36 (0, 0)) (by (with_reducible repeat first | apply blk_drewN | apply blk_drew | apply blk_alloc); exact BK265.out) hb)
    have n6_ := Aside0.mk (blk_below (g := gb284) (o := .cells #[.slice Ao85 t278.length co85, .slice Ao89 t281.length co89] 31 (0, 0)) (by (with_reducible repeat first | apply blk_drewN | apply blk_drew | apply blk_alloc); exact BK284.out) hb)
    have n7_ := Aside0.mk (below_step (by repeat (first | (with_reducible first | exact HB.out | apply below_alloc | apply pw_below_drewN | apply below_drew1 | refine below_set ?_ GE264.out | refine below_set ?_ GE265.out | refine below_set ?_ GE284.out) | exact HB.out)) hb)
    clear HO269
    clear HO272
    clear HO280
    clear HO283
    clear BK264
    clear BK265
    clear BK284
    clear HB
    have HO269 := n0_
    have HO272 := n1_
    have HO280 := n2_
    have HO283 := n3_
    have BK264 := n4_
    have BK265 := n5_
    have BK284 := n6_
    have HB := n7_
    clear n0_ n1_ n2_ n3_ n4_ n5_ n6_ n7_
    (try clear hb)
    (try clear hb2)
    (try clear hk)
    (try clear hi)
    refine hK.out _ _ ⟨(blk_cell BK284.out 0).trans rfl, (blk_cell BK284.out 1).trans rfl, (blk_cell BK265.out 0).trans rfl, (blk_cell BK265.out 1).trans rfl, (blk_cell BK265.out 2).trans rfl, (blk_cell BK265.out 3).trans rfl⟩ (fun hHeld => ?_)
    clear hK K
    refine norm_ (a' := ?_) ?_ ?_
    (rotate_left; ·(show Act.put _ (some 24) _ = _; simp only [Act.put, pq_z4]; rfl))
    refine pu_z4 4 (some 8) ?_ #[true, true, true, true, true] rfl rfl (by kernel_rfl) (fun _ _ _ h => h) (Or.inl ⟨by rfl, ?_⟩) ?_ ?_ ?_
    (rotate_left; ·(intro w'; go_simp; with_reducible rfl)); (rotate_left; ·(simp only [Act.put, pq_z4]; rfl))
    refine done_ (by kernel_rfl) ?_
    try go_wp2
    have n0_ := Aside0.mk (Kd.R_drew HO269.out)
    have n1_ := Aside0.mk (Kd.S_drew HO272.out)
    have n2_ := Aside0.mk (Kd.R_drew HO280.out)
    have n3_ := Aside0.mk (Kd.S_drew HO283.out)
    have n4_ := Aside0.mk (blk_drew BK264.out)
    have n5_ := Aside0.mk (blk_drew BK265.out)
    have n6_ := Aside0.mk (blk_drew BK284.out)
    have n7_ := Aside0.mk (below_drew1 HB.out)
    clear HO269
    clear HO272
    clear HO280
    clear HO283
    clear BK264
    clear BK265
    clear BK284
    clear HB
    have HO269 := n0_
    have HO272 := n1_
    have HO280 := n2_
    have HO283 := n3_
    have BK264 := n4_
    have BK265 := n5_
    have BK284 := n6_
    have HB := n7_
    clear n0_ n1_ n2_ n3_ n4_ n5_ n6_ n7_
    refine start_ (n := 5) (S := fun w' => w'.cell? ⟨gb284, 0, none⟩ = some (.slice Ao85 t278.length co85) ∧ w'.cell? ⟨gb284, 1, none⟩ = some (.slice Ao89 t281.length co89) ∧ w'.cell? ⟨gb264, 0, none⟩ = some (.slice A0_0 l0_0.length c0_0) ∧ w'.cell? ⟨gb264, 1, none⟩ = some (.slice A0_1 l0_1.length c0_1)) (ds := []) #[false, false, false, false, false] (by kernel_rfl) rfl rfl ⟨(blk_cell BK284.out 0).trans rfl, (blk_cell BK284.out 1).trans rfl, (blk_cell BK264.out 0).trans rfl, (blk_cell BK264.out 1).trans rfl⟩ (fun hHeld => ?_)
    generalize w93.drew = w94 at HO269 HO272 HO280 HO283 BK264 BK265 BK284 HB hHeld ⊢
    refine take_ (i := 0) (N := some 28) (v := ?_) (a' := ?_) #[true, false, false, false, false] rfl rfl (by kernel_rfl) (fun _ _ _ h => h) (Or.inl ⟨by rfl, ?_⟩) hHeld ?_ ?_
    (rotate_left; ·(rintro w' ⟨s0, s1, s2, s3⟩; go_simp; with_reducible rfl)); (rotate_left; ·(simp only [Act.put, pq_z4]; rfl))
    refine take_ (i := 1) (N := some 29) (v := ?_) (a' := ?_) #[true, true, false, false, false] rfl rfl (by kernel_rfl) (fun _ _ _ h => h) (Or.inl ⟨by rfl, ?_⟩) hHeld ?_ ?_
    (rotate_left; ·(rintro w' ⟨s0, s1, s2, s3⟩; go_simp; with_reducible rfl)); (rotate_left; ·(simp only [Act.put, pq_z4]; rfl))
    refine one_ (i := 2) (N := some 30) #[true, true, true, false, false] rfl rfl (by kernel_rfl) (by decide) (fun K hK => ?_)
    refine goes_ Try.func19 (by kernel_rfl) rfl #[.agg #[.slice A0_0 l0_0.length c0_0, .slice A0_1 l0_1.length c0_1]] (by rfl) rfl rfl (by (try simp only [List.map_toArray, List.map_cons, List.map_nil]); first | done | rfl | (simp only [List.length_drop, List.length_take]; rfl)) ?_
    with_reducible refine (laws_toTree.calls k _ _ l0_0 _ _ l0_1 t290 t293 _ ?side1 ?side2 ?side3 ?side4 A40.out).mono ?_
    (case side1 => repeat (first | exact (Kd.C_below HR0_0.out HB.out) | (with_reducible refine Kd.C_alloc ?_ _) | (with_reducible refine Kd.C_drewN ?_ _) | (with_reducible refine Kd.C_drew ?_)))
    (case side2 => exact HC0_0.out)
    (case side3 => repeat (first | exact (Kd.C_below HR0_1.out HB.out) | (with_reducible refine Kd.C_alloc ?_ _) | (with_reducible refine Kd.C_drewN ?_ _) | (with_reducible refine Kd.C_drew ?_)))
    (case side4 => exact HC0_1.out)
    rintro e w95 ⟨v291, v294, rfl, ho0, ho1, hb⟩
    refine ⟨_, rfl, ?_⟩
    have n0_ := Aside0.mk (Kd.R_elder' (by (with_reducible repeat (first | apply Kd.R_alloc | apply Kd.R_drewN | apply Kd.R_drew)); exact HO269.out) (Kd.R_base ho0) hb)
    have n1_ := Aside0.mk (Kd.S_elder' (by (with_reducible repeat (first | apply Kd.S_alloc | apply Kd.S_drewN | apply Kd.S_drew)); exact HO272.out) (Kd.S_base ho1) hb)
    have n2_ := Aside0.mk (Kd.R_elder' (by (with_reducible repeat (first | apply Kd.R_alloc | apply Kd.R_drewN | apply Kd.R_drew)); exact HO280.out) (Kd.R_base ho0) hb)
    have n3_ := Aside0.mk (Kd.S_elder' (by (with_reducible repeat (first | apply Kd.S_alloc | apply Kd.S_drewN | apply Kd.S_drew)); exact HO283.out) (Kd.S_base ho1) hb)
    have n4_ := Aside0.mk (Kd.R_lower (Kd.R_new' (Kd.R_new' ho0 (Kd.R_lt (by (with_reducible repeat (first | apply Kd.R_alloc | apply Kd.R_drewN | apply Kd.R_drew)); exact HO269.out))) (Kd.R_lt (by (with_reducible repeat (first | apply Kd.R_alloc | apply Kd.R_drewN | apply Kd.R_drew)); exact HO280.out))) (below_size (by repeat (first | (with_reducible first | exact HB.out | apply below_alloc | apply pw_below_drewN | apply below_drew1 | refine below_set ?_ GE264.out | refine below_set ?_ GE265.out | refine below_set ?_ GE284.out) | exact HB.out))))
    have n5_ := Aside0.mk (Kd.S_lower (Kd.S_new' (Kd.S_new' ho1 (Kd.S_lt (by (with_reducible repeat (first | apply Kd.S_alloc | apply Kd.S_drewN | apply Kd.S_drew)); exact HO272.out))) (Kd.S_lt (by (with_reducible repeat (first | apply Kd.S_alloc | apply Kd.S_drewN | apply Kd.S_drew)); exact HO283.out))) (below_size (by repeat (first | (with_reducible first | exact HB.out | apply below_alloc | apply pw_below_drewN | apply below_drew1 | refine below_set ?_ GE264.out | refine below_set ?_ GE265.out | refine below_set ?_ GE284.out) | exact HB.out))))
    have n6_ := Aside0.mk (blk_below (g := gb264) (o := .cells #[.slice A0_0 l0_0.length c0_0, .slice A0_1 l0_1.length c0_1] 25 (0, 0)) (by (with_reducible repeat first | apply blk_drewN | apply blk_drew | apply blk_alloc); exact BK264.out) hb)
    have n7_ := Aside0.mk (blk_below (g := gb265) (o := .cells #[.int .i64 a1_0, .int .i64 a1_1, .int .i64 a1_2, .bool a1_3] 36 (0, 0)) (by (with_reducible repeat first | apply blk_drewN | apply blk_drew | apply blk_alloc); exact BK265.out) hb)
    have n8_ := Aside0.mk (blk_below (g := gb284) (o := .cells #[.slice Ao85 t278.length co85, .slice Ao89 t281.length co89] 31 (0, 0)) (by (with_reducible repeat first | apply blk_drewN | apply blk_drew | apply blk_alloc); exact BK284.out) hb)
    have n9_ := Aside0.mk (below_step (by repeat (first | (with_reducible first | exact HB.out | apply below_alloc | apply pw_below_drewN | apply below_drew1 | refine below_set ?_ GE264.out | refine below_set ?_ GE265.out | refine below_set ?_ GE284.out) | exact HB.out)) hb)
    clear HO269
    clear HO272
    clear HO280
    clear HO283
    clear BK264
    clear BK265
    clear BK284
    clear HB
    have HO269 := n0_
    have HO272 := n1_
    have HO280 := n2_
    have HO283 := n3_
    have HO292 := n4_
    have HO295 := n5_
    have BK264 := n6_
    have BK265 := n7_
    have BK284 := n8_
    have HB := n9_
    clear n0_ n1_ n2_ n3_ n4_ n5_ n6_ n7_ n8_ n9_
    (try clear hb)
    (try clear hb2)
    (try clear hk)
    (try clear hi)
    (try clear ho0)
    (try clear ho1)
    obtain ⟨Ao96, co96, eo96⟩ := Kd.R_slice HO292.out
    (first | subst eo96 | (injection eo96 with f1_ f2_ f3_; have f4_ := f1_.symm; have f5_ := f3_.symm; clear f1_ f2_ f3_; subst f4_; subst f5_))
    obtain ⟨Ao97, co97, eo97⟩ := Kd.S_slice HO295.out
    (first | subst eo97 | (injection eo97 with f1_ f2_ f3_; have f4_ := f1_.symm; have f5_ := f3_.symm; clear f1_ f2_ f3_; subst f4_; subst f5_))
    refine hK.out _ _ ⟨(blk_cell BK284.out 0).trans rfl, (blk_cell BK284.out 1).trans rfl, (blk_cell BK264.out 0).trans rfl, (blk_cell BK264.out 1).trans rfl⟩ (fun hHeld => ?_)
    clear hK K
    refine norm_ (a' := ?_) ?_ ?_
    (rotate_left; ·(show Act.put _ (some 30) _ = _; simp only [Act.put, pq_z4]; rfl))
    refine one_ (i := 3) (N := some 31) #[true, true, true, true, false] rfl rfl (by kernel_rfl) (by decide) (fun K hK => ?_)
    refine goes_ Try.func21 (by kernel_rfl) rfl #[.agg #[.slice Ao85 t278.length co85, .slice Ao89 t281.length co89], .agg #[.slice Ao96 t290.length co96, .slice Ao97 t293.length co97]] (by rfl) rfl rfl (by (try simp only [List.map_toArray, List.map_cons, List.map_nil]); first | done | rfl | (simp only [List.length_drop, List.length_take]; rfl)) ?_
    with_reducible refine (laws_eqTree.calls k _ _ t278 _ _ t281 _ _ t290 _ _ t293 false _ ?side1 ?side2 ?side3 ?side4 ?side5 ?side6 ?side7 ?side8 A41.out).mono ?_
    (case side1 => repeat (first | exact (Kd.R_reads' HO280.out).2.2 | (with_reducible refine Kd.C_alloc ?_ _) | (with_reducible refine Kd.C_drewN ?_ _) | (with_reducible refine Kd.C_drew ?_)))
    (case side2 => exact (Kd.R_reads' HO280.out).2.1)
    (case side3 => repeat (first | exact (Kd.S_reads' HO283.out).2.2 | (with_reducible refine Kd.C_alloc ?_ _) | (with_reducible refine Kd.C_drewN ?_ _) | (with_reducible refine Kd.C_drew ?_)))
    (case side4 => exact (Kd.S_reads' HO283.out).2.1)
    (case side5 => repeat (first | exact (Kd.R_reads' HO292.out).2.2 | (with_reducible refine Kd.C_alloc ?_ _) | (with_reducible refine Kd.C_drewN ?_ _) | (with_reducible refine Kd.C_drew ?_)))
    (case side6 => exact (Kd.R_reads' HO292.out).2.1)
    (case side7 => repeat (first | exact (Kd.S_reads' HO295.out).2.2 | (with_reducible refine Kd.C_alloc ?_ _) | (with_reducible refine Kd.C_drewN ?_ _) | (with_reducible refine Kd.C_drew ?_)))
    (case side8 => exact (Kd.S_reads' HO295.out).2.1)
    rintro e w98 ⟨rfl, hb⟩
    refine ⟨_, rfl, ?_⟩
    have n0_ := Aside0.mk (Kd.R_below (by (with_reducible repeat (first | apply Kd.R_alloc | apply Kd.R_drewN | apply Kd.R_drew)); exact HO269.out) hb)
    have n1_ := Aside0.mk (Kd.S_below (by (with_reducible repeat (first | apply Kd.S_alloc | apply Kd.S_drewN | apply Kd.S_drew)); exact HO272.out) hb)
    have n2_ := Aside0.mk (Kd.R_below (by (with_reducible repeat (first | apply Kd.R_alloc | apply Kd.R_drewN | apply Kd.R_drew)); exact HO280.out) hb)
    have n3_ := Aside0.mk (Kd.S_below (by (with_reducible repeat (first | apply Kd.S_alloc | apply Kd.S_drewN | apply Kd.S_drew)); exact HO283.out) hb)
    have n4_ := Aside0.mk (Kd.R_below (by (with_reducible repeat (first | apply Kd.R_alloc | apply Kd.R_drewN | apply Kd.R_drew)); exact HO292.out) hb)
    have n5_ := Aside0.mk (Kd.S_below (by (with_reducible repeat (first | apply Kd.S_alloc | apply Kd.S_drewN | apply Kd.S_drew)); exact HO295.out) hb)
    have n6_ := Aside0.mk (blk_below (g := gb264) (o := .cells #[.slice A0_0 l0_0.length c0_0, .slice A0_1 l0_1.length c0_1] 25 (0, 0)) (by (with_reducible repeat first | apply blk_drewN | apply blk_drew | apply blk_alloc); exact BK264.out) hb)
    have n7_ := Aside0.mk (blk_below (g := gb265) (o := .cells #[.int .i64 a1_0, .int .i64 a1_1, .int .i64 a1_2, .bool a1_3] 36 (0, 0)) (by (with_reducible repeat first | apply blk_drewN | apply blk_drew | apply blk_alloc); exact BK265.out) hb)
    have n8_ := Aside0.mk (blk_below (g := gb284) (o := .cells #[.slice Ao85 t278.length co85, .slice Ao89 t281.length co89] 31 (0, 0)) (by (with_reducible repeat first | apply blk_drewN | apply blk_drew | apply blk_alloc); exact BK284.out) hb)
    have n9_ := Aside0.mk (below_step (by repeat (first | (with_reducible first | exact HB.out | apply below_alloc | apply pw_below_drewN | apply below_drew1 | refine below_set ?_ GE264.out | refine below_set ?_ GE265.out | refine below_set ?_ GE284.out) | exact HB.out)) hb)
    clear HO269
    clear HO272
    clear HO280
    clear HO283
    clear HO292
    clear HO295
    clear BK264
    clear BK265
    clear BK284
    clear HB
    have HO269 := n0_
    have HO272 := n1_
    have HO280 := n2_
    have HO283 := n3_
    have HO292 := n4_
    have HO295 := n5_
    have BK264 := n6_
    have BK265 := n7_
    have BK284 := n8_
    have HB := n9_
    clear n0_ n1_ n2_ n3_ n4_ n5_ n6_ n7_ n8_ n9_
    (try clear hb)
    (try clear hb2)
    (try clear hk)
    (try clear hi)
    refine hK.out _ _ ⟨(blk_cell BK284.out 0).trans rfl, (blk_cell BK284.out 1).trans rfl, (blk_cell BK264.out 0).trans rfl, (blk_cell BK264.out 1).trans rfl⟩ (fun hHeld => ?_)
    clear hK K
    refine norm_ (a' := ?_) ?_ ?_
    (rotate_left; ·(show Act.put _ (some 31) _ = _; simp only [Act.put, pq_z4]; rfl))
    refine pu_z4 4 (some 32) ?_ #[true, true, true, true, true] rfl rfl (by kernel_rfl) (fun _ _ _ h => h) (Or.inl ⟨by rfl, ?_⟩) ?_ ?_ ?_
    (rotate_left; ·(intro w'; go_simp; with_reducible rfl)); (rotate_left; ·(simp only [Act.put, pq_z4]; rfl))
    refine done_ (by kernel_rfl) ?_
    try go_wp2
    go_ret
    exact ⟨by first | rfl | (simp [*, errW_none, errW_some] <;> rfl), by repeat (first | (with_reducible first | exact HB.out | apply below_alloc | apply pw_below_drewN | apply below_drew1 | refine below_set ?_ GE264.out | refine below_set ?_ GE265.out | refine below_set ?_ GE284.out) | exact HB.out)⟩

end Go.Proofs.Ytbofikjgileanaa.Q
