/- Walks of the Go functions that the laws call: each returns what a plain Lean function says. Written by a program for these claims. -/
import Derived.Test.YtgpakhlnjgehhaaQ0
import Derived.Test.YtgpakhlnjgehhaaQf10
import Derived.Test.YtgpakhlnjgehhaaQf11
import Derived.Test.YtgpakhlnjgehhaaQf12
import Derived.Test.YtgpakhlnjgehhaaQf13
import Derived.Test.YtgpakhlnjgehhaaQf4
import Derived.Test.YtgpakhlnjgehhaaQf5
import Derived.Test.YtgpakhlnjgehhaaQf6
import Derived.Test.YtgpakhlnjgehhaaQf7
import Derived.Test.YtgpakhlnjgehhaaQf8
import Derived.Test.YtgpakhlnjgehhaaQf9
namespace Go.Proofs.Ytgpakhlnjgehhaa.Q
open Go.RowKit Go.Proofs.YtgpakhlnjgehhaaW.PrintWords Go.Proofs.YtgpakhlnjgehhaaW.PrintLast Go.Proofs.YtgpakhlnjgehhaaW.PrintMore
attribute [local go_sem] max2_int min2_int max_two min_two max_three min_three max_four min_four   -- for this text's walks alone
set_option linter.unusedVariables false
set_option linter.unusedSimpArgs false

/-! ### laws_FnExactMatRows: function 3 -/
mutual
def laws_FnExactMatRows.j0 : Nat → List Int → Int → List Int → Int → Bool → Int → Int → List Int → Int → Int → List Int → Int → Int → List Int → Int → Int → List Int → Option (Bool)
  | 0, _, _, _, _, _, _, _, _, _, _, _, _, _, _, _, _, _ => none
  | k + 1, x1, x7, x9, x11, x51, x153000, x153001, x153002, x169000, x169001, x169002, x175000, x175001, x175002, x185000, x185001, x185002 => if x51 = true then (some false) else ((laws_toMatrix.f k x153000 x153001 x153002).bind fun bt186 => ((laws_eqMatrix.f k x175000 x175001 x175002 bt186.1 bt186.2.1 bt186.2.2).bind fun t191 => (if t191 = true then ((laws_toInt64S.f k x1).bind fun t192 => ((laws_eqInt64S.f k x9 t192).bind fun t195 => (if t195 = true then ((laws_markMatrix.f k x175000 x175001 x175002 1).bind fun bt196 => ((laws_markInt64S.f k x9 bt196.1).bind fun bt198 => (if bt198.1 < 0 then (laws_FnExactMatRows.j1 k x1 x7 true x153000 x153001 x153002 x169000 x169001 x169002 x185000 x185001 x185002) else ((laws_eqMatrix.f k x185000 x185001 x185002 x169000 x169001 x169002).bind fun t200 => (if t200 = true then (laws_FnExactMatRows.j1 k x1 x7 (x11 != x7) x153000 x153001 x153002 x169000 x169001 x169002 x185000 x185001 x185002) else (laws_FnExactMatRows.j1 k x1 x7 true x153000 x153001 x153002 x169000 x169001 x169002 x185000 x185001 x185002)))))) else (some false)))) else (some false))))
def laws_FnExactMatRows.j1 : Nat → List Int → Int → Bool → Int → Int → List Int → Int → Int → List Int → Int → Int → List Int → Option (Bool)
  | 0, _, _, _, _, _, _, _, _, _, _, _, _ => none
  | k + 1, x1, x7, x80, x153000, x153001, x153002, x169000, x169001, x169002, x185000, x185001, x185002 => if x80 = true then (some false) else ((laws_markMatrix.f k x185000 x185001 x185002 1).bind fun bt201 => ((laws_heldMatrix.f k x185000 x185001 bt201.2 1).bind fun t203 => (if t203 < 0 then (some false) else (if t203 = bt201.1 then ((laws_toMatrix.f k x153000 x153001 x153002).bind fun bt204 => ((laws_toInt64S.f k x1).bind fun t209 => ((impl_MatRows.f bt204.1 bt204.2.1 bt204.2.2 t209).bind fun bt212 => ((laws_eqMatrix.f k bt212.1 bt212.2.1 bt212.2.2.1 x169000 x169001 x169002).bind fun t219 => (if t219 = true then (laws_FnExactMatRows.j2 k bt201.1 (bt212.2.2.2 != x7) x185000 x185001 bt201.2) else (laws_FnExactMatRows.j2 k bt201.1 true x185000 x185001 bt201.2)))))) else (some false)))))
def laws_FnExactMatRows.j2 : Nat → Int → Bool → Int → Int → List Int → Option (Bool)
  | 0, _, _, _, _, _ => none
  | k + 1, x13, x108, x185000, x185001, x185002 => if x108 = true then (some false) else ((laws_heldMatrix.f k x185000 x185001 x185002 1).bind fun t220 => (if t220 < 0 then (some false) else (if t220 = x13 then (some true) else (some false))))
end
def laws_FnExactMatRows.f (k : Nat) (a0_0 : Int) (a0_1 : Int) (l0_2 : List Int) (l1 : List Int) : Option (Bool) := if (l1.length : Int) > 1048576 then (some true) else ((laws_szMatrix.f a0_0 a0_1 l0_2 1048576).bind fun t153 => (if t153 < 0 then (some true) else ((laws_toMatrix.f k a0_0 a0_1 l0_2).bind fun bt154 => ((laws_toInt64S.f k l1).bind fun t159 => ((spec_MatRows.f k bt154.1 bt154.2.1 bt154.2.2 t159).bind fun bt162 => ((laws_toMatrix.f k a0_0 a0_1 l0_2).bind fun bt169 => ((laws_toInt64S.f k l1).bind fun t175 => ((impl_MatRows.f bt169.1 bt169.2.1 bt169.2.2 t175).bind fun bt178 => ((laws_eqMatrix.f k bt178.1 bt178.2.1 bt178.2.2.1 bt162.1 bt162.2.1 bt162.2.2.1).bind fun t185 => (if t185 = true then (laws_FnExactMatRows.j0 k l1 bt162.2.2.2 t175 bt178.2.2.2 (bt178.2.2.2 != bt162.2.2.2) a0_0 a0_1 l0_2 bt162.1 bt162.2.1 bt162.2.2.1 bt169.1 bt169.2.1 bt169.2.2 bt178.1 bt178.2.1 bt178.2.2.1) else (laws_FnExactMatRows.j0 k l1 bt162.2.2.2 t175 bt178.2.2.2 true a0_0 a0_1 l0_2 bt162.1 bt162.2.1 bt162.2.2.1 bt169.1 bt169.2.1 bt169.2.2 bt178.1 bt178.2.1 bt178.2.2.1)))))))))))
theorem laws_FnExactMatRows.mono_l : ∀ k, (∀ y0 y1 y2 y3 y4 y5 y6 y7 y8 y9 y10 y11 y12 y13 y14 y15 y16, LeO (laws_FnExactMatRows.j0 k y0 y1 y2 y3 y4 y5 y6 y7 y8 y9 y10 y11 y12 y13 y14 y15 y16) (laws_FnExactMatRows.j0 (k + 1) y0 y1 y2 y3 y4 y5 y6 y7 y8 y9 y10 y11 y12 y13 y14 y15 y16)) ∧ (∀ y0 y1 y2 y3 y4 y5 y6 y7 y8 y9 y10 y11, LeO (laws_FnExactMatRows.j1 k y0 y1 y2 y3 y4 y5 y6 y7 y8 y9 y10 y11) (laws_FnExactMatRows.j1 (k + 1) y0 y1 y2 y3 y4 y5 y6 y7 y8 y9 y10 y11)) ∧ (∀ y0 y1 y2 y3 y4, LeO (laws_FnExactMatRows.j2 k y0 y1 y2 y3 y4) (laws_FnExactMatRows.j2 (k + 1) y0 y1 y2 y3 y4))
  | 0 => ⟨fun _ _ _ _ _ _ _ _ _ _ _ _ _ _ _ _ _ r h => by simp [laws_FnExactMatRows.j0] at h, fun _ _ _ _ _ _ _ _ _ _ _ _ r h => by simp [laws_FnExactMatRows.j1] at h, fun _ _ _ _ _ r h => by simp [laws_FnExactMatRows.j2] at h⟩
  | k + 1 => by
    obtain ⟨ih0, ih1, ih2⟩ := laws_FnExactMatRows.mono_l k
    refine ⟨?_, ?_, ?_⟩
    · intro y0 y1 y2 y3 y4 y5 y6 y7 y8 y9 y10 y11 y12 y13 y14 y15 y16
      unfold laws_FnExactMatRows.j0
      repeat' first
      | (with_reducible exact ih0 _ _ _ _ _ _ _ _ _ _ _ _ _ _ _ _ _)
      | (with_reducible exact ih1 _ _ _ _ _ _ _ _ _ _ _ _)
      | (with_reducible exact ih2 _ _ _ _ _)
      | (with_reducible exact laws_eqInt64S.mono _ _ _)
      | (with_reducible exact laws_eqMatrix.mono _ _ _ _ _ _ _)
      | (with_reducible exact laws_heldMatrix.mono _ _ _ _ _)
      | (with_reducible exact laws_markInt64S.mono _ _ _)
      | (with_reducible exact laws_markMatrix.mono _ _ _ _ _)
      | (with_reducible exact laws_toInt64S.mono _ _)
      | (with_reducible exact laws_toMatrix.mono _ _ _ _)
      | (with_reducible exact spec_MatRows.mono _ _ _ _ _)
      | (with_reducible exact LeO.refl _)
      | (with_reducible exact LeO.none _)
      | (with_reducible refine LeO.ite ?_ ?_)
      | (with_reducible refine LeO.bind ?_ (fun _ => ?_))
      | exact ih0 _ _ _ _ _ _ _ _ _ _ _ _ _ _ _ _ _
      | exact ih1 _ _ _ _ _ _ _ _ _ _ _ _
      | exact ih2 _ _ _ _ _
      | exact laws_eqInt64S.mono _ _ _
      | exact laws_eqMatrix.mono _ _ _ _ _ _ _
      | exact laws_heldMatrix.mono _ _ _ _ _
      | exact laws_markInt64S.mono _ _ _
      | exact laws_markMatrix.mono _ _ _ _ _
      | exact laws_toInt64S.mono _ _
      | exact laws_toMatrix.mono _ _ _ _
      | exact spec_MatRows.mono _ _ _ _ _
      | exact LeO.none _
      | refine LeO.ite ?_ ?_
      | refine LeO.bind ?_ (fun _ => ?_)
    · intro y0 y1 y2 y3 y4 y5 y6 y7 y8 y9 y10 y11
      unfold laws_FnExactMatRows.j1
      repeat' first
      | (with_reducible exact ih0 _ _ _ _ _ _ _ _ _ _ _ _ _ _ _ _ _)
      | (with_reducible exact ih1 _ _ _ _ _ _ _ _ _ _ _ _)
      | (with_reducible exact ih2 _ _ _ _ _)
      | (with_reducible exact laws_eqInt64S.mono _ _ _)
      | (with_reducible exact laws_eqMatrix.mono _ _ _ _ _ _ _)
      | (with_reducible exact laws_heldMatrix.mono _ _ _ _ _)
      | (with_reducible exact laws_markInt64S.mono _ _ _)
      | (with_reducible exact laws_markMatrix.mono _ _ _ _ _)
      | (with_reducible exact laws_toInt64S.mono _ _)
      | (with_reducible exact laws_toMatrix.mono _ _ _ _)
      | (with_reducible exact spec_MatRows.mono _ _ _ _ _)
      | (with_reducible exact LeO.refl _)
      | (with_reducible exact LeO.none _)
      | (with_reducible refine LeO.ite ?_ ?_)
      | (with_reducible refine LeO.bind ?_ (fun _ => ?_))
      | exact ih0 _ _ _ _ _ _ _ _ _ _ _ _ _ _ _ _ _
      | exact ih1 _ _ _ _ _ _ _ _ _ _ _ _
      | exact ih2 _ _ _ _ _
      | exact laws_eqInt64S.mono _ _ _
      | exact laws_eqMatrix.mono _ _ _ _ _ _ _
      | exact laws_heldMatrix.mono _ _ _ _ _
      | exact laws_markInt64S.mono _ _ _
      | exact laws_markMatrix.mono _ _ _ _ _
      | exact laws_toInt64S.mono _ _
      | exact laws_toMatrix.mono _ _ _ _
      | exact spec_MatRows.mono _ _ _ _ _
      | exact LeO.none _
      | refine LeO.ite ?_ ?_
      | refine LeO.bind ?_ (fun _ => ?_)
    · intro y0 y1 y2 y3 y4
      unfold laws_FnExactMatRows.j2
      repeat' first
      | (with_reducible exact ih0 _ _ _ _ _ _ _ _ _ _ _ _ _ _ _ _ _)
      | (with_reducible exact ih1 _ _ _ _ _ _ _ _ _ _ _ _)
      | (with_reducible exact ih2 _ _ _ _ _)
      | (with_reducible exact laws_eqInt64S.mono _ _ _)
      | (with_reducible exact laws_eqMatrix.mono _ _ _ _ _ _ _)
      | (with_reducible exact laws_heldMatrix.mono _ _ _ _ _)
      | (with_reducible exact laws_markInt64S.mono _ _ _)
      | (with_reducible exact laws_markMatrix.mono _ _ _ _ _)
      | (with_reducible exact laws_toInt64S.mono _ _)
      | (with_reducible exact laws_toMatrix.mono _ _ _ _)
      | (with_reducible exact spec_MatRows.mono _ _ _ _ _)
      | (with_reducible exact LeO.refl _)
      | (with_reducible exact LeO.none _)
      | (with_reducible refine LeO.ite ?_ ?_)
      | (with_reducible refine LeO.bind ?_ (fun _ => ?_))
      | exact ih0 _ _ _ _ _ _ _ _ _ _ _ _ _ _ _ _ _
      | exact ih1 _ _ _ _ _ _ _ _ _ _ _ _
      | exact ih2 _ _ _ _ _
      | exact laws_eqInt64S.mono _ _ _
      | exact laws_eqMatrix.mono _ _ _ _ _ _ _
      | exact laws_heldMatrix.mono _ _ _ _ _
      | exact laws_markInt64S.mono _ _ _
      | exact laws_markMatrix.mono _ _ _ _ _
      | exact laws_toInt64S.mono _ _
      | exact laws_toMatrix.mono _ _ _ _
      | exact spec_MatRows.mono _ _ _ _ _
      | exact LeO.none _
      | refine LeO.ite ?_ ?_
      | refine LeO.bind ?_ (fun _ => ?_)
theorem laws_FnExactMatRows.mono : ∀ a0 a1 a2 a3 k, LeO (laws_FnExactMatRows.f k a0 a1 a2 a3) (laws_FnExactMatRows.f (k + 1) a0 a1 a2 a3) := by
  intro a0 a1 a2 a3 k
  obtain ⟨ih0, ih1, ih2⟩ := laws_FnExactMatRows.mono_l k
  unfold laws_FnExactMatRows.f
  repeat' first
      | (with_reducible exact ih0 _ _ _ _ _ _ _ _ _ _ _ _ _ _ _ _ _)
      | (with_reducible exact ih1 _ _ _ _ _ _ _ _ _ _ _ _)
      | (with_reducible exact ih2 _ _ _ _ _)
      | (with_reducible exact laws_eqInt64S.mono _ _ _)
      | (with_reducible exact laws_eqMatrix.mono _ _ _ _ _ _ _)
      | (with_reducible exact laws_heldMatrix.mono _ _ _ _ _)
      | (with_reducible exact laws_markInt64S.mono _ _ _)
      | (with_reducible exact laws_markMatrix.mono _ _ _ _ _)
      | (with_reducible exact laws_toInt64S.mono _ _)
      | (with_reducible exact laws_toMatrix.mono _ _ _ _)
      | (with_reducible exact spec_MatRows.mono _ _ _ _ _)
      | (with_reducible exact LeO.refl _)
      | (with_reducible exact LeO.none _)
      | (with_reducible refine LeO.ite ?_ ?_)
      | (with_reducible refine LeO.bind ?_ (fun _ => ?_))
      | exact ih0 _ _ _ _ _ _ _ _ _ _ _ _ _ _ _ _ _
      | exact ih1 _ _ _ _ _ _ _ _ _ _ _ _
      | exact ih2 _ _ _ _ _
      | exact laws_eqInt64S.mono _ _ _
      | exact laws_eqMatrix.mono _ _ _ _ _ _ _
      | exact laws_heldMatrix.mono _ _ _ _ _
      | exact laws_markInt64S.mono _ _ _
      | exact laws_markMatrix.mono _ _ _ _ _
      | exact laws_toInt64S.mono _ _
      | exact laws_toMatrix.mono _ _ _ _
      | exact spec_MatRows.mono _ _ _ _ _
      | exact LeO.none _
      | refine LeO.ite ?_ ?_
      | refine LeO.bind ?_ (fun _ => ?_)
def az_z3 (n m : Nat) : Array Bool := (List.replicate n true ++ List.replicate m false).toArray
theorem pu_z3 {P : Program} {ops : Array Oper} {Q : Exit → Act → World → Prop} {md : Region.Mode} {S : World → Prop} {ds : List Nat} {oi : Oper} {fuel : Nat} {l : Array Bool} {a : Act} {w : World} (i : Nat) (N : Option Tmp) (v : Value) (l' : Array Bool) (hi : ops[i]? = some oi) (hN : oi.dst = N) (hc : anyB md ops l l' i = true)
    (hQ : ∀ c a w, Q (.panic c) (a.put oi.dst v) w → Q (.panic c) a w) (hy : Yields P ops oi v a) (a' : Act) (ha : a.put N v = a')
    (h : wpAnyLast P md ops Q S ds fuel l' a' w) : wpAnyLast P md ops Q S ds (fuel + 1) l a w := pure_ l' hi hN hc hQ hy ha h
theorem pq_z3 : (∀ (l : List Value) (i : Nat) (v : Value), l.toArray.setIfInBounds i v = (l.set i v).toArray) ∧ (∀ (x v : Value) (xs : List Value), (x :: xs).set 0 v = v :: xs) ∧ (∀ (x v : Value) (xs : List Value) (n : Nat), (x :: xs).set (n + 1) v = x :: xs.set n v) ∧ (∀ n : Int, IntKind.i64.wrap n = Go.RowKit.wrap64 n) ∧ (∀ n : Int, IntKind.i32.wrap n = Go.RowKit.wrap32 n) :=
  ⟨fun l i v => List.setIfInBounds_toArray l i v, fun _ _ _ => rfl, fun _ _ _ _ => rfl, i64_w, i32_w⟩
set_option maxHeartbeats 8000000 in
set_option maxRecDepth 100000 in
theorem laws_FnExactMatRows.calls (k : Nat) (a0_0 : Int) (a0_1 : Int) (A0_2 : Option Addr) (c0_2 : Nat) (l0_2 : List Int) (A1 : Option Addr) (c1 : Nat) (l1 : List Int) (r : Bool) (w : World) (hr0_2 : Kd.C (Kd.int .i64) w A0_2 l0_2.length l0_2) (hc0_2 : l0_2.length ≤ c0_2) (hr1 : Kd.C (Kd.int .i64) w A1 l1.length l1) (hc1 : l1.length ≤ c1) (h : laws_FnExactMatRows.f k a0_0 a0_1 l0_2 l1 = some r) :
  Calls Try.prog 3 #[.agg #[.int .i64 a0_0, .int .i64 a0_1, .slice A0_2 l0_2.length c0_2], .slice A1 l1.length c1] w fun e w' => e = .returned (.bool r) ∧ Below w.heap.size w w' := by
 have hu24 := Try.underlying24
 have hu26 := Try.underlying26
 have HR0_2 := Aside0.mk hr0_2
 have HC0_2 := Aside0.mk hc0_2
 clear hr0_2 hc0_2
 have HR1 := Aside0.mk hr1
 have HC1 := Aside0.mk hc1
 clear hr1 hc1
 have HB := Aside0.mk (Below.refl w.heap.size w)
 have H : (if (l1.length : Int) > 1048576 then (some true) else ((laws_szMatrix.f a0_0 a0_1 l0_2 1048576).bind fun t153 => (if t153 < 0 then (some true) else ((laws_toMatrix.f k a0_0 a0_1 l0_2).bind fun bt154 => ((laws_toInt64S.f k l1).bind fun t159 => ((spec_MatRows.f k bt154.1 bt154.2.1 bt154.2.2 t159).bind fun bt162 => ((laws_toMatrix.f k a0_0 a0_1 l0_2).bind fun bt169 => ((laws_toInt64S.f k l1).bind fun t175 => ((impl_MatRows.f bt169.1 bt169.2.1 bt169.2.2 t175).bind fun bt178 => ((laws_eqMatrix.f k bt178.1 bt178.2.1 bt178.2.2.1 bt162.1 bt162.2.1 bt162.2.2.1).bind fun t185 => (if t185 = true then (laws_FnExactMatRows.j0 k l1 bt162.2.2.2 t175 bt178.2.2.2 (bt178.2.2.2 != bt162.2.2.2) a0_0 a0_1 l0_2 bt162.1 bt162.2.1 bt162.2.2.1 bt169.1 bt169.2.1 bt169.2.2 bt178.1 bt178.2.1 bt178.2.2.1) else (laws_FnExactMatRows.j0 k l1 bt162.2.2.2 t175 bt178.2.2.2 true a0_0 a0_1 l0_2 bt162.1 bt162.2.1 bt162.2.2.1 bt169.1 bt169.2.1 bt169.2.2 bt178.1 bt178.2.1 bt178.2.2.1)))))))))))) = some r := h
 clear h
 by_cases c3 : (l1.length : Int) > 1048576
 ·rw [if_pos c3] at H
  have c3b0 : decide (1048576 < (l1.length : Int)) = true := decide_eq_true c3
  have c3b1 : decide (1048576 < l1.length) = true := decide_eq_true (by omega)
  clear c3
  obtain rfl := Option.some.inj H
  go_enter Try.func3, Try.ntmps3
  go_wp2_with (first | ((with_reducible refine gate_dst (N := 2) rfl ?_); refine box_event ?hg (N := 2) ?hd (cs := #[.int .i64 a0_0, .int .i64 a0_1, .slice A0_2 l0_2.length c0_2]) (t := 24) ?hr ?_; (case hd => rfl); (case hg => rfl); (case hr => first | (go_simp; done) | (go_simp; rfl)); intro gb152 hg w4 hbox hb; have n0_ := Aside0.mk (below_step (by repeat (first | (with_reducible first | exact HB.out | apply below_alloc | apply pw_below_drewN | apply below_drew1) | exact HB.out)) hb); have n1_ := Aside0.mk (hbox); have n2_ := Aside0.mk ((by rw [hg]; exact (below_size (by repeat (first | (with_reducible first | exact HB.out | apply below_alloc | apply pw_below_drewN | apply below_drew1) | exact HB.out))) : w.heap.size ≤ gb152)); have n3_ := Aside0.mk ((by rw [hg]; exact (below_size (by repeat (first | (with_reducible first | exact HB.out | apply below_alloc | apply pw_below_drewN | apply below_drew1) | exact HB.out))) : w.heap.size ≤ gb152)); clear HB; have HB := n0_; have BK152 := n1_; have GW152 := n2_; have GE152 := n3_; clear n0_ n1_ n2_ n3_; clear hb hbox hg))
  go_ret
  exact ⟨by first | rfl | (simp [errW_none, errW_some] <;> rfl) | (simp [*, errW_none, errW_some] <;> rfl), by repeat (first | (with_reducible first | exact HB.out | apply below_alloc | apply pw_below_drewN | apply below_drew1 | refine below_set ?_ GE152.out) | exact HB.out)⟩
 ·rw [if_neg c3] at H
  have c3b0 : decide (1048576 < (l1.length : Int)) = false := decide_eq_false c3
  have c3b1 : decide (1048576 < l1.length) = false := decide_eq_false (by omega)
  clear c3
  replace H := Option.bind_eq_some_iff.mp H
  obtain ⟨t153, A50, H⟩ := H
  replace H : (if t153 < 0 then (some true) else ((laws_toMatrix.f k a0_0 a0_1 l0_2).bind fun bt154 => ((laws_toInt64S.f k l1).bind fun t159 => ((spec_MatRows.f k bt154.1 bt154.2.1 bt154.2.2 t159).bind fun bt162 => ((laws_toMatrix.f k a0_0 a0_1 l0_2).bind fun bt169 => ((laws_toInt64S.f k l1).bind fun t175 => ((impl_MatRows.f bt169.1 bt169.2.1 bt169.2.2 t175).bind fun bt178 => ((laws_eqMatrix.f k bt178.1 bt178.2.1 bt178.2.2.1 bt162.1 bt162.2.1 bt162.2.2.1).bind fun t185 => (if t185 = true then (laws_FnExactMatRows.j0 k l1 bt162.2.2.2 t175 bt178.2.2.2 (bt178.2.2.2 != bt162.2.2.2) a0_0 a0_1 l0_2 bt162.1 bt162.2.1 bt162.2.2.1 bt169.1 bt169.2.1 bt169.2.2 bt178.1 bt178.2.1 bt178.2.2.1) else (laws_FnExactMatRows.j0 k l1 bt162.2.2.2 t175 bt178.2.2.2 true a0_0 a0_1 l0_2 bt162.1 bt162.2.1 bt162.2.2.1 bt169.1 bt169.2.1 bt169.2.2 bt178.1 bt178.2.1 bt178.2.2.1)))))))))) = some r := H
  have A5 := Aside0.mk A50
  clear A50
  by_cases c6 : t153 < 0
  ·rw [if_pos c6] at H
   have c6b0 : decide (t153 < 0) = true := decide_eq_true c6
   clear c6
   obtain rfl := Option.some.inj H
   go_enter Try.func3, Try.ntmps3
   go_wp2_with (first | ((with_reducible refine gate_dst (N := 2) rfl ?_); refine box_event ?hg (N := 2) ?hd (cs := #[.int .i64 a0_0, .int .i64 a0_1, .slice A0_2 l0_2.length c0_2]) (t := 24) ?hr ?_; (case hd => rfl); (case hg => rfl); (case hr => first | (go_simp; done) | (go_simp; rfl)); intro gb152 hg w7 hbox hb; have n0_ := Aside0.mk (below_step (by repeat (first | (with_reducible first | exact HB.out | apply below_alloc | apply pw_below_drewN | apply below_drew1) | exact HB.out)) hb); have n1_ := Aside0.mk (hbox); have n2_ := Aside0.mk ((by rw [hg]; exact (below_size (by repeat (first | (with_reducible first | exact HB.out | apply below_alloc | apply pw_below_drewN | apply below_drew1) | exact HB.out))) : w.heap.size ≤ gb152)); have n3_ := Aside0.mk ((by rw [hg]; exact (below_size (by repeat (first | (with_reducible first | exact HB.out | apply below_alloc | apply pw_below_drewN | apply below_drew1) | exact HB.out))) : w.heap.size ≤ gb152)); clear HB; have HB := n0_; have BK152 := n1_; have GW152 := n2_; have GE152 := n3_; clear n0_ n1_ n2_ n3_; clear hb hbox hg; have hcz8_0 : w7.cell? ⟨gb152, 0, none⟩ = some (.int .i64 a0_0) := (blk_cell BK152.out 0).trans rfl; have hcz8_1 : w7.cell? ⟨gb152, 1, none⟩ = some (.int .i64 a0_1) := (blk_cell BK152.out 1).trans rfl; have hcz8_2 : w7.cell? ⟨gb152, 2, none⟩ = some (.slice A0_2 l0_2.length c0_2) := (blk_cell BK152.out 2).trans rfl; have hfz8_0 := blk_frozen BK152.out 0; have hfz8_1 := blk_frozen BK152.out 1; have hfz8_2 := blk_frozen BK152.out 2) | ((with_reducible refine gate_callee (f := 4) rfl ?_); refine goesL_ (some 22) rfl rfl Try.func4 (by kernel_rfl) rfl #[.agg #[.int .i64 a0_0, .int .i64 a0_1, .slice A0_2 l0_2.length c0_2], .int .i64 1048576] rfl (by (try simp only [List.map_toArray, List.map_cons, List.map_nil]); first | done | rfl | (simp only [List.length_drop, List.length_take]; rfl)) ?_; (with_reducible refine (laws_szMatrix.calls a0_0 a0_1 _ _ l0_2 1048576 t153 _ ?side1 ?side2 A5.out).mono ?_); (case side1 => repeat (first | exact (Kd.C_below HR0_2.out HB.out) | (with_reducible refine Kd.C_alloc ?_ _) | (with_reducible refine Kd.C_drewN ?_ _) | (with_reducible refine Kd.C_drew ?_))); (case side2 => exact HC0_2.out); rintro e w9 ⟨rfl, hb⟩; refine ⟨_, rfl, ?_⟩; have n0_ := Aside0.mk (blk_below (g := gb152) (o := .cells #[.int .i64 a0_0, .int .i64 a0_1, .slice A0_2 l0_2.length c0_2] 24 (0, 0)) (by (with_reducible repeat (first | refine blk_drewN ?_ _ | refine blk_drew ?_ | refine blk_alloc ?_ _)); exact BK152.out) hb); have n1_ := Aside0.mk (below_step (by repeat (first | (with_reducible first | exact HB.out | apply below_alloc | apply pw_below_drewN | apply below_drew1 | refine below_set ?_ GE152.out) | exact HB.out)) hb); clear BK152; clear HB; have BK152 := n0_; have HB := n1_; clear n0_ n1_; (try clear hb); (try clear hb2); (try clear hk); (try clear hi)))
   go_ret
   exact ⟨by first | rfl | (simp [errW_none, errW_some] <;> rfl) | (simp [*, errW_none, errW_some] <;> rfl), by repeat (first | (with_reducible first | exact HB.out | apply below_alloc | apply pw_below_drewN | apply below_drew1 | refine below_set ?_ GE152.out) | exact HB.out)⟩
  ·rw [if_neg c6] at H
   have c6b0 : decide (t153 < 0) = false := decide_eq_false c6
   clear c6
   replace H := Option.bind_eq_some_iff.mp H
   obtain ⟨⟨t154, t155, t156⟩, A100, H⟩ := H
   replace H : ((laws_toInt64S.f k l1).bind fun t159 => ((spec_MatRows.f k t154 t155 t156 t159).bind fun bt162 => ((laws_toMatrix.f k a0_0 a0_1 l0_2).bind fun bt169 => ((laws_toInt64S.f k l1).bind fun t175 => ((impl_MatRows.f bt169.1 bt169.2.1 bt169.2.2 t175).bind fun bt178 => ((laws_eqMatrix.f k bt178.1 bt178.2.1 bt178.2.2.1 bt162.1 bt162.2.1 bt162.2.2.1).bind fun t185 => (if t185 = true then (laws_FnExactMatRows.j0 k l1 bt162.2.2.2 t175 bt178.2.2.2 (bt178.2.2.2 != bt162.2.2.2) a0_0 a0_1 l0_2 bt162.1 bt162.2.1 bt162.2.2.1 bt169.1 bt169.2.1 bt169.2.2 bt178.1 bt178.2.1 bt178.2.2.1) else (laws_FnExactMatRows.j0 k l1 bt162.2.2.2 t175 bt178.2.2.2 true a0_0 a0_1 l0_2 bt162.1 bt162.2.1 bt162.2.2.1 bt169.1 bt169.2.1 bt169.2.2 bt178.1 bt178.2.1 bt178.2.2.1)))))))) = some r := H
   have A10 := Aside0.mk A100
   clear A100
   replace H := Option.bind_eq_some_iff.mp H
   obtain ⟨t159, A110, H⟩ := H
   replace H : ((spec_MatRows.f k t154 t155 t156 t159).bind fun bt162 => ((laws_toMatrix.f k a0_0 a0_1 l0_2).bind fun bt169 => ((laws_toInt64S.f k l1).bind fun t175 => ((impl_MatRows.f bt169.1 bt169.2.1 bt169.2.2 t175).bind fun bt178 => ((laws_eqMatrix.f k bt178.1 bt178.2.1 bt178.2.2.1 bt162.1 bt162.2.1 bt162.2.2.1).bind fun t185 => (if t185 = true then (laws_FnExactMatRows.j0 k l1 bt162.2.2.2 t175 bt178.2.2.2 (bt178.2.2.2 != bt162.2.2.2) a0_0 a0_1 l0_2 bt162.1 bt162.2.1 bt162.2.2.1 bt169.1 bt169.2.1 bt169.2.2 bt178.1 bt178.2.1 bt178.2.2.1) else (laws_FnExactMatRows.j0 k l1 bt162.2.2.2 t175 bt178.2.2.2 true a0_0 a0_1 l0_2 bt162.1 bt162.2.1 bt162.2.2.1 bt169.1 bt169.2.1 bt169.2.2 bt178.1 bt178.2.1 bt178.2.2.1))))))) = some r := H
   have A11 := Aside0.mk A110
   clear A110
   replace H := Option.bind_eq_some_iff.mp H
   obtain ⟨⟨t162, t163, t164, t167⟩, A120, H⟩ := H
   replace H : ((laws_toMatrix.f k a0_0 a0_1 l0_2).bind fun bt169 => ((laws_toInt64S.f k l1).bind fun t175 => ((impl_MatRows.f bt169.1 bt169.2.1 bt169.2.2 t175).bind fun bt178 => ((laws_eqMatrix.f k bt178.1 bt178.2.1 bt178.2.2.1 t162 t163 t164).bind fun t185 => (if t185 = true then (laws_FnExactMatRows.j0 k l1 t167 t175 bt178.2.2.2 (bt178.2.2.2 != t167) a0_0 a0_1 l0_2 t162 t163 t164 bt169.1 bt169.2.1 bt169.2.2 bt178.1 bt178.2.1 bt178.2.2.1) else (laws_FnExactMatRows.j0 k l1 t167 t175 bt178.2.2.2 true a0_0 a0_1 l0_2 t162 t163 t164 bt169.1 bt169.2.1 bt169.2.2 bt178.1 bt178.2.1 bt178.2.2.1)))))) = some r := H
   have A12 := Aside0.mk A120
   clear A120
   replace H := Option.bind_eq_some_iff.mp H
   obtain ⟨⟨t169, t170, t171⟩, A130, H⟩ := H
   replace H : ((laws_toInt64S.f k l1).bind fun t175 => ((impl_MatRows.f t169 t170 t171 t175).bind fun bt178 => ((laws_eqMatrix.f k bt178.1 bt178.2.1 bt178.2.2.1 t162 t163 t164).bind fun t185 => (if t185 = true then (laws_FnExactMatRows.j0 k l1 t167 t175 bt178.2.2.2 (bt178.2.2.2 != t167) a0_0 a0_1 l0_2 t162 t163 t164 t169 t170 t171 bt178.1 bt178.2.1 bt178.2.2.1) else (laws_FnExactMatRows.j0 k l1 t167 t175 bt178.2.2.2 true a0_0 a0_1 l0_2 t162 t163 t164 t169 t170 t171 bt178.1 bt178.2.1 bt178.2.2.1))))) = some r := H
   have A13 := Aside0.mk A130
   clear A130
   replace H := Option.bind_eq_some_iff.mp H
   obtain ⟨t175, A140, H⟩ := H
   replace H : ((impl_MatRows.f t169 t170 t171 t175).bind fun bt178 => ((laws_eqMatrix.f k bt178.1 bt178.2.1 bt178.2.2.1 t162 t163 t164).bind fun t185 => (if t185 = true then (laws_FnExactMatRows.j0 k l1 t167 t175 bt178.2.2.2 (bt178.2.2.2 != t167) a0_0 a0_1 l0_2 t162 t163 t164 t169 t170 t171 bt178.1 bt178.2.1 bt178.2.2.1) else (laws_FnExactMatRows.j0 k l1 t167 t175 bt178.2.2.2 true a0_0 a0_1 l0_2 t162 t163 t164 t169 t170 t171 bt178.1 bt178.2.1 bt178.2.2.1)))) = some r := H
   have A14 := Aside0.mk A140
   clear A140
   replace H := Option.bind_eq_some_iff.mp H
   obtain ⟨⟨t178, t179, t180, t183⟩, A150, H⟩ := H
   replace H : ((laws_eqMatrix.f k t178 t179 t180 t162 t163 t164).bind fun t185 => (if t185 = true then (laws_FnExactMatRows.j0 k l1 t167 t175 t183 (t183 != t167) a0_0 a0_1 l0_2 t162 t163 t164 t169 t170 t171 t178 t179 t180) else (laws_FnExactMatRows.j0 k l1 t167 t175 t183 true a0_0 a0_1 l0_2 t162 t163 t164 t169 t170 t171 t178 t179 t180))) = some r := H
   have A15 := Aside0.mk A150
   clear A150
   have HC16 := Aside0.mk H
   clear H
   go_enter Try.func3, Try.ntmps3
   go_upto_region 11 with (first | ((with_reducible refine gate_dst (N := 2) rfl ?_); refine box_event ?hg (N := 2) ?hd (cs := #[.int .i64 a0_0, .int .i64 a0_1, .slice A0_2 l0_2.length c0_2]) (t := 24) ?hr ?_; (case hd => rfl); (case hg => rfl); (case hr => first | (go_simp; done) | (go_simp; rfl)); intro gb152 hg w17 hbox hb; have n0_ := Aside0.mk (below_step (by repeat (first | (with_reducible first | exact HB.out | apply below_alloc | apply pw_below_drewN | apply below_drew1) | exact HB.out)) hb); have n1_ := Aside0.mk (hbox); have n2_ := Aside0.mk ((by rw [hg]; exact (below_size (by repeat (first | (with_reducible first | exact HB.out | apply below_alloc | apply pw_below_drewN | apply below_drew1) | exact HB.out))) : w.heap.size ≤ gb152)); have n3_ := Aside0.mk ((by rw [hg]; exact (below_size (by repeat (first | (with_reducible first | exact HB.out | apply below_alloc | apply pw_below_drewN | apply below_drew1) | exact HB.out))) : w.heap.size ≤ gb152)); clear HB; have HB := n0_; have BK152 := n1_; have GW152 := n2_; have GE152 := n3_; clear n0_ n1_ n2_ n3_; clear hb hbox hg; have hcz18_0 : w17.cell? ⟨gb152, 0, none⟩ = some (.int .i64 a0_0) := (blk_cell BK152.out 0).trans rfl; have hcz18_1 : w17.cell? ⟨gb152, 1, none⟩ = some (.int .i64 a0_1) := (blk_cell BK152.out 1).trans rfl; have hcz18_2 : w17.cell? ⟨gb152, 2, none⟩ = some (.slice A0_2 l0_2.length c0_2) := (blk_cell BK152.out 2).trans rfl; have hfz18_0 := blk_frozen BK152.out 0; have hfz18_1 := blk_frozen BK152.out 1; have hfz18_2 := blk_frozen BK152.out 2) | ((with_reducible refine gate_callee (f := 4) rfl ?_); refine goesL_ (some 22) rfl rfl Try.func4 (by kernel_rfl) rfl #[.agg #[.int .i64 a0_0, .int .i64 a0_1, .slice A0_2 l0_2.length c0_2], .int .i64 1048576] rfl (by (try simp only [List.map_toArray, List.map_cons, List.map_nil]); first | done | rfl | (simp only [List.length_drop, List.length_take]; rfl)) ?_; (with_reducible refine (laws_szMatrix.calls a0_0 a0_1 _ _ l0_2 1048576 t153 _ ?side1 ?side2 A5.out).mono ?_); (case side1 => repeat (first | exact (Kd.C_below HR0_2.out HB.out) | (with_reducible refine Kd.C_alloc ?_ _) | (with_reducible refine Kd.C_drewN ?_ _) | (with_reducible refine Kd.C_drew ?_))); (case side2 => exact HC0_2.out); rintro e w19 ⟨rfl, hb⟩; refine ⟨_, rfl, ?_⟩; have n0_ := Aside0.mk (blk_below (g := gb152) (o := .cells #[.int .i64 a0_0, .int .i64 a0_1, .slice A0_2 l0_2.length c0_2] 24 (0, 0)) (by (with_reducible repeat (first | refine blk_drewN ?_ _ | refine blk_drew ?_ | refine blk_alloc ?_ _)); exact BK152.out) hb); have n1_ := Aside0.mk (below_step (by repeat (first | (with_reducible first | exact HB.out | apply below_alloc | apply pw_below_drewN | apply below_drew1 | refine below_set ?_ GE152.out) | exact HB.out)) hb); clear BK152; clear HB; have BK152 := n0_; have HB := n1_; clear n0_ n1_; (try clear hb); (try clear hb2); (try clear hk); (try clear hi); have hcz20_0 : w19.cell? ⟨gb152, 0, none⟩ = some (.int .i64 a0_0) := (blk_cell BK152.out 0).trans rfl; have hcz20_1 : w19.cell? ⟨gb152, 1, none⟩ = some (.int .i64 a0_1) := (blk_cell BK152.out 1).trans rfl; have hcz20_2 : w19.cell? ⟨gb152, 2, none⟩ = some (.slice A0_2 l0_2.length c0_2) := (blk_cell BK152.out 2).trans rfl; have hfz20_0 := blk_frozen BK152.out 0; have hfz20_1 := blk_frozen BK152.out 1; have hfz20_2 := blk_frozen BK152.out 2) | ((with_reducible refine gate_callee (f := 6) rfl ?_); refine goesL_ (some 27) rfl rfl Try.func6 (by kernel_rfl) rfl #[.agg #[.int .i64 a0_0, .int .i64 a0_1, .slice A0_2 l0_2.length c0_2]] rfl (by (try simp only [List.map_toArray, List.map_cons, List.map_nil]); first | done | rfl | (simp only [List.length_drop, List.length_take]; rfl)) ?_; (with_reducible refine (laws_toMatrix.calls k a0_0 a0_1 _ _ l0_2 t154 t155 t156 _ ?side1 ?side2 A10.out).mono ?_); (case side1 => repeat (first | exact (Kd.C_below HR0_2.out HB.out) | (with_reducible refine Kd.C_alloc ?_ _) | (with_reducible refine Kd.C_drewN ?_ _) | (with_reducible refine Kd.C_drew ?_))); (case side2 => exact HC0_2.out); rintro e w21 ⟨v157, rfl, ho0, hb⟩; refine ⟨_, rfl, ?_⟩; have n0_ := Aside0.mk (Kd.R_lower ho0 (below_size (by repeat (first | (with_reducible first | exact HB.out | apply below_alloc | apply pw_below_drewN | apply below_drew1 | refine below_set ?_ GE152.out) | exact HB.out)))); have n1_ := Aside0.mk (blk_below (g := gb152) (o := .cells #[.int .i64 a0_0, .int .i64 a0_1, .slice A0_2 l0_2.length c0_2] 24 (0, 0)) (by (with_reducible repeat (first | refine blk_drewN ?_ _ | refine blk_drew ?_ | refine blk_alloc ?_ _)); exact BK152.out) hb); have n2_ := Aside0.mk (below_step (by repeat (first | (with_reducible first | exact HB.out | apply below_alloc | apply pw_below_drewN | apply below_drew1 | refine below_set ?_ GE152.out) | exact HB.out)) hb); clear BK152; clear HB; have HO158 := n0_; have BK152 := n1_; have HB := n2_; clear n0_ n1_ n2_; (try clear hb); (try clear hb2); (try clear hk); (try clear hi); (try clear ho0)) | ((with_reducible refine gate_callee (f := 7) rfl ?_); refine goesL_ (some 29) rfl rfl Try.func7 (by kernel_rfl) rfl #[.slice A1 l1.length c1] rfl (by (try simp only [List.map_toArray, List.map_cons, List.map_nil]); first | done | rfl | (simp only [List.length_drop, List.length_take]; rfl)) ?_; (with_reducible refine (laws_toInt64S.calls k _ _ l1 t159 _ ?side1 ?side2 A11.out).mono ?_); (case side1 => repeat (first | exact (Kd.C_below HR1.out HB.out) | (with_reducible refine Kd.C_alloc ?_ _) | (with_reducible refine Kd.C_drewN ?_ _) | (with_reducible refine Kd.C_drew ?_))); (case side2 => exact HC1.out); rintro e w22 ⟨v160, rfl, ho0, hb⟩; refine ⟨_, rfl, ?_⟩; have n0_ := Aside0.mk (Kd.R_elder' (by (with_reducible repeat (first | apply Kd.R_alloc | apply Kd.R_drewN | apply Kd.R_drew)); exact HO158.out) (Kd.R_base ho0) hb); have n1_ := Aside0.mk (Kd.R_lower (Kd.R_new' ho0 (Kd.R_lt (by (with_reducible repeat (first | apply Kd.R_alloc | apply Kd.R_drewN | apply Kd.R_drew)); exact HO158.out))) (below_size (by repeat (first | (with_reducible first | exact HB.out | apply below_alloc | apply pw_below_drewN | apply below_drew1 | refine below_set ?_ GE152.out) | exact HB.out)))); have n2_ := Aside0.mk (blk_below (g := gb152) (o := .cells #[.int .i64 a0_0, .int .i64 a0_1, .slice A0_2 l0_2.length c0_2] 24 (0, 0)) (by (with_reducible repeat (first | refine blk_drewN ?_ _ | refine blk_drew ?_ | refine blk_alloc ?_ _)); exact BK152.out) hb); have n3_ := Aside0.mk (below_step (by repeat (first | (with_reducible first | exact HB.out | apply below_alloc | apply pw_below_drewN | apply below_drew1 | refine below_set ?_ GE152.out) | exact HB.out)) hb); clear HO158; clear BK152; clear HB; have HO158 := n0_; have HO161 := n1_; have BK152 := n2_; have HB := n3_; clear n0_ n1_ n2_ n3_; (try clear hb); (try clear hb2); (try clear hk); (try clear hi); (try clear ho0); obtain ⟨Ao23, co23, eo23⟩ := Kd.R_slice HO158.out; subst eo23; obtain ⟨Ao24, co24, eo24⟩ := Kd.R_slice HO161.out; subst eo24) | ((with_reducible refine gate_callee (f := 5) rfl ?_); refine goesL_ (some 30) rfl rfl Try.func5 (by kernel_rfl) rfl #[.agg #[.int .i64 t154, .int .i64 t155, .slice Ao23 t156.length co23], .slice Ao24 t159.length co24] rfl (by (try simp only [List.map_toArray, List.map_cons, List.map_nil]); first | done | rfl | (simp only [List.length_drop, List.length_take]; rfl)) ?_; (with_reducible refine (spec_MatRows.calls k t154 t155 _ _ t156 _ _ t159 t162 t163 t164 t167 _ ?side1 ?side2 ?side3 ?side4 A12.out).mono ?_); (case side1 => repeat (first | exact (Kd.R_reads' HO158.out).2.2 | (with_reducible refine Kd.C_alloc ?_ _) | (with_reducible refine Kd.C_drewN ?_ _) | (with_reducible refine Kd.C_drew ?_))); (case side2 => exact (Kd.R_reads' HO158.out).2.1); (case side3 => repeat (first | exact (Kd.R_reads' HO161.out).2.2 | (with_reducible refine Kd.C_alloc ?_ _) | (with_reducible refine Kd.C_drewN ?_ _) | (with_reducible refine Kd.C_drew ?_))); (case side4 => exact (Kd.R_reads' HO161.out).2.1); rintro e w25 ⟨v165, rfl, ho0, hb⟩; refine ⟨_, rfl, ?_⟩; have n0_ := Aside0.mk (Kd.R_elder' (by (with_reducible repeat (first | apply Kd.R_alloc | apply Kd.R_drewN | apply Kd.R_drew)); exact HO158.out) (Kd.R_base ho0) hb); have n1_ := Aside0.mk (Kd.R_elder' (by (with_reducible repeat (first | apply Kd.R_alloc | apply Kd.R_drewN | apply Kd.R_drew)); exact HO161.out) (Kd.R_base ho0) hb); have n2_ := Aside0.mk (Kd.R_lower (Kd.R_new' (Kd.R_new' ho0 (Kd.R_lt (by (with_reducible repeat (first | apply Kd.R_alloc | apply Kd.R_drewN | apply Kd.R_drew)); exact HO158.out))) (Kd.R_lt (by (with_reducible repeat (first | apply Kd.R_alloc | apply Kd.R_drewN | apply Kd.R_drew)); exact HO161.out))) (below_size (by repeat (first | (with_reducible first | exact HB.out | apply below_alloc | apply pw_below_drewN | apply below_drew1 | refine below_set ?_ GE152.out) | exact HB.out)))); have n3_ := Aside0.mk (blk_below (g := gb152) (o := .cells #[.int .i64 a0_0, .int .i64 a0_1, .slice A0_2 l0_2.length c0_2] 24 (0, 0)) (by (with_reducible repeat (first | refine blk_drewN ?_ _ | refine blk_drew ?_ | refine blk_alloc ?_ _)); exact BK152.out) hb); have n4_ := Aside0.mk (below_step (by repeat (first | (with_reducible first | exact HB.out | apply below_alloc | apply pw_below_drewN | apply below_drew1 | refine below_set ?_ GE152.out) | exact HB.out)) hb); clear HO158; clear HO161; clear BK152; clear HB; have HO158 := n0_; have HO161 := n1_; have HO166 := n2_; have BK152 := n3_; have HB := n4_; clear n0_ n1_ n2_ n3_ n4_; (try clear hb); (try clear hb2); (try clear hk); (try clear hi); (try clear ho0)) | ((with_reducible refine gate_dst (N := 6) rfl ?_); refine box_event ?hg (N := 6) ?hd (cs := #[.int .i64 0, .int .i64 0, .slice none 0 0]) (t := 26) ?hr ?_; (case hd => rfl); (case hg => rfl); (case hr => first | (go_simp; done) | (go_simp; rfl)); intro gb168 hg w26 hbox hb; have n0_ := Aside0.mk (Kd.R_below (by (with_reducible repeat (first | apply Kd.R_alloc | apply Kd.R_drewN | apply Kd.R_drew)); exact HO158.out) hb); have n1_ := Aside0.mk (Kd.R_below (by (with_reducible repeat (first | apply Kd.R_alloc | apply Kd.R_drewN | apply Kd.R_drew)); exact HO161.out) hb); have n2_ := Aside0.mk (Kd.R_below (by (with_reducible repeat (first | apply Kd.R_alloc | apply Kd.R_drewN | apply Kd.R_drew)); exact HO166.out) hb); have n3_ := Aside0.mk (blk_below (g := gb152) (o := .cells #[.int .i64 a0_0, .int .i64 a0_1, .slice A0_2 l0_2.length c0_2] 24 (0, 0)) (by (with_reducible repeat (first | refine blk_drewN ?_ _ | refine blk_drew ?_ | refine blk_alloc ?_ _)); exact BK152.out) hb); have n4_ := Aside0.mk (below_step (by repeat (first | (with_reducible first | exact HB.out | apply below_alloc | apply pw_below_drewN | apply below_drew1 | refine below_set ?_ GE152.out) | exact HB.out)) hb); have n5_ := Aside0.mk (hbox); have n6_ := Aside0.mk ((by rw [hg]; exact (below_size (by repeat (first | (with_reducible first | exact HB.out | apply below_alloc | apply pw_below_drewN | apply below_drew1 | refine below_set ?_ GE152.out) | exact HB.out))) : w.heap.size ≤ gb168)); have n7_ := Aside0.mk ((by rw [hg]; exact (below_size (by repeat (first | (with_reducible first | exact HB.out | apply below_alloc | apply pw_below_drewN | apply below_drew1 | refine below_set ?_ GE152.out) | exact HB.out))) : w.heap.size ≤ gb168)); have n8_ := Aside0.mk ((by rw [hg]; exact Nat.ne_of_lt (blk_lt (g := gb152) (o := .cells #[.int .i64 a0_0, .int .i64 a0_1, .slice A0_2 l0_2.length c0_2] 24 (0, 0)) (by (with_reducible repeat (first | refine blk_drewN ?_ _ | refine blk_drew ?_ | refine blk_alloc ?_ _)); exact BK152.out)) : gb152 ≠ gb168)); have n9_ := Aside0.mk ((by rw [hg]; exact Nat.ne_of_gt (blk_lt (g := gb152) (o := .cells #[.int .i64 a0_0, .int .i64 a0_1, .slice A0_2 l0_2.length c0_2] 24 (0, 0)) (by (with_reducible repeat (first | refine blk_drewN ?_ _ | refine blk_drew ?_ | refine blk_alloc ?_ _)); exact BK152.out)) : gb168 ≠ gb152)); clear HO158; clear HO161; clear HO166; clear BK152; clear HB; have HO158 := n0_; have HO161 := n1_; have HO166 := n2_; have BK152 := n3_; have HB := n4_; have BK168 := n5_; have GW168 := n6_; have GE168 := n7_; have NB152_168 := n8_; have NB168_152 := n9_; clear n0_ n1_ n2_ n3_ n4_ n5_ n6_ n7_ n8_ n9_; clear hb hbox hg; have hnb27 := NB168_152.out; have hnc27 := NB152_168.out; have hcz28_0 : w26.cell? ⟨gb168, 0, none⟩ = some (.int .i64 0) := (blk_cell BK168.out 0).trans rfl; have hcz28_1 : w26.cell? ⟨gb168, 1, none⟩ = some (.int .i64 0) := (blk_cell BK168.out 1).trans rfl; have hcz28_2 : w26.cell? ⟨gb168, 2, none⟩ = some (.slice none 0 0) := (blk_cell BK168.out 2).trans rfl; have hfz28_0 := blk_frozen BK168.out 0; have hfz28_1 := blk_frozen BK168.out 1; have hfz28_2 := blk_frozen BK168.out 2; obtain ⟨Ao29, co29, eo29⟩ := Kd.R_slice HO166.out; subst eo29; have hcz30_0 : w26.cell? ⟨gb152, 0, none⟩ = some (.int .i64 a0_0) := (blk_cell BK152.out 0).trans rfl; have hcz30_1 : w26.cell? ⟨gb152, 1, none⟩ = some (.int .i64 a0_1) := (blk_cell BK152.out 1).trans rfl; have hcz30_2 : w26.cell? ⟨gb152, 2, none⟩ = some (.slice A0_2 l0_2.length c0_2) := (blk_cell BK152.out 2).trans rfl; have hfz30_0 := blk_frozen BK152.out 0; have hfz30_1 := blk_frozen BK152.out 1; have hfz30_2 := blk_frozen BK152.out 2) | ((with_reducible refine gate_callee (f := 6) rfl ?_); refine goesL_ (some 34) rfl rfl Try.func6 (by kernel_rfl) rfl #[.agg #[.int .i64 a0_0, .int .i64 a0_1, .slice A0_2 l0_2.length c0_2]] rfl (by (try simp only [List.map_toArray, List.map_cons, List.map_nil]); first | done | rfl | (simp only [List.length_drop, List.length_take]; rfl)) ?_; (with_reducible refine (laws_toMatrix.calls k a0_0 a0_1 _ _ l0_2 t169 t170 t171 _ ?side1 ?side2 A13.out).mono ?_); (case side1 => exact Kd.C_below HR0_2.out (by repeat (first | (with_reducible first | exact HB.out | apply below_alloc | apply pw_below_drewN | apply below_drew1 | refine below_set ?_ GE152.out | refine below_set ?_ GE168.out) | exact HB.out))); (case side2 => exact HC0_2.out); rintro e w31 ⟨v172, rfl, ho0, hb⟩; refine ⟨_, rfl, ?_⟩; have n0_ := Aside0.mk (Kd.R_elder' (by (with_reducible repeat (first | apply Kd.R_alloc | apply Kd.R_drewN | apply Kd.R_drew)); exact (Kd.R_mono (Kd.R_far (p := ⟨gb168, 2, none⟩) (Kd.R_far (p := ⟨gb168, 1, none⟩) (Kd.R_far (p := ⟨gb168, 0, none⟩) (Kd.R_types HO158.out BK168.out (by decide)) (fun _ hk => hk.2) (.int .i64 t162)) (fun _ hk => hk.2) (.int .i64 t163)) (fun _ hk => hk.2) (.slice Ao29 t164.length co29)) (fun _ h_ => h_.1))) (Kd.R_base ho0) hb); have n1_ := Aside0.mk (Kd.R_elder' (by (with_reducible repeat (first | apply Kd.R_alloc | apply Kd.R_drewN | apply Kd.R_drew)); exact (Kd.R_mono (Kd.R_far (p := ⟨gb168, 2, none⟩) (Kd.R_far (p := ⟨gb168, 1, none⟩) (Kd.R_far (p := ⟨gb168, 0, none⟩) (Kd.R_types HO161.out BK168.out (by decide)) (fun _ hk => hk.2) (.int .i64 t162)) (fun _ hk => hk.2) (.int .i64 t163)) (fun _ hk => hk.2) (.slice Ao29 t164.length co29)) (fun _ h_ => h_.1))) (Kd.R_base ho0) hb); have n2_ := Aside0.mk (Kd.R_elder' (by (with_reducible repeat (first | apply Kd.R_alloc | apply Kd.R_drewN | apply Kd.R_drew)); exact (Kd.R_mono (Kd.R_far (p := ⟨gb168, 2, none⟩) (Kd.R_far (p := ⟨gb168, 1, none⟩) (Kd.R_far (p := ⟨gb168, 0, none⟩) (Kd.R_types HO166.out BK168.out (by decide)) (fun _ hk => hk.2) (.int .i64 t162)) (fun _ hk => hk.2) (.int .i64 t163)) (fun _ hk => hk.2) (.slice Ao29 t164.length co29)) (fun _ h_ => h_.1))) (Kd.R_base ho0) hb); have n3_ := Aside0.mk (Kd.R_lower (Kd.R_new' (Kd.R_new' (Kd.R_new' ho0 (Kd.R_lt (by (with_reducible repeat (first | apply Kd.R_alloc | apply Kd.R_drewN | apply Kd.R_drew)); exact (Kd.R_mono (Kd.R_far (p := ⟨gb168, 2, none⟩) (Kd.R_far (p := ⟨gb168, 1, none⟩) (Kd.R_far (p := ⟨gb168, 0, none⟩) (Kd.R_types HO158.out BK168.out (by decide)) (fun _ hk => hk.2) (.int .i64 t162)) (fun _ hk => hk.2) (.int .i64 t163)) (fun _ hk => hk.2) (.slice Ao29 t164.length co29)) (fun _ h_ => h_.1))))) (Kd.R_lt (by (with_reducible repeat (first | apply Kd.R_alloc | apply Kd.R_drewN | apply Kd.R_drew)); exact (Kd.R_mono (Kd.R_far (p := ⟨gb168, 2, none⟩) (Kd.R_far (p := ⟨gb168, 1, none⟩) (Kd.R_far (p := ⟨gb168, 0, none⟩) (Kd.R_types HO161.out BK168.out (by decide)) (fun _ hk => hk.2) (.int .i64 t162)) (fun _ hk => hk.2) (.int .i64 t163)) (fun _ hk => hk.2) (.slice Ao29 t164.length co29)) (fun _ h_ => h_.1))))) (Kd.R_lt (by (with_reducible repeat (first | apply Kd.R_alloc | apply Kd.R_drewN | apply Kd.R_drew)); exact (Kd.R_mono (Kd.R_far (p := ⟨gb168, 2, none⟩) (Kd.R_far (p := ⟨gb168, 1, none⟩) (Kd.R_far (p := ⟨gb168, 0, none⟩) (Kd.R_types HO166.out BK168.out (by decide)) (fun _ hk => hk.2) (.int .i64 t162)) (fun _ hk => hk.2) (.int .i64 t163)) (fun _ hk => hk.2) (.slice Ao29 t164.length co29)) (fun _ h_ => h_.1))))) (below_size (by repeat (first | (with_reducible first | exact HB.out | apply below_alloc | apply pw_below_drewN | apply below_drew1 | refine below_set ?_ GE152.out | refine below_set ?_ GE168.out) | exact HB.out)))); have n4_ := Aside0.mk (blk_below (g := gb152) (o := .cells #[.int .i64 a0_0, .int .i64 a0_1, .slice A0_2 l0_2.length c0_2] 24 (0, 0)) (by (with_reducible repeat (first | refine blk_drewN ?_ _ | refine blk_drew ?_ | refine blk_alloc ?_ _)); refine blk_far ?_ NB152_168.out _; (with_reducible repeat (first | refine blk_drewN ?_ _ | refine blk_drew ?_ | refine blk_alloc ?_ _)); refine blk_far ?_ NB152_168.out _; (with_reducible repeat (first | refine blk_drewN ?_ _ | refine blk_drew ?_ | refine blk_alloc ?_ _)); refine blk_far ?_ NB152_168.out _; (with_reducible repeat (first | refine blk_drewN ?_ _ | refine blk_drew ?_ | refine blk_alloc ?_ _)); exact BK152.out) hb); have n5_ := Aside0.mk (blk_below (g := gb168) (o := .cells #[.int .i64 t162, .int .i64 t163, .slice Ao29 t164.length co29] 26 (0, 0)) (by (with_reducible repeat (first | refine blk_drewN ?_ _ | refine blk_drew ?_ | refine blk_alloc ?_ _)); refine blk_put (cs := #[.int .i64 t162, .int .i64 t163, .slice none 0 0]) ?_ 2 _ rfl; (with_reducible repeat (first | refine blk_drewN ?_ _ | refine blk_drew ?_ | refine blk_alloc ?_ _)); refine blk_put (cs := #[.int .i64 t162, .int .i64 0, .slice none 0 0]) ?_ 1 _ rfl; (with_reducible repeat (first | refine blk_drewN ?_ _ | refine blk_drew ?_ | refine blk_alloc ?_ _)); refine blk_put (cs := #[.int .i64 0, .int .i64 0, .slice none 0 0]) ?_ 0 _ rfl; (with_reducible repeat (first | refine blk_drewN ?_ _ | refine blk_drew ?_ | refine blk_alloc ?_ _)); exact BK168.out) hb); have n6_ := Aside0.mk (below_step (by repeat (first | (with_reducible first | exact HB.out | apply below_alloc | apply pw_below_drewN | apply below_drew1 | refine below_set ?_ GE152.out | refine below_set ?_ GE168.out) | exact HB.out)) hb); clear HO158; clear HO161; clear HO166; clear BK152; clear BK168; clear HB; have HO158 := n0_; have HO161 := n1_; have HO166 := n2_; have HO173 := n3_; have BK152 := n4_; have BK168 := n5_; have HB := n6_; clear n0_ n1_ n2_ n3_ n4_ n5_ n6_; (try clear hb); (try clear hb2); (try clear hk); (try clear hi); (try clear ho0)) | ((with_reducible refine gate_dst (N := 8) rfl ?_); refine box_event ?hg (N := 8) ?hd (cs := #[.int .i64 0, .int .i64 0, .slice none 0 0]) (t := 26) ?hr ?_; (case hd => rfl); (case hg => rfl); (case hr => first | (go_simp; done) | (go_simp; rfl)); intro gb174 hg w32 hbox hb; have n0_ := Aside0.mk (Kd.R_below (by (with_reducible repeat (first | apply Kd.R_alloc | apply Kd.R_drewN | apply Kd.R_drew)); exact HO158.out) hb); have n1_ := Aside0.mk (Kd.R_below (by (with_reducible repeat (first | apply Kd.R_alloc | apply Kd.R_drewN | apply Kd.R_drew)); exact HO161.out) hb); have n2_ := Aside0.mk (Kd.R_below (by (with_reducible repeat (first | apply Kd.R_alloc | apply Kd.R_drewN | apply Kd.R_drew)); exact HO166.out) hb); have n3_ := Aside0.mk (Kd.R_below (by (with_reducible repeat (first | apply Kd.R_alloc | apply Kd.R_drewN | apply Kd.R_drew)); exact HO173.out) hb); have n4_ := Aside0.mk (blk_below (g := gb152) (o := .cells #[.int .i64 a0_0, .int .i64 a0_1, .slice A0_2 l0_2.length c0_2] 24 (0, 0)) (by (with_reducible repeat (first | refine blk_drewN ?_ _ | refine blk_drew ?_ | refine blk_alloc ?_ _)); exact BK152.out) hb); have n5_ := Aside0.mk (blk_below (g := gb168) (o := .cells #[.int .i64 t162, .int .i64 t163, .slice Ao29 t164.length co29] 26 (0, 0)) (by (with_reducible repeat (first | refine blk_drewN ?_ _ | refine blk_drew ?_ | refine blk_alloc ?_ _)); exact BK168.out) hb); have n6_ := Aside0.mk (below_step (by repeat (first | (with_reducible first | exact HB.out | apply below_alloc | apply pw_below_drewN | apply below_drew1 | refine below_set ?_ GE152.out | refine below_set ?_ GE168.out) | exact HB.out)) hb); have n7_ := Aside0.mk (hbox); have n8_ := Aside0.mk ((by rw [hg]; exact (below_size (by repeat (first | (with_reducible first | exact HB.out | apply below_alloc | apply pw_below_drewN | apply below_drew1 | refine below_set ?_ GE152.out | refine below_set ?_ GE168.out) | exact HB.out))) : w.heap.size ≤ gb174)); have n9_ := Aside0.mk ((by rw [hg]; exact (below_size (by repeat (first | (with_reducible first | exact HB.out | apply below_alloc | apply pw_below_drewN | apply below_drew1 | refine below_set ?_ GE152.out | refine below_set ?_ GE168.out) | exact HB.out))) : w.heap.size ≤ gb174)); have n10_ := Aside0.mk ((by rw [hg]; exact Nat.ne_of_lt (blk_lt (g := gb152) (o := .cells #[.int .i64 a0_0, .int .i64 a0_1, .slice A0_2 l0_2.length c0_2] 24 (0, 0)) (by (with_reducible repeat (first | refine blk_drewN ?_ _ | refine blk_drew ?_ | refine blk_alloc ?_ _)); exact BK152.out)) : gb152 ≠ gb174)); have n11_ := Aside0.mk ((by rw [hg]; exact Nat.ne_of_gt (blk_lt (g := gb152) (o := .cells #[.int .i64 a0_0, .int .i64 a0_1, .slice A0_2 l0_2.length c0_2] 24 (0, 0)) (by (with_reducible repeat (first | refine blk_drewN ?_ _ | refine blk_drew ?_ | refine blk_alloc ?_ _)); exact BK152.out)) : gb174 ≠ gb152)); have n12_ := Aside0.mk ((by rw [hg]; exact Nat.ne_of_lt (blk_lt (g := gb168) (o := .cells #[.int .i64 t162, .int .i64 t163, .slice Ao29 t164.length co29] 26 (0, 0)) (by (with_reducible repeat (first | refine blk_drewN ?_ _ | refine blk_drew ?_ | refine blk_alloc ?_ _)); exact BK168.out)) : gb168 ≠ gb174)); have n13_ := Aside0.mk ((by rw [hg]; exact Nat.ne_of_gt (blk_lt (g := gb168) (o := .cells #[.int .i64 t162, .int .i64 t163, .slice Ao29 t164.length co29] 26 (0, 0)) (by (with_reducible repeat (first | refine blk_drewN ?_ _ | refine blk_drew ?_ | refine blk_alloc ?_ _)); exact BK168.out)) : gb174 ≠ gb168)); clear HO158; clear HO161; clear HO166; clear HO173; clear BK152; clear BK168; clear HB; have HO158 := n0_; have HO161 := n1_; have HO166 := n2_; have HO173 := n3_; have BK152 := n4_; have BK168 := n5_; have HB := n6_; have BK174 := n7_; have GW174 := n8_; have GE174 := n9_; have NB152_174 := n10_; have NB174_152 := n11_; have NB168_174 := n12_; have NB174_168 := n13_; clear n0_ n1_ n2_ n3_ n4_ n5_ n6_ n7_ n8_ n9_ n10_ n11_ n12_ n13_; clear hb hbox hg; have hnb33 := NB174_152.out; have hnc33 := NB152_174.out; have hnb34 := NB174_168.out; have hnc34 := NB168_174.out; have hcz35_0 : w32.cell? ⟨gb174, 0, none⟩ = some (.int .i64 0) := (blk_cell BK174.out 0).trans rfl; have hcz35_1 : w32.cell? ⟨gb174, 1, none⟩ = some (.int .i64 0) := (blk_cell BK174.out 1).trans rfl; have hcz35_2 : w32.cell? ⟨gb174, 2, none⟩ = some (.slice none 0 0) := (blk_cell BK174.out 2).trans rfl; have hfz35_0 := blk_frozen BK174.out 0; have hfz35_1 := blk_frozen BK174.out 1; have hfz35_2 := blk_frozen BK174.out 2; obtain ⟨Ao36, co36, eo36⟩ := Kd.R_slice HO173.out; subst eo36) | ((with_reducible refine gate_callee (f := 7) rfl ?_); refine goesL_ (some 36) rfl rfl Try.func7 (by kernel_rfl) rfl #[.slice A1 l1.length c1] rfl (by (try simp only [List.map_toArray, List.map_cons, List.map_nil]); first | done | rfl | (simp only [List.length_drop, List.length_take]; rfl)) ?_; (with_reducible refine (laws_toInt64S.calls k _ _ l1 t175 _ ?side1 ?side2 A14.out).mono ?_); (case side1 => exact Kd.C_below HR1.out (by repeat (first | (with_reducible first | exact HB.out | apply below_alloc | apply pw_below_drewN | apply below_drew1 | refine below_set ?_ GE152.out | refine below_set ?_ GE168.out | refine below_set ?_ GE174.out) | exact HB.out))); (case side2 => exact HC1.out); rintro e w37 ⟨v176, rfl, ho0, hb⟩; refine ⟨_, rfl, ?_⟩; have n0_ := Aside0.mk (Kd.R_elder' (by (with_reducible repeat (first | apply Kd.R_alloc | apply Kd.R_drewN | apply Kd.R_drew)); exact (Kd.R_mono (Kd.R_far (p := ⟨gb174, 2, none⟩) (Kd.R_far (p := ⟨gb174, 1, none⟩) (Kd.R_far (p := ⟨gb174, 0, none⟩) (Kd.R_types HO158.out BK174.out (by decide)) (fun _ hk => hk.2) (.int .i64 t169)) (fun _ hk => hk.2) (.int .i64 t170)) (fun _ hk => hk.2) (.slice Ao36 t171.length co36)) (fun _ h_ => h_.1))) (Kd.R_base ho0) hb); have n1_ := Aside0.mk (Kd.R_elder' (by (with_reducible repeat (first | apply Kd.R_alloc | apply Kd.R_drewN | apply Kd.R_drew)); exact (Kd.R_mono (Kd.R_far (p := ⟨gb174, 2, none⟩) (Kd.R_far (p := ⟨gb174, 1, none⟩) (Kd.R_far (p := ⟨gb174, 0, none⟩) (Kd.R_types HO161.out BK174.out (by decide)) (fun _ hk => hk.2) (.int .i64 t169)) (fun _ hk => hk.2) (.int .i64 t170)) (fun _ hk => hk.2) (.slice Ao36 t171.length co36)) (fun _ h_ => h_.1))) (Kd.R_base ho0) hb); have n2_ := Aside0.mk (Kd.R_elder' (by (with_reducible repeat (first | apply Kd.R_alloc | apply Kd.R_drewN | apply Kd.R_drew)); exact (Kd.R_mono (Kd.R_far (p := ⟨gb174, 2, none⟩) (Kd.R_far (p := ⟨gb174, 1, none⟩) (Kd.R_far (p := ⟨gb174, 0, none⟩) (Kd.R_types HO166.out BK174.out (by decide)) (fun _ hk => hk.2) (.int .i64 t169)) (fun _ hk => hk.2) (.int .i64 t170)) (fun _ hk => hk.2) (.slice Ao36 t171.length co36)) (fun _ h_ => h_.1))) (Kd.R_base ho0) hb); have n3_ := Aside0.mk (Kd.R_elder' (by (with_reducible repeat (first | apply Kd.R_alloc | apply Kd.R_drewN | apply Kd.R_drew)); exact (Kd.R_mono (Kd.R_far (p := ⟨gb174, 2, none⟩) (Kd.R_far (p := ⟨gb174, 1, none⟩) (Kd.R_far (p := ⟨gb174, 0, none⟩) (Kd.R_types HO173.out BK174.out (by decide)) (fun _ hk => hk.2) (.int .i64 t169)) (fun _ hk => hk.2) (.int .i64 t170)) (fun _ hk => hk.2) (.slice Ao36 t171.length co36)) (fun _ h_ => h_.1))) (Kd.R_base ho0) hb); have n4_ := Aside0.mk (Kd.R_lower (Kd.R_new' (Kd.R_new' (Kd.R_new' (Kd.R_new' ho0 (Kd.R_lt (by (with_reducible repeat (first | apply Kd.R_alloc | apply Kd.R_drewN | apply Kd.R_drew)); exact (Kd.R_mono (Kd.R_far (p := ⟨gb174, 2, none⟩) (Kd.R_far (p := ⟨gb174, 1, none⟩) (Kd.R_far (p := ⟨gb174, 0, none⟩) (Kd.R_types HO158.out BK174.out (by decide)) (fun _ hk => hk.2) (.int .i64 t169)) (fun _ hk => hk.2) (.int .i64 t170)) (fun _ hk => hk.2) (.slice Ao36 t171.length co36)) (fun _ h_ => h_.1))))) (Kd.R_lt (by (with_reducible repeat (first | apply Kd.R_alloc | apply Kd.R_drewN | apply Kd.R_drew)); exact (Kd.R_mono (Kd.R_far (p := ⟨gb174, 2, none⟩) (Kd.R_far (p := ⟨gb174, 1, none⟩) (Kd.R_far (p := ⟨gb174, 0, none⟩) (Kd.R_types HO161.out BK174.out (by decide)) (fun _ hk => hk.2) (.int .i64 t169)) (fun _ hk => hk.2) (.int .i64 t170)) (fun _ hk => hk.2) (.slice Ao36 t171.length co36)) (fun _ h_ => h_.1))))) (Kd.R_lt (by (with_reducible repeat (first | apply Kd.R_alloc | apply Kd.R_drewN | apply Kd.R_drew)); exact (Kd.R_mono (Kd.R_far (p := ⟨gb174, 2, none⟩) (Kd.R_far (p := ⟨gb174, 1, none⟩) (Kd.R_far (p := ⟨gb174, 0, none⟩) (Kd.R_types HO166.out BK174.out (by decide)) (fun _ hk => hk.2) (.int .i64 t169)) (fun _ hk => hk.2) (.int .i64 t170)) (fun _ hk => hk.2) (.slice Ao36 t171.length co36)) (fun _ h_ => h_.1))))) (Kd.R_lt (by (with_reducible repeat (first | apply Kd.R_alloc | apply Kd.R_drewN | apply Kd.R_drew)); exact (Kd.R_mono (Kd.R_far (p := ⟨gb174, 2, none⟩) (Kd.R_far (p := ⟨gb174, 1, none⟩) (Kd.R_far (p := ⟨gb174, 0, none⟩) (Kd.R_types HO173.out BK174.out (by decide)) (fun _ hk => hk.2) (.int .i64 t169)) (fun _ hk => hk.2) (.int .i64 t170)) (fun _ hk => hk.2) (.slice Ao36 t171.length co36)) (fun _ h_ => h_.1))))) (below_size (by repeat (first | (with_reducible first | exact HB.out | apply below_alloc | apply pw_below_drewN | apply below_drew1 | refine below_set ?_ GE152.out | refine below_set ?_ GE168.out | refine below_set ?_ GE174.out) | exact HB.out)))); have n5_ := Aside0.mk (blk_below (g := gb152) (o := .cells #[.int .i64 a0_0, .int .i64 a0_1, .slice A0_2 l0_2.length c0_2] 24 (0, 0)) (by (with_reducible repeat (first | refine blk_drewN ?_ _ | refine blk_drew ?_ | refine blk_alloc ?_ _)); refine blk_far ?_ NB152_174.out _; (with_reducible repeat (first | refine blk_drewN ?_ _ | refine blk_drew ?_ | refine blk_alloc ?_ _)); refine blk_far ?_ NB152_174.out _; (with_reducible repeat (first | refine blk_drewN ?_ _ | refine blk_drew ?_ | refine blk_alloc ?_ _)); refine blk_far ?_ NB152_174.out _; (with_reducible repeat (first | refine blk_drewN ?_ _ | refine blk_drew ?_ | refine blk_alloc ?_ _)); exact BK152.out) hb); have n6_ := Aside0.mk (blk_below (g := gb168) (o := .cells #[.int .i64 t162, .int .i64 t163, .slice Ao29 t164.length co29] 26 (0, 0)) (by (with_reducible repeat (first | refine blk_drewN ?_ _ | refine blk_drew ?_ | refine blk_alloc ?_ _)); refine blk_far ?_ NB168_174.out _; (with_reducible repeat (first | refine blk_drewN ?_ _ | refine blk_drew ?_ | refine blk_alloc ?_ _)); refine blk_far ?_ NB168_174.out _; (with_reducible repeat (first | refine blk_drewN ?_ _ | refine blk_drew ?_ | refine blk_alloc ?_ _)); refine blk_far ?_ NB168_174.out _; (with_reducible repeat (first | refine blk_drewN ?_ _ | refine blk_drew ?_ | refine blk_alloc ?_ _)); exact BK168.out) hb); have n7_ := Aside0.mk (blk_below (g := gb174) (o := .cells #[.int .i64 t169, .int .i64 t170, .slice Ao36 t171.length co36] 26 (0, 0)) (by (with_reducible repeat (first | refine blk_drewN ?_ _ | refine blk_drew ?_ | refine blk_alloc ?_ _)); refine blk_put (cs := #[.int .i64 t169, .int .i64 t170, .slice none 0 0]) ?_ 2 _ rfl; (with_reducible repeat (first | refine blk_drewN ?_ _ | refine blk_drew ?_ | refine blk_alloc ?_ _)); refine blk_put (cs := #[.int .i64 t169, .int .i64 0, .slice none 0 0]) ?_ 1 _ rfl; (with_reducible repeat (first | refine blk_drewN ?_ _ | refine blk_drew ?_ | refine blk_alloc ?_ _)); refine blk_put (cs := #[.int .i64 0, .int .i64 0, .slice none 0 0]) ?_ 0 _ rfl; (with_reducible repeat (first | refine blk_drewN ?_ _ | refine blk_drew ?_ | refine blk_alloc ?_ _)); exact BK174.out) hb); have n8_ := Aside0.mk (below_step (by repeat (first | (with_reducible first | exact HB.out | apply below_alloc | apply pw_below_drewN | apply below_drew1 | refine below_set ?_ GE152.out | refine below_set ?_ GE168.out | refine below_set ?_ GE174.out) | exact HB.out)) hb); clear HO158; clear HO161; clear HO166; clear HO173; clear BK152; clear BK168; clear BK174; clear HB; have HO158 := n0_; have HO161 := n1_; have HO166 := n2_; have HO173 := n3_; have HO177 := n4_; have BK152 := n5_; have BK168 := n6_; have BK174 := n7_; have HB := n8_; clear n0_ n1_ n2_ n3_ n4_ n5_ n6_ n7_ n8_; (try clear hb); (try clear hb2); (try clear hk); (try clear hi); (try clear ho0); have hcz38_0 : w37.cell? ⟨gb174, 0, none⟩ = some (.int .i64 t169) := (blk_cell BK174.out 0).trans rfl; have hcz38_1 : w37.cell? ⟨gb174, 1, none⟩ = some (.int .i64 t170) := (blk_cell BK174.out 1).trans rfl; have hcz38_2 : w37.cell? ⟨gb174, 2, none⟩ = some (.slice Ao36 t171.length co36) := (blk_cell BK174.out 2).trans rfl; have hfz38_0 := blk_frozen BK174.out 0; have hfz38_1 := blk_frozen BK174.out 1; have hfz38_2 := blk_frozen BK174.out 2; obtain ⟨Ao39, co39, eo39⟩ := Kd.R_slice HO177.out; subst eo39) | ((with_reducible refine gate_callee (f := 8) rfl ?_); refine goesL_ (some 40) rfl rfl Try.func8 (by kernel_rfl) rfl #[.agg #[.int .i64 t169, .int .i64 t170, .slice Ao36 t171.length co36], .slice Ao39 t175.length co39] rfl (by (try simp only [List.map_toArray, List.map_cons, List.map_nil]); first | done | rfl | (simp only [List.length_drop, List.length_take]; rfl)) ?_; (with_reducible refine (impl_MatRows.calls t169 t170 _ _ t171 _ _ t175 t178 t179 t180 t183 _ ?side1 ?side2 ?side3 ?side4 A15.out).mono ?_); (case side1 => repeat (first | exact (Kd.R_reads' HO173.out).2.2 | (with_reducible refine Kd.C_alloc ?_ _) | (with_reducible refine Kd.C_drewN ?_ _) | (with_reducible refine Kd.C_drew ?_))); (case side2 => exact (Kd.R_reads' HO173.out).2.1); (case side3 => repeat (first | exact (Kd.R_reads' HO177.out).2.2 | (with_reducible refine Kd.C_alloc ?_ _) | (with_reducible refine Kd.C_drewN ?_ _) | (with_reducible refine Kd.C_drew ?_))); (case side4 => exact (Kd.R_reads' HO177.out).2.1); rintro e w40 ⟨v181, rfl, ho0, hb⟩; refine ⟨_, rfl, ?_⟩; have n0_ := Aside0.mk (Kd.R_elder' (by (with_reducible repeat (first | apply Kd.R_alloc | apply Kd.R_drewN | apply Kd.R_drew)); exact HO158.out) (Kd.R_base ho0) hb); have n1_ := Aside0.mk (Kd.R_elder' (by (with_reducible repeat (first | apply Kd.R_alloc | apply Kd.R_drewN | apply Kd.R_drew)); exact HO161.out) (Kd.R_base ho0) hb); have n2_ := Aside0.mk (Kd.R_elder' (by (with_reducible repeat (first | apply Kd.R_alloc | apply Kd.R_drewN | apply Kd.R_drew)); exact HO166.out) (Kd.R_base ho0) hb); have n3_ := Aside0.mk (Kd.R_elder' (by (with_reducible repeat (first | apply Kd.R_alloc | apply Kd.R_drewN | apply Kd.R_drew)); exact HO173.out) (Kd.R_base ho0) hb); have n4_ := Aside0.mk (Kd.R_elder' (by (with_reducible repeat (first | apply Kd.R_alloc | apply Kd.R_drewN | apply Kd.R_drew)); exact HO177.out) (Kd.R_base ho0) hb); have n5_ := Aside0.mk (Kd.R_lower (Kd.R_new' (Kd.R_new' (Kd.R_new' (Kd.R_new' (Kd.R_new' ho0 (Kd.R_lt (by (with_reducible repeat (first | apply Kd.R_alloc | apply Kd.R_drewN | apply Kd.R_drew)); exact HO158.out))) (Kd.R_lt (by (with_reducible repeat (first | apply Kd.R_alloc | apply Kd.R_drewN | apply Kd.R_drew)); exact HO161.out))) (Kd.R_lt (by (with_reducible repeat (first | apply Kd.R_alloc | apply Kd.R_drewN | apply Kd.R_drew)); exact HO166.out))) (Kd.R_lt (by (with_reducible repeat (first | apply Kd.R_alloc | apply Kd.R_drewN | apply Kd.R_drew)); exact HO173.out))) (Kd.R_lt (by (with_reducible repeat (first | apply Kd.R_alloc | apply Kd.R_drewN | apply Kd.R_drew)); exact HO177.out))) (below_size (by repeat (first | (with_reducible first | exact HB.out | apply below_alloc | apply pw_below_drewN | apply below_drew1 | refine below_set ?_ GE152.out | refine below_set ?_ GE168.out | refine below_set ?_ GE174.out) | exact HB.out)))); have n6_ := Aside0.mk (blk_below (g := gb152) (o := .cells #[.int .i64 a0_0, .int .i64 a0_1, .slice A0_2 l0_2.length c0_2] 24 (0, 0)) (by (with_reducible repeat (first | refine blk_drewN ?_ _ | refine blk_drew ?_ | refine blk_alloc ?_ _)); exact BK152.out) hb); have n7_ := Aside0.mk (blk_below (g := gb168) (o := .cells #[.int .i64 t162, .int .i64 t163, .slice Ao29 t164.length co29] 26 (0, 0)) (by (with_reducible repeat (first | refine blk_drewN ?_ _ | refine blk_drew ?_ | refine blk_alloc ?_ _)); exact BK168.out) hb); have n8_ := Aside0.mk (blk_below (g := gb174) (o := .cells #[.int .i64 t169, .int .i64 t170, .slice Ao36 t171.length co36] 26 (0, 0)) (by (with_reducible repeat (first | refine blk_drewN ?_ _ | refine blk_drew ?_ | refine blk_alloc ?_ _)); exact BK174.out) hb); have n9_ := Aside0.mk (below_step (by repeat (first | (with_reducible first | exact HB.out | apply below_alloc | apply pw_below_drewN | apply below_drew1 | refine below_set ?_ GE152.out | refine below_set ?_ GE168.out | refine below_set ?_ GE174.out) | exact HB.out)) hb); clear HO158; clear HO161; clear HO166; clear HO173; clear HO177; clear BK152; clear BK168; clear BK174; clear HB; have HO158 := n0_; have HO161 := n1_; have HO166 := n2_; have HO173 := n3_; have HO177 := n4_; have HO182 := n5_; have BK152 := n6_; have BK168 := n7_; have BK174 := n8_; have HB := n9_; clear n0_ n1_ n2_ n3_ n4_ n5_ n6_ n7_ n8_ n9_; (try clear hb); (try clear hb2); (try clear hk); (try clear hi); (try clear ho0)) | ((with_reducible refine gate_dst (N := 10) rfl ?_); refine box_event ?hg (N := 10) ?hd (cs := #[.int .i64 0, .int .i64 0, .slice none 0 0]) (t := 26) ?hr ?_; (case hd => rfl); (case hg => rfl); (case hr => first | (go_simp; done) | (go_simp; rfl)); intro gb184 hg w41 hbox hb; have n0_ := Aside0.mk (Kd.R_below (by (with_reducible repeat (first | apply Kd.R_alloc | apply Kd.R_drewN | apply Kd.R_drew)); exact HO158.out) hb); have n1_ := Aside0.mk (Kd.R_below (by (with_reducible repeat (first | apply Kd.R_alloc | apply Kd.R_drewN | apply Kd.R_drew)); exact HO161.out) hb); have n2_ := Aside0.mk (Kd.R_below (by (with_reducible repeat (first | apply Kd.R_alloc | apply Kd.R_drewN | apply Kd.R_drew)); exact HO166.out) hb); have n3_ := Aside0.mk (Kd.R_below (by (with_reducible repeat (first | apply Kd.R_alloc | apply Kd.R_drewN | apply Kd.R_drew)); exact HO173.out) hb); have n4_ := Aside0.mk (Kd.R_below (by (with_reducible repeat (first | apply Kd.R_alloc | apply Kd.R_drewN | apply Kd.R_drew)); exact HO177.out) hb); have n5_ := Aside0.mk (Kd.R_below (by (with_reducible repeat (first | apply Kd.R_alloc | apply Kd.R_drewN | apply Kd.R_drew)); exact HO182.out) hb); have n6_ := Aside0.mk (blk_below (g := gb152) (o := .cells #[.int .i64 a0_0, .int .i64 a0_1, .slice A0_2 l0_2.length c0_2] 24 (0, 0)) (by (with_reducible repeat (first | refine blk_drewN ?_ _ | refine blk_drew ?_ | refine blk_alloc ?_ _)); exact BK152.out) hb); have n7_ := Aside0.mk (blk_below (g := gb168) (o := .cells #[.int .i64 t162, .int .i64 t163, .slice Ao29 t164.length co29] 26 (0, 0)) (by (with_reducible repeat (first | refine blk_drewN ?_ _ | refine blk_drew ?_ | refine blk_alloc ?_ _)); exact BK168.out) hb); have n8_ := Aside0.mk (blk_below (g := gb174) (o := .cells #[.int .i64 t169, .int .i64 t170, .slice Ao36 t171.length co36] 26 (0, 0)) (by (with_reducible repeat (first | refine blk_drewN ?_ _ | refine blk_drew ?_ | refine blk_alloc ?_ _)); exact BK174.out) hb); have n9_ := Aside0.mk (below_step (by repeat (first | (with_reducible first | exact HB.out | apply below_alloc | apply pw_below_drewN | apply below_drew1 | refine below_set ?_ GE152.out | refine below_set ?_ GE168.out | refine below_set ?_ GE174.out) | exact HB.out)) hb); have n10_ := Aside0.mk (hbox); have n11_ := Aside0.mk ((by rw [hg]; exact (below_size (by repeat (first | (with_reducible first | exact HB.out | apply below_alloc | apply pw_below_drewN | apply below_drew1 | refine below_set ?_ GE152.out | refine below_set ?_ GE168.out | refine below_set ?_ GE174.out) | exact HB.out))) : w.heap.size ≤ gb184)); have n12_ := Aside0.mk ((by rw [hg]; exact (below_size (by repeat (first | (with_reducible first | exact HB.out | apply below_alloc | apply pw_below_drewN | apply below_drew1 | refine below_set ?_ GE152.out | refine below_set ?_ GE168.out | refine below_set ?_ GE174.out) | exact HB.out))) : w.heap.size ≤ gb184)); have n13_ := Aside0.mk ((by rw [hg]; exact Nat.ne_of_lt (blk_lt (g := gb152) (o := .cells #[.int .i64 a0_0, .int .i64 a0_1, .slice A0_2 l0_2.length c0_2] 24 (0, 0)) (by (with_reducible repeat (first | refine blk_drewN ?_ _ | refine blk_drew ?_ | refine blk_alloc ?_ _)); exact BK152.out)) : gb152 ≠ gb184)); have n14_ := Aside0.mk ((by rw [hg]; exact Nat.ne_of_gt (blk_lt (g := gb152) (o := .cells #[.int .i64 a0_0, .int .i64 a0_1, .slice A0_2 l0_2.length c0_2] 24 (0, 0)) (by (with_reducible repeat (first | refine blk_drewN ?_ _ | refine blk_drew ?_ | refine blk_alloc ?_ _)); exact BK152.out)) : gb184 ≠ gb152)); have n15_ := Aside0.mk ((by rw [hg]; exact Nat.ne_of_lt (blk_lt (g := gb168) (o := .cells #[.int .i64 t162, .int .i64 t163, .slice Ao29 t164.length co29] 26 (0, 0)) (by (with_reducible repeat (first | refine blk_drewN ?_ _ | refine blk_drew ?_ | refine blk_alloc ?_ _)); exact BK168.out)) : gb168 ≠ gb184)); have n16_ := Aside0.mk ((by rw [hg]; exact Nat.ne_of_gt (blk_lt (g := gb168) (o := .cells #[.int .i64 t162, .int .i64 t163, .slice Ao29 t164.length co29] 26 (0, 0)) (by (with_reducible repeat (first | refine blk_drewN ?_ _ | refine blk_drew ?_ | refine blk_alloc ?_ _)); exact BK168.out)) : gb184 ≠ gb168)); have n17_ := Aside0.mk ((by rw [hg]; exact Nat.ne_of_lt (blk_lt (g := gb174) (o := .cells #[.int .i64 t169, .int .i64 t170, .slice Ao36 t171.length co36] 26 (0, 0)) (by (with_reducible repeat (first | refine blk_drewN ?_ _ | refine blk_drew ?_ | refine blk_alloc ?_ _)); exact BK174.out)) : gb174 ≠ gb184)); have n18_ := Aside0.mk ((by rw [hg]; exact Nat.ne_of_gt (blk_lt (g := gb174) (o := .cells #[.int .i64 t169, .int .i64 t170, .slice Ao36 t171.length co36] 26 (0, 0)) (by (with_reducible repeat (first | refine blk_drewN ?_ _ | refine blk_drew ?_ | refine blk_alloc ?_ _)); exact BK174.out)) : gb184 ≠ gb174)); clear HO158; clear HO161; clear HO166; clear HO173; clear HO177; clear HO182; clear BK152; clear BK168; clear BK174; clear HB; have HO158 := n0_; have HO161 := n1_; have HO166 := n2_; have HO173 := n3_; have HO177 := n4_; have HO182 := n5_; have BK152 := n6_; have BK168 := n7_; have BK174 := n8_; have HB := n9_; have BK184 := n10_; have GW184 := n11_; have GE184 := n12_; have NB152_184 := n13_; have NB184_152 := n14_; have NB168_184 := n15_; have NB184_168 := n16_; have NB174_184 := n17_; have NB184_174 := n18_; clear n0_ n1_ n2_ n3_ n4_ n5_ n6_ n7_ n8_ n9_ n10_ n11_ n12_ n13_ n14_ n15_ n16_ n17_ n18_; clear hb hbox hg; have hnb42 := NB184_152.out; have hnc42 := NB152_184.out; have hnb43 := NB184_168.out; have hnc43 := NB168_184.out; have hnb44 := NB184_174.out; have hnc44 := NB174_184.out; have hcz45_0 : w41.cell? ⟨gb184, 0, none⟩ = some (.int .i64 0) := (blk_cell BK184.out 0).trans rfl; have hcz45_1 : w41.cell? ⟨gb184, 1, none⟩ = some (.int .i64 0) := (blk_cell BK184.out 1).trans rfl; have hcz45_2 : w41.cell? ⟨gb184, 2, none⟩ = some (.slice none 0 0) := (blk_cell BK184.out 2).trans rfl; have hfz45_0 := blk_frozen BK184.out 0; have hfz45_1 := blk_frozen BK184.out 1; have hfz45_2 := blk_frozen BK184.out 2; obtain ⟨Ao46, co46, eo46⟩ := Kd.R_slice HO182.out; subst eo46))
   (try simp only [Act.put, List.setIfInBounds_toArray, List.set_cons_zero, List.set_cons_succ])
   go_cut [51] (fun v51 wc => ∃ (kq : Nat) (x51_15 : Bool), v51 = .bool x51_15 ∧ Aside0 (laws_FnExactMatRows.j0 kq l1 t167 t175 t183 x51_15 a0_0 a0_1 l0_2 t162 t163 t164 t169 t170 t171 t178 t179 t180 = some r) ∧ Aside0 (kq ≤ k) ∧ Aside0 (Kd.R (Kd.int .i64) 2 wc w.heap.size (fun k_ => some k_ ≠ ((.slice Ao29 t164.length co29) : Value).ownBlock ∧ some k_ ≠ ((.slice Ao36 t171.length co36) : Value).ownBlock ∧ some k_ ≠ ((.slice Ao46 t180.length co46) : Value).ownBlock) (.slice Ao39 t175.length co39) t175) ∧ Aside0 (Kd.R (Kd.int .i64) 2 wc w.heap.size (fun k_ => some k_ ≠ ((.slice Ao39 t175.length co39) : Value).ownBlock ∧ some k_ ≠ ((.slice Ao36 t171.length co36) : Value).ownBlock ∧ some k_ ≠ ((.slice Ao46 t180.length co46) : Value).ownBlock) (.slice Ao29 t164.length co29) t164) ∧ Aside0 (Kd.R (Kd.int .i64) 2 wc w.heap.size (fun k_ => some k_ ≠ ((.slice Ao39 t175.length co39) : Value).ownBlock ∧ some k_ ≠ ((.slice Ao29 t164.length co29) : Value).ownBlock ∧ some k_ ≠ ((.slice Ao46 t180.length co46) : Value).ownBlock) (.slice Ao36 t171.length co36) t171) ∧ Aside0 (Kd.R (Kd.int .i64) 2 wc w.heap.size (fun k_ => some k_ ≠ ((.slice Ao39 t175.length co39) : Value).ownBlock ∧ some k_ ≠ ((.slice Ao29 t164.length co29) : Value).ownBlock ∧ some k_ ≠ ((.slice Ao36 t171.length co36) : Value).ownBlock) (.slice Ao46 t180.length co46) t180) ∧ Aside0 (wc.heap[gb152]? = some (.cells #[.int .i64 a0_0, .int .i64 a0_1, (.slice A0_2 l0_2.length c0_2)] 24 (0, 0))) ∧ Aside0 (wc.heap[gb168]? = some (.cells #[.int .i64 t162, .int .i64 t163, (.slice Ao29 t164.length co29)] 26 (0, 0))) ∧ Aside0 (wc.heap[gb174]? = some (.cells #[.int .i64 t169, .int .i64 t170, (.slice Ao36 t171.length co36)] 26 (0, 0))) ∧ Aside0 (wc.heap[gb184]? = some (.cells #[.int .i64 t178, .int .i64 t179, (.slice Ao46 t180.length co46)] 26 (0, 0))) ∧ Aside0 (Below w.heap.size w wc))
   case first =>
    have H := HC16.out
    clear HC16
    replace H := Option.bind_eq_some_iff.mp H
    obtain ⟨t185, A470, H⟩ := H
    replace H : (if t185 = true then (laws_FnExactMatRows.j0 k l1 t167 t175 t183 (t183 != t167) a0_0 a0_1 l0_2 t162 t163 t164 t169 t170 t171 t178 t179 t180) else (laws_FnExactMatRows.j0 k l1 t167 t175 t183 true a0_0 a0_1 l0_2 t162 t163 t164 t169 t170 t171 t178 t179 t180)) = some r := H
    have A47 := Aside0.mk A470
    clear A470
    by_cases c48 : t185 = true
    ·subst c48
     have H1 : (laws_FnExactMatRows.j0 k l1 t167 t175 t183 (t183 != t167) a0_0 a0_1 l0_2 t162 t163 t164 t169 t170 t171 t178 t179 t180) = some r := by rw [if_pos rfl] at H; exact H
     clear H
     have H := H1
     clear H1
     have H' := Aside0.mk H
     clear H
     have hnb49 := NB184_152.out
     have hnc49 := NB152_184.out
     have hnb50 := NB184_168.out
     have hnc50 := NB168_184.out
     have hnb51 := NB184_174.out
     have hnc51 := NB174_184.out
     have hcz52_0 : w41.cell? ⟨gb184, 0, none⟩ = some (.int .i64 0) := (blk_cell BK184.out 0).trans rfl
     have hcz52_1 : w41.cell? ⟨gb184, 1, none⟩ = some (.int .i64 0) := (blk_cell BK184.out 1).trans rfl
     have hcz52_2 : w41.cell? ⟨gb184, 2, none⟩ = some (.slice none 0 0) := (blk_cell BK184.out 2).trans rfl
     have hfz52_0 := blk_frozen BK184.out 0
     have hfz52_1 := blk_frozen BK184.out 1
     have hfz52_2 := blk_frozen BK184.out 2
     have hnb53 := NB168_152.out
     have hnc53 := NB152_168.out
     have hnb54 := NB168_174.out
     have hnc54 := NB174_168.out
     have hcz55_0 : w41.cell? ⟨gb168, 0, none⟩ = some (.int .i64 t162) := (blk_cell BK168.out 0).trans rfl
     have hcz55_1 : w41.cell? ⟨gb168, 1, none⟩ = some (.int .i64 t163) := (blk_cell BK168.out 1).trans rfl
     have hcz55_2 : w41.cell? ⟨gb168, 2, none⟩ = some (.slice Ao29 t164.length co29) := (blk_cell BK168.out 2).trans rfl
     have hfz55_0 := blk_frozen BK168.out 0
     have hfz55_1 := blk_frozen BK168.out 1
     have hfz55_2 := blk_frozen BK168.out 2
     go_wp2_with (first | ((with_reducible refine gate_callee (f := 9) rfl ?_); refine goesL_ (some 45) rfl rfl Try.func9 (by kernel_rfl) rfl #[.agg #[.int .i64 t178, .int .i64 t179, .slice Ao46 t180.length co46], .agg #[.int .i64 t162, .int .i64 t163, .slice Ao29 t164.length co29]] rfl (by (try simp only [List.map_toArray, List.map_cons, List.map_nil]); first | done | rfl | (simp only [List.length_drop, List.length_take]; rfl)) ?_; (with_reducible refine (laws_eqMatrix.calls k t178 t179 _ _ t180 t162 t163 _ _ t164 true _ ?side1 ?side2 ?side3 ?side4 A47.out).mono ?_); (case side1 => refine (Kd.R_reads' (e := 2) (base := w.heap.size) (ok := fun k_ => (((((True ∧ some k_ ≠ (.slice Ao23 t156.length co23 : Value).ownBlock) ∧ some k_ ≠ (.slice Ao24 t159.length co24 : Value).ownBlock) ∧ some k_ ≠ (.slice Ao29 t164.length co29 : Value).ownBlock) ∧ some k_ ≠ (.slice Ao36 t171.length co36 : Value).ownBlock) ∧ some k_ ≠ (.slice Ao39 t175.length co39 : Value).ownBlock)) (n := t180.length) (c := co46) ?_).2.2; exact (by (with_reducible repeat (first | apply Kd.R_alloc | apply Kd.R_drewN | apply Kd.R_drew)); exact (Kd.R_mono (Kd.R_far (p := ⟨gb184, 2, none⟩) (Kd.R_far (p := ⟨gb184, 1, none⟩) (Kd.R_far (p := ⟨gb184, 0, none⟩) (Kd.R_types HO182.out BK184.out (by decide)) (fun _ hk => hk.2) (.int .i64 t178)) (fun _ hk => hk.2) (.int .i64 t179)) (fun _ hk => hk.2) (.slice Ao46 t180.length co46)) (fun _ h_ => h_.1)))); (case side2 => exact (Kd.R_reads' HO182.out).2.1); (case side3 => refine (Kd.R_reads' (e := 2) (base := w.heap.size) (ok := fun k_ => (((((True ∧ some k_ ≠ (.slice Ao23 t156.length co23 : Value).ownBlock) ∧ some k_ ≠ (.slice Ao24 t159.length co24 : Value).ownBlock) ∧ some k_ ≠ (.slice Ao36 t171.length co36 : Value).ownBlock) ∧ some k_ ≠ (.slice Ao39 t175.length co39 : Value).ownBlock) ∧ some k_ ≠ (.slice Ao46 t180.length co46 : Value).ownBlock)) (n := t164.length) (c := co29) ?_).2.2; exact (by (with_reducible repeat (first | apply Kd.R_alloc | apply Kd.R_drewN | apply Kd.R_drew)); exact (Kd.R_mono (Kd.R_far (p := ⟨gb184, 2, none⟩) (Kd.R_far (p := ⟨gb184, 1, none⟩) (Kd.R_far (p := ⟨gb184, 0, none⟩) (Kd.R_types HO166.out BK184.out (by decide)) (fun _ hk => hk.2) (.int .i64 t178)) (fun _ hk => hk.2) (.int .i64 t179)) (fun _ hk => hk.2) (.slice Ao46 t180.length co46)) (fun _ h_ => h_.1)))); (case side4 => exact (Kd.R_reads' HO166.out).2.1); rintro e w56 ⟨rfl, hb⟩; refine ⟨_, rfl, ?_⟩; have n0_ := Aside0.mk (Kd.R_below (by (with_reducible repeat (first | apply Kd.R_alloc | apply Kd.R_drewN | apply Kd.R_drew)); exact (Kd.R_mono (Kd.R_far (p := ⟨gb184, 2, none⟩) (Kd.R_far (p := ⟨gb184, 1, none⟩) (Kd.R_far (p := ⟨gb184, 0, none⟩) (Kd.R_types HO158.out BK184.out (by decide)) (fun _ hk => hk.2) (.int .i64 t178)) (fun _ hk => hk.2) (.int .i64 t179)) (fun _ hk => hk.2) (.slice Ao46 t180.length co46)) (fun _ h_ => h_.1))) hb); have n1_ := Aside0.mk (Kd.R_below (by (with_reducible repeat (first | apply Kd.R_alloc | apply Kd.R_drewN | apply Kd.R_drew)); exact (Kd.R_mono (Kd.R_far (p := ⟨gb184, 2, none⟩) (Kd.R_far (p := ⟨gb184, 1, none⟩) (Kd.R_far (p := ⟨gb184, 0, none⟩) (Kd.R_types HO161.out BK184.out (by decide)) (fun _ hk => hk.2) (.int .i64 t178)) (fun _ hk => hk.2) (.int .i64 t179)) (fun _ hk => hk.2) (.slice Ao46 t180.length co46)) (fun _ h_ => h_.1))) hb); have n2_ := Aside0.mk (Kd.R_below (by (with_reducible repeat (first | apply Kd.R_alloc | apply Kd.R_drewN | apply Kd.R_drew)); exact (Kd.R_mono (Kd.R_far (p := ⟨gb184, 2, none⟩) (Kd.R_far (p := ⟨gb184, 1, none⟩) (Kd.R_far (p := ⟨gb184, 0, none⟩) (Kd.R_types HO166.out BK184.out (by decide)) (fun _ hk => hk.2) (.int .i64 t178)) (fun _ hk => hk.2) (.int .i64 t179)) (fun _ hk => hk.2) (.slice Ao46 t180.length co46)) (fun _ h_ => h_.1))) hb); have n3_ := Aside0.mk (Kd.R_below (by (with_reducible repeat (first | apply Kd.R_alloc | apply Kd.R_drewN | apply Kd.R_drew)); exact (Kd.R_mono (Kd.R_far (p := ⟨gb184, 2, none⟩) (Kd.R_far (p := ⟨gb184, 1, none⟩) (Kd.R_far (p := ⟨gb184, 0, none⟩) (Kd.R_types HO173.out BK184.out (by decide)) (fun _ hk => hk.2) (.int .i64 t178)) (fun _ hk => hk.2) (.int .i64 t179)) (fun _ hk => hk.2) (.slice Ao46 t180.length co46)) (fun _ h_ => h_.1))) hb); have n4_ := Aside0.mk (Kd.R_below (by (with_reducible repeat (first | apply Kd.R_alloc | apply Kd.R_drewN | apply Kd.R_drew)); exact (Kd.R_mono (Kd.R_far (p := ⟨gb184, 2, none⟩) (Kd.R_far (p := ⟨gb184, 1, none⟩) (Kd.R_far (p := ⟨gb184, 0, none⟩) (Kd.R_types HO177.out BK184.out (by decide)) (fun _ hk => hk.2) (.int .i64 t178)) (fun _ hk => hk.2) (.int .i64 t179)) (fun _ hk => hk.2) (.slice Ao46 t180.length co46)) (fun _ h_ => h_.1))) hb); have n5_ := Aside0.mk (Kd.R_below (by (with_reducible repeat (first | apply Kd.R_alloc | apply Kd.R_drewN | apply Kd.R_drew)); exact (Kd.R_mono (Kd.R_far (p := ⟨gb184, 2, none⟩) (Kd.R_far (p := ⟨gb184, 1, none⟩) (Kd.R_far (p := ⟨gb184, 0, none⟩) (Kd.R_types HO182.out BK184.out (by decide)) (fun _ hk => hk.2) (.int .i64 t178)) (fun _ hk => hk.2) (.int .i64 t179)) (fun _ hk => hk.2) (.slice Ao46 t180.length co46)) (fun _ h_ => h_.1))) hb); have n6_ := Aside0.mk (blk_below (g := gb152) (o := .cells #[.int .i64 a0_0, .int .i64 a0_1, .slice A0_2 l0_2.length c0_2] 24 (0, 0)) (by (with_reducible repeat (first | refine blk_drewN ?_ _ | refine blk_drew ?_ | refine blk_alloc ?_ _)); refine blk_far ?_ NB152_184.out _; (with_reducible repeat (first | refine blk_drewN ?_ _ | refine blk_drew ?_ | refine blk_alloc ?_ _)); refine blk_far ?_ NB152_184.out _; (with_reducible repeat (first | refine blk_drewN ?_ _ | refine blk_drew ?_ | refine blk_alloc ?_ _)); refine blk_far ?_ NB152_184.out _; (with_reducible repeat (first | refine blk_drewN ?_ _ | refine blk_drew ?_ | refine blk_alloc ?_ _)); exact BK152.out) hb); have n7_ := Aside0.mk (blk_below (g := gb168) (o := .cells #[.int .i64 t162, .int .i64 t163, .slice Ao29 t164.length co29] 26 (0, 0)) (by (with_reducible repeat (first | refine blk_drewN ?_ _ | refine blk_drew ?_ | refine blk_alloc ?_ _)); refine blk_far ?_ NB168_184.out _; (with_reducible repeat (first | refine blk_drewN ?_ _ | refine blk_drew ?_ | refine blk_alloc ?_ _)); refine blk_far ?_ NB168_184.out _; (with_reducible repeat (first | refine blk_drewN ?_ _ | refine blk_drew ?_ | refine blk_alloc ?_ _)); refine blk_far ?_ NB168_184.out _; (with_reducible repeat (first | refine blk_drewN ?_ _ | refine blk_drew ?_ | refine blk_alloc ?_ _)); exact BK168.out) hb); have n8_ := Aside0.mk (blk_below (g := gb174) (o := .cells #[.int .i64 t169, .int .i64 t170, .slice Ao36 t171.length co36] 26 (0, 0)) (by (with_reducible repeat (first | refine blk_drewN ?_ _ | refine blk_drew ?_ | refine blk_alloc ?_ _)); refine blk_far ?_ NB174_184.out _; (with_reducible repeat (first | refine blk_drewN ?_ _ | refine blk_drew ?_ | refine blk_alloc ?_ _)); refine blk_far ?_ NB174_184.out _; (with_reducible repeat (first | refine blk_drewN ?_ _ | refine blk_drew ?_ | refine blk_alloc ?_ _)); refine blk_far ?_ NB174_184.out _; (with_reducible repeat (first | refine blk_drewN ?_ _ | refine blk_drew ?_ | refine blk_alloc ?_ _)); exact BK174.out) hb); have n9_ := Aside0.mk (blk_below (g := gb184) (o := .cells #[.int .i64 t178, .int .i64 t179, .slice Ao46 t180.length co46] 26 (0, 0)) (by (with_reducible repeat (first | refine blk_drewN ?_ _ | refine blk_drew ?_ | refine blk_alloc ?_ _)); refine blk_put (cs := #[.int .i64 t178, .int .i64 t179, .slice none 0 0]) ?_ 2 _ rfl; (with_reducible repeat (first | refine blk_drewN ?_ _ | refine blk_drew ?_ | refine blk_alloc ?_ _)); refine blk_put (cs := #[.int .i64 t178, .int .i64 0, .slice none 0 0]) ?_ 1 _ rfl; (with_reducible repeat (first | refine blk_drewN ?_ _ | refine blk_drew ?_ | refine blk_alloc ?_ _)); refine blk_put (cs := #[.int .i64 0, .int .i64 0, .slice none 0 0]) ?_ 0 _ rfl; (with_reducible repeat (first | refine blk_drewN ?_ _ | refine blk_drew ?_ | refine blk_alloc ?_ _)); exact BK184.out) hb); have n10_ := Aside0.mk (below_step (by repeat (first | (with_reducible first | exact HB.out | apply below_alloc | apply pw_below_drewN | apply below_drew1 | refine below_set ?_ GE152.out | refine below_set ?_ GE168.out | refine below_set ?_ GE174.out | refine below_set ?_ GE184.out) | exact HB.out)) hb); clear HO158; clear HO161; clear HO166; clear HO173; clear HO177; clear HO182; clear BK152; clear BK168; clear BK174; clear BK184; clear HB; have HO158 := n0_; have HO161 := n1_; have HO166 := n2_; have HO173 := n3_; have HO177 := n4_; have HO182 := n5_; have BK152 := n6_; have BK168 := n7_; have BK174 := n8_; have BK184 := n9_; have HB := n10_; clear n0_ n1_ n2_ n3_ n4_ n5_ n6_ n7_ n8_ n9_ n10_; (try clear hb); (try clear hb2); (try clear hk); (try clear hi)))
     go_meet
     case rel => exact ⟨_, ((t183 != t167)), (by first | rfl | (simp; done) | (simp [*]; done)), H', ⟨by first | omega | exact Nat.le_refl _⟩, ⟨by (with_reducible repeat (first | apply Kd.R_alloc | apply Kd.R_drewN | apply Kd.R_drew)); exact Kd.R_mono HO177.out (fun _ hk => ⟨hk.1.1.2, ⟨hk.1.2, hk.2⟩⟩)⟩, ⟨by (with_reducible repeat (first | apply Kd.R_alloc | apply Kd.R_drewN | apply Kd.R_drew)); exact Kd.R_mono HO166.out (fun _ hk => ⟨hk.1.2, ⟨hk.1.1.2, hk.2⟩⟩)⟩, ⟨by (with_reducible repeat (first | apply Kd.R_alloc | apply Kd.R_drewN | apply Kd.R_drew)); exact Kd.R_mono HO173.out (fun _ hk => ⟨hk.1.2, ⟨hk.1.1.2, hk.2⟩⟩)⟩, ⟨by (with_reducible repeat (first | apply Kd.R_alloc | apply Kd.R_drewN | apply Kd.R_drew)); exact Kd.R_mono HO182.out (fun _ hk => ⟨hk.2, ⟨hk.1.1.2, hk.1.2⟩⟩)⟩, ⟨by (with_reducible repeat (first | refine blk_drewN ?_ _ | refine blk_drew ?_ | refine blk_alloc ?_ _)); exact BK152.out⟩, ⟨by (with_reducible repeat (first | refine blk_drewN ?_ _ | refine blk_drew ?_ | refine blk_alloc ?_ _)); exact BK168.out⟩, ⟨by (with_reducible repeat (first | refine blk_drewN ?_ _ | refine blk_drew ?_ | refine blk_alloc ?_ _)); exact BK174.out⟩, ⟨by (with_reducible repeat (first | refine blk_drewN ?_ _ | refine blk_drew ?_ | refine blk_alloc ?_ _)); exact BK184.out⟩, ⟨by repeat (first | (with_reducible first | exact HB.out | apply below_alloc | apply pw_below_drewN | apply below_drew1 | refine below_set ?_ GE152.out | refine below_set ?_ GE168.out | refine below_set ?_ GE174.out | refine below_set ?_ GE184.out) | exact HB.out)⟩⟩
    ·replace c48 := Bool.eq_false_iff.mpr c48
     subst c48
     have H1 : (laws_FnExactMatRows.j0 k l1 t167 t175 t183 true a0_0 a0_1 l0_2 t162 t163 t164 t169 t170 t171 t178 t179 t180) = some r := by rw [if_neg (show ¬ (false = true) by decide)] at H; exact H
     clear H
     have H := H1
     clear H1
     have H' := Aside0.mk H
     clear H
     have hnb57 := NB184_152.out
     have hnc57 := NB152_184.out
     have hnb58 := NB184_168.out
     have hnc58 := NB168_184.out
     have hnb59 := NB184_174.out
     have hnc59 := NB174_184.out
     have hcz60_0 : w41.cell? ⟨gb184, 0, none⟩ = some (.int .i64 0) := (blk_cell BK184.out 0).trans rfl
     have hcz60_1 : w41.cell? ⟨gb184, 1, none⟩ = some (.int .i64 0) := (blk_cell BK184.out 1).trans rfl
     have hcz60_2 : w41.cell? ⟨gb184, 2, none⟩ = some (.slice none 0 0) := (blk_cell BK184.out 2).trans rfl
     have hfz60_0 := blk_frozen BK184.out 0
     have hfz60_1 := blk_frozen BK184.out 1
     have hfz60_2 := blk_frozen BK184.out 2
     have hnb61 := NB168_152.out
     have hnc61 := NB152_168.out
     have hnb62 := NB168_174.out
     have hnc62 := NB174_168.out
     have hcz63_0 : w41.cell? ⟨gb168, 0, none⟩ = some (.int .i64 t162) := (blk_cell BK168.out 0).trans rfl
     have hcz63_1 : w41.cell? ⟨gb168, 1, none⟩ = some (.int .i64 t163) := (blk_cell BK168.out 1).trans rfl
     have hcz63_2 : w41.cell? ⟨gb168, 2, none⟩ = some (.slice Ao29 t164.length co29) := (blk_cell BK168.out 2).trans rfl
     have hfz63_0 := blk_frozen BK168.out 0
     have hfz63_1 := blk_frozen BK168.out 1
     have hfz63_2 := blk_frozen BK168.out 2
     go_wp2_with (first | ((with_reducible refine gate_callee (f := 9) rfl ?_); refine goesL_ (some 45) rfl rfl Try.func9 (by kernel_rfl) rfl #[.agg #[.int .i64 t178, .int .i64 t179, .slice Ao46 t180.length co46], .agg #[.int .i64 t162, .int .i64 t163, .slice Ao29 t164.length co29]] rfl (by (try simp only [List.map_toArray, List.map_cons, List.map_nil]); first | done | rfl | (simp only [List.length_drop, List.length_take]; rfl)) ?_; (with_reducible refine (laws_eqMatrix.calls k t178 t179 _ _ t180 t162 t163 _ _ t164 false _ ?side1 ?side2 ?side3 ?side4 A47.out).mono ?_); (case side1 => refine (Kd.R_reads' (e := 2) (base := w.heap.size) (ok := fun k_ => (((((True ∧ some k_ ≠ (.slice Ao23 t156.length co23 : Value).ownBlock) ∧ some k_ ≠ (.slice Ao24 t159.length co24 : Value).ownBlock) ∧ some k_ ≠ (.slice Ao29 t164.length co29 : Value).ownBlock) ∧ some k_ ≠ (.slice Ao36 t171.length co36 : Value).ownBlock) ∧ some k_ ≠ (.slice Ao39 t175.length co39 : Value).ownBlock)) (n := t180.length) (c := co46) ?_).2.2; exact (by (with_reducible repeat (first | apply Kd.R_alloc | apply Kd.R_drewN | apply Kd.R_drew)); exact (Kd.R_mono (Kd.R_far (p := ⟨gb184, 2, none⟩) (Kd.R_far (p := ⟨gb184, 1, none⟩) (Kd.R_far (p := ⟨gb184, 0, none⟩) (Kd.R_types HO182.out BK184.out (by decide)) (fun _ hk => hk.2) (.int .i64 t178)) (fun _ hk => hk.2) (.int .i64 t179)) (fun _ hk => hk.2) (.slice Ao46 t180.length co46)) (fun _ h_ => h_.1)))); (case side2 => exact (Kd.R_reads' HO182.out).2.1); (case side3 => refine (Kd.R_reads' (e := 2) (base := w.heap.size) (ok := fun k_ => (((((True ∧ some k_ ≠ (.slice Ao23 t156.length co23 : Value).ownBlock) ∧ some k_ ≠ (.slice Ao24 t159.length co24 : Value).ownBlock) ∧ some k_ ≠ (.slice Ao36 t171.length co36 : Value).ownBlock) ∧ some k_ ≠ (.slice Ao39 t175.length co39 : Value).ownBlock) ∧ some k_ ≠ (.slice Ao46 t180.length co46 : Value).ownBlock)) (n := t164.length) (c := co29) ?_).2.2; exact (by (with_reducible repeat (first | apply Kd.R_alloc | apply Kd.R_drewN | apply Kd.R_drew)); exact (Kd.R_mono (Kd.R_far (p := ⟨gb184, 2, none⟩) (Kd.R_far (p := ⟨gb184, 1, none⟩) (Kd.R_far (p := ⟨gb184, 0, none⟩) (Kd.R_types HO166.out BK184.out (by decide)) (fun _ hk => hk.2) (.int .i64 t178)) (fun _ hk => hk.2) (.int .i64 t179)) (fun _ hk => hk.2) (.slice Ao46 t180.length co46)) (fun _ h_ => h_.1)))); (case side4 => exact (Kd.R_reads' HO166.out).2.1); rintro e w64 ⟨rfl, hb⟩; refine ⟨_, rfl, ?_⟩; have n0_ := Aside0.mk (Kd.R_below (by (with_reducible repeat (first | apply Kd.R_alloc | apply Kd.R_drewN | apply Kd.R_drew)); exact (Kd.R_mono (Kd.R_far (p := ⟨gb184, 2, none⟩) (Kd.R_far (p := ⟨gb184, 1, none⟩) (Kd.R_far (p := ⟨gb184, 0, none⟩) (Kd.R_types HO158.out BK184.out (by decide)) (fun _ hk => hk.2) (.int .i64 t178)) (fun _ hk => hk.2) (.int .i64 t179)) (fun _ hk => hk.2) (.slice Ao46 t180.length co46)) (fun _ h_ => h_.1))) hb); have n1_ := Aside0.mk (Kd.R_below (by (with_reducible repeat (first | apply Kd.R_alloc | apply Kd.R_drewN | apply Kd.R_drew)); exact (Kd.R_mono (Kd.R_far (p := ⟨gb184, 2, none⟩) (Kd.R_far (p := ⟨gb184, 1, none⟩) (Kd.R_far (p := ⟨gb184, 0, none⟩) (Kd.R_types HO161.out BK184.out (by decide)) (fun _ hk => hk.2) (.int .i64 t178)) (fun _ hk => hk.2) (.int .i64 t179)) (fun _ hk => hk.2) (.slice Ao46 t180.length co46)) (fun _ h_ => h_.1))) hb); have n2_ := Aside0.mk (Kd.R_below (by (with_reducible repeat (first | apply Kd.R_alloc | apply Kd.R_drewN | apply Kd.R_drew)); exact (Kd.R_mono (Kd.R_far (p := ⟨gb184, 2, none⟩) (Kd.R_far (p := ⟨gb184, 1, none⟩) (Kd.R_far (p := ⟨gb184, 0, none⟩) (Kd.R_types HO166.out BK184.out (by decide)) (fun _ hk => hk.2) (.int .i64 t178)) (fun _ hk => hk.2) (.int .i64 t179)) (fun _ hk => hk.2) (.slice Ao46 t180.length co46)) (fun _ h_ => h_.1))) hb); have n3_ := Aside0.mk (Kd.R_below (by (with_reducible repeat (first | apply Kd.R_alloc | apply Kd.R_drewN | apply Kd.R_drew)); exact (Kd.R_mono (Kd.R_far (p := ⟨gb184, 2, none⟩) (Kd.R_far (p := ⟨gb184, 1, none⟩) (Kd.R_far (p := ⟨gb184, 0, none⟩) (Kd.R_types HO173.out BK184.out (by decide)) (fun _ hk => hk.2) (.int .i64 t178)) (fun _ hk => hk.2) (.int .i64 t179)) (fun _ hk => hk.2) (.slice Ao46 t180.length co46)) (fun _ h_ => h_.1))) hb); have n4_ := Aside0.mk (Kd.R_below (by (with_reducible repeat (first | apply Kd.R_alloc | apply Kd.R_drewN | apply Kd.R_drew)); exact (Kd.R_mono (Kd.R_far (p := ⟨gb184, 2, none⟩) (Kd.R_far (p := ⟨gb184, 1, none⟩) (Kd.R_far (p := ⟨gb184, 0, none⟩) (Kd.R_types HO177.out BK184.out (by decide)) (fun _ hk => hk.2) (.int .i64 t178)) (fun _ hk => hk.2) (.int .i64 t179)) (fun _ hk => hk.2) (.slice Ao46 t180.length co46)) (fun _ h_ => h_.1))) hb); have n5_ := Aside0.mk (Kd.R_below (by (with_reducible repeat (first | apply Kd.R_alloc | apply Kd.R_drewN | apply Kd.R_drew)); exact (Kd.R_mono (Kd.R_far (p := ⟨gb184, 2, none⟩) (Kd.R_far (p := ⟨gb184, 1, none⟩) (Kd.R_far (p := ⟨gb184, 0, none⟩) (Kd.R_types HO182.out BK184.out (by decide)) (fun _ hk => hk.2) (.int .i64 t178)) (fun _ hk => hk.2) (.int .i64 t179)) (fun _ hk => hk.2) (.slice Ao46 t180.length co46)) (fun _ h_ => h_.1))) hb); have n6_ := Aside0.mk (blk_below (g := gb152) (o := .cells #[.int .i64 a0_0, .int .i64 a0_1, .slice A0_2 l0_2.length c0_2] 24 (0, 0)) (by (with_reducible repeat (first | refine blk_drewN ?_ _ | refine blk_drew ?_ | refine blk_alloc ?_ _)); refine blk_far ?_ NB152_184.out _; (with_reducible repeat (first | refine blk_drewN ?_ _ | refine blk_drew ?_ | refine blk_alloc ?_ _)); refine blk_far ?_ NB152_184.out _; (with_reducible repeat (first | refine blk_drewN ?_ _ | refine blk_drew ?_ | refine blk_alloc ?_ _)); refine blk_far ?_ NB152_184.out _; (with_reducible repeat (first | refine blk_drewN ?_ _ | refine blk_drew ?_ | refine blk_alloc ?_ _)); exact BK152.out) hb); have n7_ := Aside0.mk (blk_below (g := gb168) (o := .cells #[.int .i64 t162, .int .i64 t163, .slice Ao29 t164.length co29] 26 (0, 0)) (by (with_reducible repeat (first | refine blk_drewN ?_ _ | refine blk_drew ?_ | refine blk_alloc ?_ _)); refine blk_far ?_ NB168_184.out _; (with_reducible repeat (first | refine blk_drewN ?_ _ | refine blk_drew ?_ | refine blk_alloc ?_ _)); refine blk_far ?_ NB168_184.out _; (with_reducible repeat (first | refine blk_drewN ?_ _ | refine blk_drew ?_ | refine blk_alloc ?_ _)); refine blk_far ?_ NB168_184.out _; (with_reducible repeat (first | refine blk_drewN ?_ _ | refine blk_drew ?_ | refine blk_alloc ?_ _)); exact BK168.out) hb); have n8_ := Aside0.mk (blk_below (g := gb174) (o := .cells #[.int .i64 t169, .int .i64 t170, .slice Ao36 t171.length co36] 26 (0, 0)) (by (with_reducible repeat (first | refine blk_drewN ?_ _ | refine blk_drew ?_ | refine blk_alloc ?_ _)); refine blk_far ?_ NB174_184.out _; (with_reducible repeat (first | refine blk_drewN ?_ _ | refine blk_drew ?_ | refine blk_alloc ?_ _)); refine blk_far ?_ NB174_184.out _; (with_reducible repeat (first | refine blk_drewN ?_ _ | refine blk_drew ?_ | refine blk_alloc ?_ _)); refine blk_far ?_ NB174_184.out _; (with_reducible repeat (first | refine blk_drewN ?_ _ | refine blk_drew ?_ | refine blk_alloc ?_ _)); exact BK174.out) hb); have n9_ := Aside0.mk (blk_below (g := gb184) (o := .cells #[.int .i64 t178, .int .i64 t179, .slice Ao46 t180.length co46] 26 (0, 0)) (by (with_reducible repeat (first | refine blk_drewN ?_ _ | refine blk_drew ?_ | refine blk_alloc ?_ _)); refine blk_put (cs := #[.int .i64 t178, .int .i64 t179, .slice none 0 0]) ?_ 2 _ rfl; (with_reducible repeat (first | refine blk_drewN ?_ _ | refine blk_drew ?_ | refine blk_alloc ?_ _)); refine blk_put (cs := #[.int .i64 t178, .int .i64 0, .slice none 0 0]) ?_ 1 _ rfl; (with_reducible repeat (first | refine blk_drewN ?_ _ | refine blk_drew ?_ | refine blk_alloc ?_ _)); refine blk_put (cs := #[.int .i64 0, .int .i64 0, .slice none 0 0]) ?_ 0 _ rfl; (with_reducible repeat (first | refine blk_drewN ?_ _ | refine blk_drew ?_ | refine blk_alloc ?_ _)); exact BK184.out) hb); have n10_ := Aside0.mk (below_step (by repeat (first | (with_reducible first | exact HB.out | apply below_alloc | apply pw_below_drewN | apply below_drew1 | refine below_set ?_ GE152.out | refine below_set ?_ GE168.out | refine below_set ?_ GE174.out | refine below_set ?_ GE184.out) | exact HB.out)) hb); clear HO158; clear HO161; clear HO166; clear HO173; clear HO177; clear HO182; clear BK152; clear BK168; clear BK174; clear BK184; clear HB; have HO158 := n0_; have HO161 := n1_; have HO166 := n2_; have HO173 := n3_; have HO177 := n4_; have HO182 := n5_; have BK152 := n6_; have BK168 := n7_; have BK174 := n8_; have BK184 := n9_; have HB := n10_; clear n0_ n1_ n2_ n3_ n4_ n5_ n6_ n7_ n8_ n9_ n10_; (try clear hb); (try clear hb2); (try clear hk); (try clear hi)))
     go_meet
     case rel => exact ⟨_, (true), (by first | rfl | (simp; done) | (simp [*]; done)), H', ⟨by first | omega | exact Nat.le_refl _⟩, ⟨by (with_reducible repeat (first | apply Kd.R_alloc | apply Kd.R_drewN | apply Kd.R_drew)); exact Kd.R_mono HO177.out (fun _ hk => ⟨hk.1.1.2, ⟨hk.1.2, hk.2⟩⟩)⟩, ⟨by (with_reducible repeat (first | apply Kd.R_alloc | apply Kd.R_drewN | apply Kd.R_drew)); exact Kd.R_mono HO166.out (fun _ hk => ⟨hk.1.2, ⟨hk.1.1.2, hk.2⟩⟩)⟩, ⟨by (with_reducible repeat (first | apply Kd.R_alloc | apply Kd.R_drewN | apply Kd.R_drew)); exact Kd.R_mono HO173.out (fun _ hk => ⟨hk.1.2, ⟨hk.1.1.2, hk.2⟩⟩)⟩, ⟨by (with_reducible repeat (first | apply Kd.R_alloc | apply Kd.R_drewN | apply Kd.R_drew)); exact Kd.R_mono HO182.out (fun _ hk => ⟨hk.2, ⟨hk.1.1.2, hk.1.2⟩⟩)⟩, ⟨by (with_reducible repeat (first | refine blk_drewN ?_ _ | refine blk_drew ?_ | refine blk_alloc ?_ _)); exact BK152.out⟩, ⟨by (with_reducible repeat (first | refine blk_drewN ?_ _ | refine blk_drew ?_ | refine blk_alloc ?_ _)); exact BK168.out⟩, ⟨by (with_reducible repeat (first | refine blk_drewN ?_ _ | refine blk_drew ?_ | refine blk_alloc ?_ _)); exact BK174.out⟩, ⟨by (with_reducible repeat (first | refine blk_drewN ?_ _ | refine blk_drew ?_ | refine blk_alloc ?_ _)); exact BK184.out⟩, ⟨by repeat (first | (with_reducible first | exact HB.out | apply below_alloc | apply pw_below_drewN | apply below_drew1 | refine below_set ?_ GE152.out | refine below_set ?_ GE168.out | refine below_set ?_ GE174.out | refine below_set ?_ GE184.out) | exact HB.out)⟩⟩
   case rest =>
    clear HC16
    try clear c1
    try clear c2
    try clear p2
    try clear c3
    try clear c3b0
    try clear c3b1
    try clear c4
    try clear c5
    try clear c6
    try clear c6b0
    try clear c7
    try clear c8
    try clear c9
    try clear c27
    try clear c33
    try clear c34
    try clear c42
    try clear c43
    try clear c44
    try clear c48
    try clear c49
    try clear c50
    try clear c51
    try clear c53
    try clear c54
    try clear c57
    try clear c58
    try clear c59
    try clear c61
    try clear c62
    try clear hcz18_0
    try clear hcz18_1
    try clear hcz18_2
    try clear hcz20_0
    try clear hcz20_1
    try clear hcz20_2
    try clear hcz28_0
    try clear hcz28_1
    try clear hcz28_2
    try clear hcz30_0
    try clear hcz30_1
    try clear hcz30_2
    try clear hcz35_0
    try clear hcz35_1
    try clear hcz35_2
    try clear hcz38_0
    try clear hcz38_1
    try clear hcz38_2
    try clear hcz45_0
    try clear hcz45_1
    try clear hcz45_2
    try clear hcz52_0
    try clear hcz52_1
    try clear hcz52_2
    try clear hcz55_0
    try clear hcz55_1
    try clear hcz55_2
    try clear hcz60_0
    try clear hcz60_1
    try clear hcz60_2
    try clear hcz63_0
    try clear hcz63_1
    try clear hcz63_2
    try clear hcz8_0
    try clear hcz8_1
    try clear hcz8_2
    try clear hfz18_0
    try clear hfz18_1
    try clear hfz18_2
    try clear hfz20_0
    try clear hfz20_1
    try clear hfz20_2
    try clear hfz28_0
    try clear hfz28_1
    try clear hfz28_2
    try clear hfz30_0
    try clear hfz30_1
    try clear hfz30_2
    try clear hfz35_0
    try clear hfz35_1
    try clear hfz35_2
    try clear hfz38_0
    try clear hfz38_1
    try clear hfz38_2
    try clear hfz45_0
    try clear hfz45_1
    try clear hfz45_2
    try clear hfz52_0
    try clear hfz52_1
    try clear hfz52_2
    try clear hfz55_0
    try clear hfz55_1
    try clear hfz55_2
    try clear hfz60_0
    try clear hfz60_1
    try clear hfz60_2
    try clear hfz63_0
    try clear hfz63_1
    try clear hfz63_2
    try clear hfz8_0
    try clear hfz8_1
    try clear hfz8_2
    obtain ⟨kq, x51_15, rfl, HA, HJ15, HO_9, HO_169002, HO_175002, HO_185002, BK152, BK168, BK174, BK184, HB⟩ := hcut
    cases kq with
    | zero => exact absurd HA.out (by simp [laws_FnExactMatRows.j0])
    | succ kj15 =>
     have H := HA.out
     clear HA
     simp only [laws_FnExactMatRows.j0] at H
     by_cases c65 : x51_15 = true
     ·subst c65
      have H1 : (some false) = some r := by rw [if_pos rfl] at H; exact H
      clear H
      have H := H1
      clear H1
      obtain rfl := Option.some.inj H
      go_wp2
      go_ret
      exact ⟨by first | rfl | (simp [errW_none, errW_some] <;> rfl) | (simp [*, errW_none, errW_some] <;> rfl), by repeat (first | (with_reducible first | exact HB.out | apply below_alloc | apply pw_below_drewN | apply below_drew1 | refine below_set ?_ GE152.out | refine below_set ?_ GE168.out | refine below_set ?_ GE174.out | refine below_set ?_ GE184.out) | exact HB.out)⟩
     ·replace c65 := Bool.eq_false_iff.mpr c65
      subst c65
      have H1 : ((laws_toMatrix.f kj15 a0_0 a0_1 l0_2).bind fun bt186 => ((laws_eqMatrix.f kj15 t169 t170 t171 bt186.1 bt186.2.1 bt186.2.2).bind fun t191 => (if t191 = true then ((laws_toInt64S.f kj15 l1).bind fun t192 => ((laws_eqInt64S.f kj15 t175 t192).bind fun t195 => (if t195 = true then ((laws_markMatrix.f kj15 t169 t170 t171 1).bind fun bt196 => ((laws_markInt64S.f kj15 t175 bt196.1).bind fun bt198 => (if bt198.1 < 0 then (laws_FnExactMatRows.j1 kj15 l1 t167 true a0_0 a0_1 l0_2 t162 t163 t164 t178 t179 t180) else ((laws_eqMatrix.f kj15 t178 t179 t180 t162 t163 t164).bind fun t200 => (if t200 = true then (laws_FnExactMatRows.j1 kj15 l1 t167 (t183 != t167) a0_0 a0_1 l0_2 t162 t163 t164 t178 t179 t180) else (laws_FnExactMatRows.j1 kj15 l1 t167 true a0_0 a0_1 l0_2 t162 t163 t164 t178 t179 t180)))))) else (some false)))) else (some false)))) = some r := by rw [if_neg (show ¬ (false = true) by decide)] at H; exact H
      clear H
      have H := H1
      clear H1
      replace H := Option.bind_eq_some_iff.mp H
      obtain ⟨⟨t186, t187, t188⟩, A660, H⟩ := H
      replace H : ((laws_eqMatrix.f kj15 t169 t170 t171 t186 t187 t188).bind fun t191 => (if t191 = true then ((laws_toInt64S.f kj15 l1).bind fun t192 => ((laws_eqInt64S.f kj15 t175 t192).bind fun t195 => (if t195 = true then ((laws_markMatrix.f kj15 t169 t170 t171 1).bind fun bt196 => ((laws_markInt64S.f kj15 t175 bt196.1).bind fun bt198 => (if bt198.1 < 0 then (laws_FnExactMatRows.j1 kj15 l1 t167 true a0_0 a0_1 l0_2 t162 t163 t164 t178 t179 t180) else ((laws_eqMatrix.f kj15 t178 t179 t180 t162 t163 t164).bind fun t200 => (if t200 = true then (laws_FnExactMatRows.j1 kj15 l1 t167 (t183 != t167) a0_0 a0_1 l0_2 t162 t163 t164 t178 t179 t180) else (laws_FnExactMatRows.j1 kj15 l1 t167 true a0_0 a0_1 l0_2 t162 t163 t164 t178 t179 t180)))))) else (some false)))) else (some false))) = some r := H
      have A66 := Aside0.mk A660
      clear A660
      replace H := Option.bind_eq_some_iff.mp H
      obtain ⟨t191, A670, H⟩ := H
      replace H : (if t191 = true then ((laws_toInt64S.f kj15 l1).bind fun t192 => ((laws_eqInt64S.f kj15 t175 t192).bind fun t195 => (if t195 = true then ((laws_markMatrix.f kj15 t169 t170 t171 1).bind fun bt196 => ((laws_markInt64S.f kj15 t175 bt196.1).bind fun bt198 => (if bt198.1 < 0 then (laws_FnExactMatRows.j1 kj15 l1 t167 true a0_0 a0_1 l0_2 t162 t163 t164 t178 t179 t180) else ((laws_eqMatrix.f kj15 t178 t179 t180 t162 t163 t164).bind fun t200 => (if t200 = true then (laws_FnExactMatRows.j1 kj15 l1 t167 (t183 != t167) a0_0 a0_1 l0_2 t162 t163 t164 t178 t179 t180) else (laws_FnExactMatRows.j1 kj15 l1 t167 true a0_0 a0_1 l0_2 t162 t163 t164 t178 t179 t180)))))) else (some false)))) else (some false)) = some r := H
      have A67 := Aside0.mk A670
      clear A670
      by_cases c68 : t191 = true
      ·subst c68
       have H1 : ((laws_toInt64S.f kj15 l1).bind fun t192 => ((laws_eqInt64S.f kj15 t175 t192).bind fun t195 => (if t195 = true then ((laws_markMatrix.f kj15 t169 t170 t171 1).bind fun bt196 => ((laws_markInt64S.f kj15 t175 bt196.1).bind fun bt198 => (if bt198.1 < 0 then (laws_FnExactMatRows.j1 kj15 l1 t167 true a0_0 a0_1 l0_2 t162 t163 t164 t178 t179 t180) else ((laws_eqMatrix.f kj15 t178 t179 t180 t162 t163 t164).bind fun t200 => (if t200 = true then (laws_FnExactMatRows.j1 kj15 l1 t167 (t183 != t167) a0_0 a0_1 l0_2 t162 t163 t164 t178 t179 t180) else (laws_FnExactMatRows.j1 kj15 l1 t167 true a0_0 a0_1 l0_2 t162 t163 t164 t178 t179 t180)))))) else (some false)))) = some r := by rw [if_pos rfl] at H; exact H
       clear H
       have H := H1
       clear H1
       replace H := Option.bind_eq_some_iff.mp H
       obtain ⟨t192, A690, H⟩ := H
       replace H : ((laws_eqInt64S.f kj15 t175 t192).bind fun t195 => (if t195 = true then ((laws_markMatrix.f kj15 t169 t170 t171 1).bind fun bt196 => ((laws_markInt64S.f kj15 t175 bt196.1).bind fun bt198 => (if bt198.1 < 0 then (laws_FnExactMatRows.j1 kj15 l1 t167 true a0_0 a0_1 l0_2 t162 t163 t164 t178 t179 t180) else ((laws_eqMatrix.f kj15 t178 t179 t180 t162 t163 t164).bind fun t200 => (if t200 = true then (laws_FnExactMatRows.j1 kj15 l1 t167 (t183 != t167) a0_0 a0_1 l0_2 t162 t163 t164 t178 t179 t180) else (laws_FnExactMatRows.j1 kj15 l1 t167 true a0_0 a0_1 l0_2 t162 t163 t164 t178 t179 t180)))))) else (some false))) = some r := H
       have A69 := Aside0.mk A690
       clear A690
       replace H := Option.bind_eq_some_iff.mp H
       obtain ⟨t195, A700, H⟩ := H
       replace H : (if t195 = true then ((laws_markMatrix.f kj15 t169 t170 t171 1).bind fun bt196 => ((laws_markInt64S.f kj15 t175 bt196.1).bind fun bt198 => (if bt198.1 < 0 then (laws_FnExactMatRows.j1 kj15 l1 t167 true a0_0 a0_1 l0_2 t162 t163 t164 t178 t179 t180) else ((laws_eqMatrix.f kj15 t178 t179 t180 t162 t163 t164).bind fun t200 => (if t200 = true then (laws_FnExactMatRows.j1 kj15 l1 t167 (t183 != t167) a0_0 a0_1 l0_2 t162 t163 t164 t178 t179 t180) else (laws_FnExactMatRows.j1 kj15 l1 t167 true a0_0 a0_1 l0_2 t162 t163 t164 t178 t179 t180)))))) else (some false)) = some r := H
       have A70 := Aside0.mk A700
       clear A700
       by_cases c71 : t195 = true
       ·subst c71
        have H1 : ((laws_markMatrix.f kj15 t169 t170 t171 1).bind fun bt196 => ((laws_markInt64S.f kj15 t175 bt196.1).bind fun bt198 => (if bt198.1 < 0 then (laws_FnExactMatRows.j1 kj15 l1 t167 true a0_0 a0_1 l0_2 t162 t163 t164 t178 t179 t180) else ((laws_eqMatrix.f kj15 t178 t179 t180 t162 t163 t164).bind fun t200 => (if t200 = true then (laws_FnExactMatRows.j1 kj15 l1 t167 (t183 != t167) a0_0 a0_1 l0_2 t162 t163 t164 t178 t179 t180) else (laws_FnExactMatRows.j1 kj15 l1 t167 true a0_0 a0_1 l0_2 t162 t163 t164 t178 t179 t180)))))) = some r := by rw [if_pos rfl] at H; exact H
        clear H
        have H := H1
        clear H1
        replace H := Option.bind_eq_some_iff.mp H
        obtain ⟨⟨t196, t197⟩, A720, H⟩ := H
        replace H : ((laws_markInt64S.f kj15 t175 t196).bind fun bt198 => (if bt198.1 < 0 then (laws_FnExactMatRows.j1 kj15 l1 t167 true a0_0 a0_1 l0_2 t162 t163 t164 t178 t179 t180) else ((laws_eqMatrix.f kj15 t178 t179 t180 t162 t163 t164).bind fun t200 => (if t200 = true then (laws_FnExactMatRows.j1 kj15 l1 t167 (t183 != t167) a0_0 a0_1 l0_2 t162 t163 t164 t178 t179 t180) else (laws_FnExactMatRows.j1 kj15 l1 t167 true a0_0 a0_1 l0_2 t162 t163 t164 t178 t179 t180))))) = some r := H
        have A72 := Aside0.mk A720
        clear A720
        replace H := Option.bind_eq_some_iff.mp H
        obtain ⟨⟨t198, t199⟩, A730, H⟩ := H
        replace H : (if t198 < 0 then (laws_FnExactMatRows.j1 kj15 l1 t167 true a0_0 a0_1 l0_2 t162 t163 t164 t178 t179 t180) else ((laws_eqMatrix.f kj15 t178 t179 t180 t162 t163 t164).bind fun t200 => (if t200 = true then (laws_FnExactMatRows.j1 kj15 l1 t167 (t183 != t167) a0_0 a0_1 l0_2 t162 t163 t164 t178 t179 t180) else (laws_FnExactMatRows.j1 kj15 l1 t167 true a0_0 a0_1 l0_2 t162 t163 t164 t178 t179 t180)))) = some r := H
        have A73 := Aside0.mk A730
        clear A730
        have HC74 := Aside0.mk H
        clear H
        try go_wp2
        have n0_ := Aside0.mk (Kd.R_drew HO_9.out)
        have n1_ := Aside0.mk (Kd.R_drew HO_169002.out)
        have n2_ := Aside0.mk (Kd.R_drew HO_175002.out)
        have n3_ := Aside0.mk (Kd.R_drew HO_185002.out)
        have n4_ := Aside0.mk (blk_drew BK152.out)
        have n5_ := Aside0.mk (blk_drew BK168.out)
        have n6_ := Aside0.mk (blk_drew BK174.out)
        have n7_ := Aside0.mk (blk_drew BK184.out)
        have n8_ := Aside0.mk (below_drew1 HB.out)
        clear HO_9
        clear HO_169002
        clear HO_175002
        clear HO_185002
        clear BK152
        clear BK168
        clear BK174
        clear BK184
        clear HB
        have HO_9 := n0_
        have HO_169002 := n1_
        have HO_175002 := n2_
        have HO_185002 := n3_
        have BK152 := n4_
        have BK168 := n5_
        have BK174 := n6_
        have BK184 := n7_
        have HB := n8_
        clear n0_ n1_ n2_ n3_ n4_ n5_ n6_ n7_ n8_
        refine start_ (n := 5) (S := fun w' => w'.cell? ⟨gb174, 0, none⟩ = some (.int .i64 t169) ∧ w'.cell? ⟨gb174, 1, none⟩ = some (.int .i64 t170) ∧ w'.cell? ⟨gb174, 2, none⟩ = some (.slice Ao36 t171.length co36) ∧ w'.cell? ⟨gb152, 0, none⟩ = some (.int .i64 a0_0) ∧ w'.cell? ⟨gb152, 1, none⟩ = some (.int .i64 a0_1) ∧ w'.cell? ⟨gb152, 2, none⟩ = some (.slice A0_2 l0_2.length c0_2)) (ds := []) #[false, false, false, false, false] (by kernel_rfl) rfl rfl ⟨(blk_cell BK174.out 0).trans rfl, (blk_cell BK174.out 1).trans rfl, (blk_cell BK174.out 2).trans rfl, (blk_cell BK152.out 0).trans rfl, (blk_cell BK152.out 1).trans rfl, (blk_cell BK152.out 2).trans rfl⟩ (fun hHeld => ?_)
        generalize wc.drew = w75 at HO_9 HO_169002 HO_175002 HO_185002 BK152 BK168 BK174 BK184 HB hHeld ⊢
        refine take_ (i := 0) (N := some 52) (v := ?_) (a' := ?_) #[true, false, false, false, false] rfl rfl (by kernel_rfl) (fun _ _ _ h => h) (Or.inl ⟨by rfl, ?_⟩) hHeld ?_ ?_
        (rotate_left; ·(rintro w' ⟨s0, s1, s2, s3, s4, s5⟩; go_simp; with_reducible rfl)); (rotate_left; ·(simp only [Act.put, pq_z3]; rfl))
        refine take_ (i := 1) (N := some 53) (v := ?_) (a' := ?_) #[true, true, false, false, false] rfl rfl (by kernel_rfl) (fun _ _ _ h => h) (Or.inl ⟨by rfl, ?_⟩) hHeld ?_ ?_
        (rotate_left; ·(rintro w' ⟨s0, s1, s2, s3, s4, s5⟩; go_simp; with_reducible rfl)); (rotate_left; ·(simp only [Act.put, pq_z3]; rfl))
        refine one_ (i := 2) (N := some 54) #[true, true, true, false, false] rfl rfl (by kernel_rfl) (by decide) (fun K hK => ?_)
        refine goes_ Try.func6 (by kernel_rfl) rfl #[.agg #[.int .i64 a0_0, .int .i64 a0_1, .slice A0_2 l0_2.length c0_2]] (by rfl) rfl rfl (by (try simp only [List.map_toArray, List.map_cons, List.map_nil]); first | done | rfl | (simp only [List.length_drop, List.length_take]; rfl)) ?_
        with_reducible refine (laws_toMatrix.calls kj15 a0_0 a0_1 _ _ l0_2 t186 t187 t188 _ ?side1 ?side2 A66.out).mono ?_
        (case side1 => repeat (first | exact (Kd.C_below HR0_2.out HB.out) | (with_reducible refine Kd.C_alloc ?_ _) | (with_reducible refine Kd.C_drewN ?_ _) | (with_reducible refine Kd.C_drew ?_)))
        (case side2 => exact HC0_2.out)
        rintro e w76 ⟨v189, rfl, ho0, hb⟩
        refine ⟨_, rfl, ?_⟩
        have n0_ := Aside0.mk (Kd.R_elder' (by (with_reducible repeat (first | apply Kd.R_alloc | apply Kd.R_drewN | apply Kd.R_drew)); exact HO_9.out) (Kd.R_base ho0) hb)
        have n1_ := Aside0.mk (Kd.R_elder' (by (with_reducible repeat (first | apply Kd.R_alloc | apply Kd.R_drewN | apply Kd.R_drew)); exact HO_169002.out) (Kd.R_base ho0) hb)
        have n2_ := Aside0.mk (Kd.R_elder' (by (with_reducible repeat (first | apply Kd.R_alloc | apply Kd.R_drewN | apply Kd.R_drew)); exact HO_175002.out) (Kd.R_base ho0) hb)
        have n3_ := Aside0.mk (Kd.R_elder' (by (with_reducible repeat (first | apply Kd.R_alloc | apply Kd.R_drewN | apply Kd.R_drew)); exact HO_185002.out) (Kd.R_base ho0) hb)
        have n4_ := Aside0.mk (Kd.R_lower (Kd.R_new' (Kd.R_new' (Kd.R_new' (Kd.R_new' ho0 (Kd.R_lt (by (with_reducible repeat (first | apply Kd.R_alloc | apply Kd.R_drewN | apply Kd.R_drew)); exact HO_9.out))) (Kd.R_lt (by (with_reducible repeat (first | apply Kd.R_alloc | apply Kd.R_drewN | apply Kd.R_drew)); exact HO_169002.out))) (Kd.R_lt (by (with_reducible repeat (first | apply Kd.R_alloc | apply Kd.R_drewN | apply Kd.R_drew)); exact HO_175002.out))) (Kd.R_lt (by (with_reducible repeat (first | apply Kd.R_alloc | apply Kd.R_drewN | apply Kd.R_drew)); exact HO_185002.out))) (below_size (by repeat (first | (with_reducible first | exact HB.out | apply below_alloc | apply pw_below_drewN | apply below_drew1 | refine below_set ?_ GE152.out | refine below_set ?_ GE168.out | refine below_set ?_ GE174.out | refine below_set ?_ GE184.out) | exact HB.out))))
        have n5_ := Aside0.mk (blk_below (g := gb152) (o := .cells #[.int .i64 a0_0, .int .i64 a0_1, .slice A0_2 l0_2.length c0_2] 24 (0, 0)) (by (with_reducible repeat (first | refine blk_drewN ?_ _ | refine blk_drew ?_ | refine blk_alloc ?_ _)); exact BK152.out) hb)
        have n6_ := Aside0.mk (blk_below (g := gb168) (o := .cells #[.int .i64 t162, .int .i64 t163, .slice Ao29 t164.length co29] 26 (0, 0)) (by (with_reducible repeat (first | refine blk_drewN ?_ _ | refine blk_drew ?_ | refine blk_alloc ?_ _)); exact BK168.out) hb)
        have n7_ := Aside0.mk (blk_below (g := gb174) (o := .cells #[.int .i64 t169, .int .i64 t170, .slice Ao36 t171.length co36] 26 (0, 0)) (by (with_reducible repeat (first | refine blk_drewN ?_ _ | refine blk_drew ?_ | refine blk_alloc ?_ _)); exact BK174.out) hb)
        have n8_ := Aside0.mk (blk_below (g := gb184) (o := .cells #[.int .i64 t178, .int .i64 t179, .slice Ao46 t180.length co46] 26 (0, 0)) (by (with_reducible repeat (first | refine blk_drewN ?_ _ | refine blk_drew ?_ | refine blk_alloc ?_ _)); exact BK184.out) hb)
        have n9_ := Aside0.mk (below_step (by repeat (first | (with_reducible first | exact HB.out | apply below_alloc | apply pw_below_drewN | apply below_drew1 | refine below_set ?_ GE152.out | refine below_set ?_ GE168.out | refine below_set ?_ GE174.out | refine below_set ?_ GE184.out) | exact HB.out)) hb)
        clear HO_9
        clear HO_169002
        clear HO_175002
        clear HO_185002
        clear BK152
        clear BK168
        clear BK174
        clear BK184
        clear HB
        have HO_9 := n0_
        have HO_169002 := n1_
        have HO_175002 := n2_
        have HO_185002 := n3_
        have HO190 := n4_
        have BK152 := n5_
        have BK168 := n6_
        have BK174 := n7_
        have BK184 := n8_
        have HB := n9_
        clear n0_ n1_ n2_ n3_ n4_ n5_ n6_ n7_ n8_ n9_
        (try clear hb)
        (try clear hb2)
        (try clear hk)
        (try clear hi)
        (try clear ho0)
        obtain ⟨Ao77, co77, eo77⟩ := Kd.R_slice HO190.out
        (first | subst eo77 | (injection eo77 with f1_ f2_ f3_; have f4_ := f1_.symm; have f5_ := f3_.symm; clear f1_ f2_ f3_; subst f4_; subst f5_))
        refine hK.out _ _ ⟨(blk_cell BK174.out 0).trans rfl, (blk_cell BK174.out 1).trans rfl, (blk_cell BK174.out 2).trans rfl, (blk_cell BK152.out 0).trans rfl, (blk_cell BK152.out 1).trans rfl, (blk_cell BK152.out 2).trans rfl⟩ (fun hHeld => ?_)
        clear hK K
        refine norm_ (a' := ?_) ?_ ?_
        (rotate_left; ·(show Act.put _ (some 54) _ = _; simp only [Act.put, pq_z3]; rfl))
        refine one_ (i := 3) (N := some 55) #[true, true, true, true, false] rfl rfl (by kernel_rfl) (by decide) (fun K hK => ?_)
        refine goes_ Try.func9 (by kernel_rfl) rfl #[.agg #[.int .i64 t169, .int .i64 t170, .slice Ao36 t171.length co36], .agg #[.int .i64 t186, .int .i64 t187, .slice Ao77 t188.length co77]] (by rfl) rfl rfl (by (try simp only [List.map_toArray, List.map_cons, List.map_nil]); first | done | rfl | (simp only [List.length_drop, List.length_take]; rfl)) ?_
        with_reducible refine (laws_eqMatrix.calls kj15 t169 t170 _ _ t171 t186 t187 _ _ t188 true _ ?side1 ?side2 ?side3 ?side4 A67.out).mono ?_
        (case side1 => repeat (first | exact (Kd.R_reads' HO_175002.out).2.2 | (with_reducible refine Kd.C_alloc ?_ _) | (with_reducible refine Kd.C_drewN ?_ _) | (with_reducible refine Kd.C_drew ?_)))
        (case side2 => exact (Kd.R_reads' HO_175002.out).2.1)
        (case side3 => repeat (first | exact (Kd.R_reads' HO190.out).2.2 | (with_reducible refine Kd.C_alloc ?_ _) | (with_reducible refine Kd.C_drewN ?_ _) | (with_reducible refine Kd.C_drew ?_)))
        (case side4 => exact (Kd.R_reads' HO190.out).2.1)
        rintro e w78 ⟨rfl, hb⟩
        refine ⟨_, rfl, ?_⟩
        have n0_ := Aside0.mk (Kd.R_below (by (with_reducible repeat (first | apply Kd.R_alloc | apply Kd.R_drewN | apply Kd.R_drew)); exact HO_9.out) hb)
        have n1_ := Aside0.mk (Kd.R_below (by (with_reducible repeat (first | apply Kd.R_alloc | apply Kd.R_drewN | apply Kd.R_drew)); exact HO_169002.out) hb)
        have n2_ := Aside0.mk (Kd.R_below (by (with_reducible repeat (first | apply Kd.R_alloc | apply Kd.R_drewN | apply Kd.R_drew)); exact HO_175002.out) hb)
        have n3_ := Aside0.mk (Kd.R_below (by (with_reducible repeat (first | apply Kd.R_alloc | apply Kd.R_drewN | apply Kd.R_drew)); exact HO_185002.out) hb)
        have n4_ := Aside0.mk (Kd.R_below (by (with_reducible repeat (first | apply Kd.R_alloc | apply Kd.R_drewN | apply Kd.R_drew)); exact HO190.out) hb)
        have n5_ := Aside0.mk (blk_below (g := gb152) (o := .cells #[.int .i64 a0_0, .int .i64 a0_1, .slice A0_2 l0_2.length c0_2] 24 (0, 0)) (by (with_reducible repeat (first | refine blk_drewN ?_ _ | refine blk_drew ?_ | refine blk_alloc ?_ _)); exact BK152.out) hb)
        have n6_ := Aside0.mk (blk_below (g := gb168) (o := .cells #[.int .i64 t162, .int .i64 t163, .slice Ao29 t164.length co29] 26 (0, 0)) (by (with_reducible repeat (first | refine blk_drewN ?_ _ | refine blk_drew ?_ | refine blk_alloc ?_ _)); exact BK168.out) hb)
        have n7_ := Aside0.mk (blk_below (g := gb174) (o := .cells #[.int .i64 t169, .int .i64 t170, .slice Ao36 t171.length co36] 26 (0, 0)) (by (with_reducible repeat (first | refine blk_drewN ?_ _ | refine blk_drew ?_ | refine blk_alloc ?_ _)); exact BK174.out) hb)
        have n8_ := Aside0.mk (blk_below (g := gb184) (o := .cells #[.int .i64 t178, .int .i64 t179, .slice Ao46 t180.length co46] 26 (0, 0)) (by (with_reducible repeat (first | refine blk_drewN ?_ _ | refine blk_drew ?_ | refine blk_alloc ?_ _)); exact BK184.out) hb)
        have n9_ := Aside0.mk (below_step (by repeat (first | (with_reducible first | exact HB.out | apply below_alloc | apply pw_below_drewN | apply below_drew1 | refine below_set ?_ GE152.out | refine below_set ?_ GE168.out | refine below_set ?_ GE174.out | refine below_set ?_ GE184.out) | exact HB.out)) hb)
        clear HO_9
        clear HO_169002
        clear HO_175002
        clear HO_185002
        clear HO190
        clear BK152
        clear BK168
        clear BK174
        clear BK184
        clear HB
        have HO_9 := n0_
        have HO_169002 := n1_
        have HO_175002 := n2_
        have HO_185002 := n3_
        have HO190 := n4_
        have BK152 := n5_
        have BK168 := n6_
        have BK174 := n7_
        have BK184 := n8_
        have HB := n9_
        clear n0_ n1_ n2_ n3_ n4_ n5_ n6_ n7_ n8_ n9_
        (try clear hb)
        (try clear hb2)
        (try clear hk)
        (try clear hi)
        refine hK.out _ _ ⟨(blk_cell BK174.out 0).trans rfl, (blk_cell BK174.out 1).trans rfl, (blk_cell BK174.out 2).trans rfl, (blk_cell BK152.out 0).trans rfl, (blk_cell BK152.out 1).trans rfl, (blk_cell BK152.out 2).trans rfl⟩ (fun hHeld => ?_)
        clear hK K
        refine norm_ (a' := ?_) ?_ ?_
        (rotate_left; ·(show Act.put _ (some 55) _ = _; simp only [Act.put, pq_z3]; rfl))
        refine pu_z3 4 (some 56) ?_ #[true, true, true, true, true] rfl rfl (by kernel_rfl) (fun _ _ _ h => h) (Or.inl ⟨by rfl, ?_⟩) ?_ ?_ ?_
        (rotate_left; ·(intro w'; go_simp; with_reducible rfl)); (rotate_left; ·(simp only [Act.put, pq_z3]; rfl))
        refine done_ (by kernel_rfl) ?_
        go_upto_region 20 with (first | ((with_reducible refine gate_callee (f := 7) rfl ?_); refine goesL_ (some 59) rfl rfl Try.func7 (by kernel_rfl) rfl #[.slice A1 l1.length c1] rfl (by (try simp only [List.map_toArray, List.map_cons, List.map_nil]); first | done | rfl | (simp only [List.length_drop, List.length_take]; rfl)) ?_; (with_reducible refine (laws_toInt64S.calls kj15 _ _ l1 t192 _ ?side1 ?side2 A69.out).mono ?_); (case side1 => repeat (first | exact (Kd.C_below HR1.out HB.out) | (with_reducible refine Kd.C_alloc ?_ _) | (with_reducible refine Kd.C_drewN ?_ _) | (with_reducible refine Kd.C_drew ?_))); (case side2 => exact HC1.out); rintro e w79 ⟨v193, rfl, ho0, hb⟩; refine ⟨_, rfl, ?_⟩; have n0_ := Aside0.mk (Kd.R_elder' (by (with_reducible repeat (first | apply Kd.R_alloc | apply Kd.R_drewN | apply Kd.R_drew)); exact HO_9.out) (Kd.R_base ho0) hb); have n1_ := Aside0.mk (Kd.R_elder' (by (with_reducible repeat (first | apply Kd.R_alloc | apply Kd.R_drewN | apply Kd.R_drew)); exact HO_169002.out) (Kd.R_base ho0) hb); have n2_ := Aside0.mk (Kd.R_elder' (by (with_reducible repeat (first | apply Kd.R_alloc | apply Kd.R_drewN | apply Kd.R_drew)); exact HO_175002.out) (Kd.R_base ho0) hb); have n3_ := Aside0.mk (Kd.R_elder' (by (with_reducible repeat (first | apply Kd.R_alloc | apply Kd.R_drewN | apply Kd.R_drew)); exact HO_185002.out) (Kd.R_base ho0) hb); have n4_ := Aside0.mk (Kd.R_elder' (by (with_reducible repeat (first | apply Kd.R_alloc | apply Kd.R_drewN | apply Kd.R_drew)); exact HO190.out) (Kd.R_base ho0) hb); have n5_ := Aside0.mk (Kd.R_lower (Kd.R_new' (Kd.R_new' (Kd.R_new' (Kd.R_new' (Kd.R_new' ho0 (Kd.R_lt (by (with_reducible repeat (first | apply Kd.R_alloc | apply Kd.R_drewN | apply Kd.R_drew)); exact HO_9.out))) (Kd.R_lt (by (with_reducible repeat (first | apply Kd.R_alloc | apply Kd.R_drewN | apply Kd.R_drew)); exact HO_169002.out))) (Kd.R_lt (by (with_reducible repeat (first | apply Kd.R_alloc | apply Kd.R_drewN | apply Kd.R_drew)); exact HO_175002.out))) (Kd.R_lt (by (with_reducible repeat (first | apply Kd.R_alloc | apply Kd.R_drewN | apply Kd.R_drew)); exact HO_185002.out))) (Kd.R_lt (by (with_reducible repeat (first | apply Kd.R_alloc | apply Kd.R_drewN | apply Kd.R_drew)); exact HO190.out))) (below_size (by repeat (first | (with_reducible first | exact HB.out | apply below_alloc | apply pw_below_drewN | apply below_drew1 | refine below_set ?_ GE152.out | refine below_set ?_ GE168.out | refine below_set ?_ GE174.out | refine below_set ?_ GE184.out) | exact HB.out)))); have n6_ := Aside0.mk (blk_below (g := gb152) (o := .cells #[.int .i64 a0_0, .int .i64 a0_1, .slice A0_2 l0_2.length c0_2] 24 (0, 0)) (by (with_reducible repeat (first | refine blk_drewN ?_ _ | refine blk_drew ?_ | refine blk_alloc ?_ _)); exact BK152.out) hb); have n7_ := Aside0.mk (blk_below (g := gb168) (o := .cells #[.int .i64 t162, .int .i64 t163, .slice Ao29 t164.length co29] 26 (0, 0)) (by (with_reducible repeat (first | refine blk_drewN ?_ _ | refine blk_drew ?_ | refine blk_alloc ?_ _)); exact BK168.out) hb); have n8_ := Aside0.mk (blk_below (g := gb174) (o := .cells #[.int .i64 t169, .int .i64 t170, .slice Ao36 t171.length co36] 26 (0, 0)) (by (with_reducible repeat (first | refine blk_drewN ?_ _ | refine blk_drew ?_ | refine blk_alloc ?_ _)); exact BK174.out) hb); have n9_ := Aside0.mk (blk_below (g := gb184) (o := .cells #[.int .i64 t178, .int .i64 t179, .slice Ao46 t180.length co46] 26 (0, 0)) (by (with_reducible repeat (first | refine blk_drewN ?_ _ | refine blk_drew ?_ | refine blk_alloc ?_ _)); exact BK184.out) hb); have n10_ := Aside0.mk (below_step (by repeat (first | (with_reducible first | exact HB.out | apply below_alloc | apply pw_below_drewN | apply below_drew1 | refine below_set ?_ GE152.out | refine below_set ?_ GE168.out | refine below_set ?_ GE174.out | refine below_set ?_ GE184.out) | exact HB.out)) hb); clear HO_9; clear HO_169002; clear HO_175002; clear HO_185002; clear HO190; clear BK152; clear BK168; clear BK174; clear BK184; clear HB; have HO_9 := n0_; have HO_169002 := n1_; have HO_175002 := n2_; have HO_185002 := n3_; have HO190 := n4_; have HO194 := n5_; have BK152 := n6_; have BK168 := n7_; have BK174 := n8_; have BK184 := n9_; have HB := n10_; clear n0_ n1_ n2_ n3_ n4_ n5_ n6_ n7_ n8_ n9_ n10_; (try clear hb); (try clear hb2); (try clear hk); (try clear hi); (try clear ho0); obtain ⟨Ao80, co80, eo80⟩ := Kd.R_slice HO194.out; subst eo80) | ((with_reducible refine gate_callee (f := 10) rfl ?_); refine goesL_ (some 60) rfl rfl Try.func10 (by kernel_rfl) rfl #[.slice Ao39 t175.length co39, .slice Ao80 t192.length co80] rfl (by (try simp only [List.map_toArray, List.map_cons, List.map_nil]); first | done | rfl | (simp only [List.length_drop, List.length_take]; rfl)) ?_; (with_reducible refine (laws_eqInt64S.calls kj15 _ _ t175 _ _ t192 true _ ?side1 ?side2 ?side3 ?side4 A70.out).mono ?_); (case side1 => repeat (first | exact (Kd.R_reads' HO_9.out).2.2 | (with_reducible refine Kd.C_alloc ?_ _) | (with_reducible refine Kd.C_drewN ?_ _) | (with_reducible refine Kd.C_drew ?_))); (case side2 => exact (Kd.R_reads' HO_9.out).2.1); (case side3 => repeat (first | exact (Kd.R_reads' HO194.out).2.2 | (with_reducible refine Kd.C_alloc ?_ _) | (with_reducible refine Kd.C_drewN ?_ _) | (with_reducible refine Kd.C_drew ?_))); (case side4 => exact (Kd.R_reads' HO194.out).2.1); rintro e w' ⟨rfl, ⟨nd, rfl⟩⟩; refine ⟨_, rfl, ?_⟩; have hnb81 := NB174_152.out; have hnc81 := NB152_174.out; have hnb82 := NB174_168.out; have hnc82 := NB168_174.out; have hnb83 := NB174_184.out; have hnc83 := NB184_174.out; have hcz84_0 : w79.cell? ⟨gb174, 0, none⟩ = some (.int .i64 t169) := (blk_cell BK174.out 0).trans rfl; have hcz84_1 : w79.cell? ⟨gb174, 1, none⟩ = some (.int .i64 t170) := (blk_cell BK174.out 1).trans rfl; have hcz84_2 : w79.cell? ⟨gb174, 2, none⟩ = some (.slice Ao36 t171.length co36) := (blk_cell BK174.out 2).trans rfl; have hfz84_0 := blk_frozen BK174.out 0; have hfz84_1 := blk_frozen BK174.out 1; have hfz84_2 := blk_frozen BK174.out 2) | ((with_reducible refine gate_callee (f := 11) rfl ?_); refine goesL_ (some 64) rfl rfl Try.func11 (by kernel_rfl) rfl #[.agg #[.int .i64 t169, .int .i64 t170, .slice Ao36 t171.length co36], .int .i64 1] rfl (by (try simp only [List.map_toArray, List.map_cons, List.map_nil]); first | done | rfl | (simp only [List.length_drop, List.length_take]; rfl)) ?_; (with_reducible refine (laws_markMatrix.calls kj15 t169 t170 (fun k_ => some k_ = (.slice Ao36 t171.length co36 : Value).ownBlock) (.slice Ao36 t171.length co36) t171 1 t196 t197 w _ ?side1 ?side2 A72.out).mono ?_); (case side1 => repeat (first | (with_reducible first | exact HB.out | apply below_alloc | apply pw_below_drewN | apply below_drew1 | refine below_set ?_ GE152.out | refine below_set ?_ GE168.out | refine below_set ?_ GE174.out | refine below_set ?_ GE184.out) | exact HB.out)); (case side2 => exact Kd.R_tight rfl HO_175002.out); rintro e w85 ⟨rfl, hy0, hb, hkp⟩; refine ⟨_, rfl, ?_⟩; have n0_ := Aside0.mk (Kd.R_mono (ok' := fun k_ => some k_ ≠ (.slice Ao29 t164.length co29 : Value).ownBlock ∧ some k_ ≠ (.slice Ao36 t171.length co36 : Value).ownBlock ∧ some k_ ≠ (.slice Ao46 t180.length co46 : Value).ownBlock ∧ some k_ ≠ (.slice Ao77 t188.length co77 : Value).ownBlock ∧ some k_ ≠ (.slice Ao80 t192.length co80 : Value).ownBlock) (Kd.R_keptB (HO_9.out) hkp (fun k_ hk_ hs_ => (hk_.1.1.2.1) hs_)) (fun k_ hk_ => ⟨hk_.1.1.1.1, hk_.1.1.1.2.1, hk_.1.1.1.2.2, hk_.1.1.2, hk_.1.2⟩)); have n1_ := Aside0.mk (Kd.R_mono (ok' := fun k_ => some k_ ≠ (.slice Ao39 t175.length co39 : Value).ownBlock ∧ some k_ ≠ (.slice Ao36 t171.length co36 : Value).ownBlock ∧ some k_ ≠ (.slice Ao46 t180.length co46 : Value).ownBlock ∧ some k_ ≠ (.slice Ao77 t188.length co77 : Value).ownBlock ∧ some k_ ≠ (.slice Ao80 t192.length co80 : Value).ownBlock) (Kd.R_keptB (HO_169002.out) hkp (fun k_ hk_ hs_ => (hk_.1.1.2.1) hs_)) (fun k_ hk_ => ⟨hk_.1.1.1.1, hk_.1.1.1.2.1, hk_.1.1.1.2.2, hk_.1.1.2, hk_.1.2⟩)); have n2_ := Aside0.mk (Kd.R_reok rfl hy0 (fun k_ e_ => HO_175002.out.1 k_ e_)); have n3_ := Aside0.mk (Kd.R_mono (ok' := fun k_ => some k_ ≠ (.slice Ao39 t175.length co39 : Value).ownBlock ∧ some k_ ≠ (.slice Ao29 t164.length co29 : Value).ownBlock ∧ some k_ ≠ (.slice Ao36 t171.length co36 : Value).ownBlock ∧ some k_ ≠ (.slice Ao77 t188.length co77 : Value).ownBlock ∧ some k_ ≠ (.slice Ao80 t192.length co80 : Value).ownBlock) (Kd.R_keptB (HO_185002.out) hkp (fun k_ hk_ hs_ => (hk_.1.1.2.2) hs_)) (fun k_ hk_ => ⟨hk_.1.1.1.1, hk_.1.1.1.2.1, hk_.1.1.1.2.2, hk_.1.1.2, hk_.1.2⟩)); have n4_ := Aside0.mk (blk_kept (by (with_reducible repeat (first | refine blk_drewN ?_ _ | refine blk_drew ?_ | refine blk_alloc ?_ _)); exact BK152.out) hkp (fun hs_ => (fun e_ => (Kd.R_ne HO_175002.out BK152.out (by decide)) e_) hs_)); have n5_ := Aside0.mk (blk_kept (by (with_reducible repeat (first | refine blk_drewN ?_ _ | refine blk_drew ?_ | refine blk_alloc ?_ _)); exact BK168.out) hkp (fun hs_ => (fun e_ => (Kd.R_ne HO_175002.out BK168.out (by decide)) e_) hs_)); have n6_ := Aside0.mk (blk_kept (by (with_reducible repeat (first | refine blk_drewN ?_ _ | refine blk_drew ?_ | refine blk_alloc ?_ _)); exact BK174.out) hkp (fun hs_ => (fun e_ => (Kd.R_ne HO_175002.out BK174.out (by decide)) e_) hs_)); have n7_ := Aside0.mk (blk_kept (by (with_reducible repeat (first | refine blk_drewN ?_ _ | refine blk_drew ?_ | refine blk_alloc ?_ _)); exact BK184.out) hkp (fun hs_ => (fun e_ => (Kd.R_ne HO_175002.out BK184.out (by decide)) e_) hs_)); have n8_ := Aside0.mk (Kd.R_mono (ok' := fun k_ => some k_ ≠ (.slice Ao39 t175.length co39 : Value).ownBlock ∧ some k_ ≠ (.slice Ao29 t164.length co29 : Value).ownBlock ∧ some k_ ≠ (.slice Ao36 t171.length co36 : Value).ownBlock ∧ some k_ ≠ (.slice Ao46 t180.length co46 : Value).ownBlock ∧ some k_ ≠ (.slice Ao80 t192.length co80 : Value).ownBlock) (Kd.R_keptB (HO190.out) hkp (fun k_ hk_ hs_ => (hk_.1.1.2) hs_)) (fun k_ hk_ => ⟨hk_.1.1.1.1.1.2, hk_.1.1.1.1.2, hk_.1.1.1.2, hk_.1.1.2, hk_.1.2⟩)); have n9_ := Aside0.mk (Kd.R_mono (ok' := fun k_ => some k_ ≠ (.slice Ao39 t175.length co39 : Value).ownBlock ∧ some k_ ≠ (.slice Ao29 t164.length co29 : Value).ownBlock ∧ some k_ ≠ (.slice Ao36 t171.length co36 : Value).ownBlock ∧ some k_ ≠ (.slice Ao46 t180.length co46 : Value).ownBlock ∧ some k_ ≠ (.slice Ao77 t188.length co77 : Value).ownBlock) (Kd.R_keptB (HO194.out) hkp (fun k_ hk_ hs_ => (hk_.1.1.2) hs_)) (fun k_ hk_ => ⟨hk_.1.1.1.1.1.2, hk_.1.1.1.1.2, hk_.1.1.1.2, hk_.1.1.2, hk_.1.2⟩)); have n10_ := Aside0.mk (hb); clear HO_9; clear HO_169002; clear HO_175002; clear HO_185002; clear BK152; clear BK168; clear BK174; clear BK184; clear HO190; clear HO194; clear HB; have HO_9 := n0_; have HO_169002 := n1_; have HO_175002 := n2_; have HO_185002 := n3_; have BK152 := n4_; have BK168 := n5_; have BK174 := n6_; have BK184 := n7_; have HO190 := n8_; have HO194 := n9_; have HB := n10_; clear n0_ n1_ n2_ n3_ n4_ n5_ n6_ n7_ n8_ n9_ n10_; (try clear hb); (try clear hkp); (try clear hy0)) | ((with_reducible refine gate_callee (f := 12) rfl ?_); refine goesL_ (some 67) rfl rfl Try.func12 (by kernel_rfl) rfl #[.slice Ao39 t175.length co39, .int .i64 t196] rfl (by (try simp only [List.map_toArray, List.map_cons, List.map_nil]); first | done | rfl | (simp only [List.length_drop, List.length_take]; rfl)) ?_; (with_reducible refine (laws_markInt64S.calls kj15 (fun k_ => some k_ = (.slice Ao39 t175.length co39 : Value).ownBlock) (.slice Ao39 t175.length co39) t175 t196 t198 t199 w _ ?side1 ?side2 A73.out).mono ?_); (case side1 => repeat (first | (with_reducible first | exact HB.out | apply below_alloc | apply pw_below_drewN | apply below_drew1 | refine below_set ?_ GE152.out | refine below_set ?_ GE168.out | refine below_set ?_ GE174.out | refine below_set ?_ GE184.out) | exact HB.out)); (case side2 => exact Kd.R_tight rfl HO_9.out); rintro e w86 ⟨rfl, hy0, hb, hkp⟩; refine ⟨_, rfl, ?_⟩; have n0_ := Aside0.mk (Kd.R_reok rfl hy0 (fun k_ e_ => HO_9.out.1 k_ e_)); have n1_ := Aside0.mk (Kd.R_mono (ok' := fun k_ => some k_ ≠ (.slice Ao39 t175.length co39 : Value).ownBlock ∧ some k_ ≠ (.slice Ao36 t171.length co36 : Value).ownBlock ∧ some k_ ≠ (.slice Ao46 t180.length co46 : Value).ownBlock ∧ some k_ ≠ (.slice Ao77 t188.length co77 : Value).ownBlock ∧ some k_ ≠ (.slice Ao80 t192.length co80 : Value).ownBlock) (Kd.R_keptB (HO_169002.out) hkp (fun k_ hk_ hs_ => (hk_.1) hs_)) (fun k_ hk_ => ⟨hk_.1.1, hk_.1.2.1, hk_.1.2.2.1, hk_.1.2.2.2.1, hk_.1.2.2.2.2⟩)); have n2_ := Aside0.mk (Kd.R_mono (ok' := fun k_ => some k_ ≠ (.slice Ao39 t175.length co39 : Value).ownBlock ∧ some k_ ≠ (.slice Ao29 t164.length co29 : Value).ownBlock ∧ some k_ ≠ (.slice Ao46 t180.length co46 : Value).ownBlock ∧ some k_ ≠ (.slice Ao77 t188.length co77 : Value).ownBlock ∧ some k_ ≠ (.slice Ao80 t192.length co80 : Value).ownBlock) (Kd.R_keptB (HO_175002.out) hkp (fun k_ hk_ hs_ => (hk_.1.1.1) hs_)) (fun k_ hk_ => ⟨hk_.1.1.1.1, hk_.1.1.1.2.1, hk_.1.1.1.2.2, hk_.1.1.2, hk_.1.2⟩)); have n3_ := Aside0.mk (Kd.R_mono (ok' := fun k_ => some k_ ≠ (.slice Ao39 t175.length co39 : Value).ownBlock ∧ some k_ ≠ (.slice Ao29 t164.length co29 : Value).ownBlock ∧ some k_ ≠ (.slice Ao36 t171.length co36 : Value).ownBlock ∧ some k_ ≠ (.slice Ao77 t188.length co77 : Value).ownBlock ∧ some k_ ≠ (.slice Ao80 t192.length co80 : Value).ownBlock) (Kd.R_keptB (HO_185002.out) hkp (fun k_ hk_ hs_ => (hk_.1) hs_)) (fun k_ hk_ => ⟨hk_.1.1, hk_.1.2.1, hk_.1.2.2.1, hk_.1.2.2.2.1, hk_.1.2.2.2.2⟩)); have n4_ := Aside0.mk (blk_kept (by (with_reducible repeat (first | refine blk_drewN ?_ _ | refine blk_drew ?_ | refine blk_alloc ?_ _)); exact BK152.out) hkp (fun hs_ => (fun e_ => (Kd.R_ne HO_9.out BK152.out (by decide)) e_) hs_)); have n5_ := Aside0.mk (blk_kept (by (with_reducible repeat (first | refine blk_drewN ?_ _ | refine blk_drew ?_ | refine blk_alloc ?_ _)); exact BK168.out) hkp (fun hs_ => (fun e_ => (Kd.R_ne HO_9.out BK168.out (by decide)) e_) hs_)); have n6_ := Aside0.mk (blk_kept (by (with_reducible repeat (first | refine blk_drewN ?_ _ | refine blk_drew ?_ | refine blk_alloc ?_ _)); exact BK174.out) hkp (fun hs_ => (fun e_ => (Kd.R_ne HO_9.out BK174.out (by decide)) e_) hs_)); have n7_ := Aside0.mk (blk_kept (by (with_reducible repeat (first | refine blk_drewN ?_ _ | refine blk_drew ?_ | refine blk_alloc ?_ _)); exact BK184.out) hkp (fun hs_ => (fun e_ => (Kd.R_ne HO_9.out BK184.out (by decide)) e_) hs_)); have n8_ := Aside0.mk (Kd.R_mono (ok' := fun k_ => some k_ ≠ (.slice Ao39 t175.length co39 : Value).ownBlock ∧ some k_ ≠ (.slice Ao29 t164.length co29 : Value).ownBlock ∧ some k_ ≠ (.slice Ao36 t171.length co36 : Value).ownBlock ∧ some k_ ≠ (.slice Ao46 t180.length co46 : Value).ownBlock ∧ some k_ ≠ (.slice Ao80 t192.length co80 : Value).ownBlock) (Kd.R_keptB (HO190.out) hkp (fun k_ hk_ hs_ => (hk_.1) hs_)) (fun k_ hk_ => ⟨hk_.1.1, hk_.1.2.1, hk_.1.2.2.1, hk_.1.2.2.2.1, hk_.1.2.2.2.2⟩)); have n9_ := Aside0.mk (Kd.R_mono (ok' := fun k_ => some k_ ≠ (.slice Ao39 t175.length co39 : Value).ownBlock ∧ some k_ ≠ (.slice Ao29 t164.length co29 : Value).ownBlock ∧ some k_ ≠ (.slice Ao36 t171.length co36 : Value).ownBlock ∧ some k_ ≠ (.slice Ao46 t180.length co46 : Value).ownBlock ∧ some k_ ≠ (.slice Ao77 t188.length co77 : Value).ownBlock) (Kd.R_keptB (HO194.out) hkp (fun k_ hk_ hs_ => (hk_.1) hs_)) (fun k_ hk_ => ⟨hk_.1.1, hk_.1.2.1, hk_.1.2.2.1, hk_.1.2.2.2.1, hk_.1.2.2.2.2⟩)); have n10_ := Aside0.mk (hb); clear HO_9; clear HO_169002; clear HO_175002; clear HO_185002; clear BK152; clear BK168; clear BK174; clear BK184; clear HO190; clear HO194; clear HB; have HO_9 := n0_; have HO_169002 := n1_; have HO_175002 := n2_; have HO_185002 := n3_; have BK152 := n4_; have BK168 := n5_; have BK174 := n6_; have BK184 := n7_; have HO190 := n8_; have HO194 := n9_; have HB := n10_; clear n0_ n1_ n2_ n3_ n4_ n5_ n6_ n7_ n8_ n9_ n10_; (try clear hb); (try clear hkp); (try clear hy0)))
        (try simp only [Act.put, List.setIfInBounds_toArray, List.set_cons_zero, List.set_cons_succ])
        go_cut [80] (fun v80 wc => ∃ (kq : Nat) (x80_73 : Bool), v80 = .bool x80_73 ∧ Aside0 (laws_FnExactMatRows.j1 kq l1 t167 x80_73 a0_0 a0_1 l0_2 t162 t163 t164 t178 t179 t180 = some r) ∧ Aside0 (kq ≤ kj15) ∧ Aside0 (Kd.R (Kd.int .i64) 2 wc w.heap.size (fun k_ => some k_ ≠ ((.slice Ao36 t171.length co36) : Value).ownBlock ∧ some k_ ≠ ((.slice Ao46 t180.length co46) : Value).ownBlock) (.slice Ao29 t164.length co29) t164) ∧ Aside0 (Kd.R (Kd.int .i64) 2 wc w.heap.size (fun k_ => some k_ ≠ ((.slice Ao29 t164.length co29) : Value).ownBlock ∧ some k_ ≠ ((.slice Ao46 t180.length co46) : Value).ownBlock) (.slice Ao36 t171.length co36) t197) ∧ Aside0 (Kd.R (Kd.int .i64) 2 wc w.heap.size (fun k_ => some k_ ≠ ((.slice Ao29 t164.length co29) : Value).ownBlock ∧ some k_ ≠ ((.slice Ao36 t171.length co36) : Value).ownBlock) (.slice Ao46 t180.length co46) t180) ∧ Aside0 (wc.heap[gb152]? = some (.cells #[.int .i64 a0_0, .int .i64 a0_1, (.slice A0_2 l0_2.length c0_2)] 24 (0, 0))) ∧ Aside0 (wc.heap[gb168]? = some (.cells #[.int .i64 t162, .int .i64 t163, (.slice Ao29 t164.length co29)] 26 (0, 0))) ∧ Aside0 (wc.heap[gb174]? = some (.cells #[.int .i64 t169, .int .i64 t170, (.slice Ao36 t171.length co36)] 26 (0, 0))) ∧ Aside0 (wc.heap[gb184]? = some (.cells #[.int .i64 t178, .int .i64 t179, (.slice Ao46 t180.length co46)] 26 (0, 0))) ∧ Aside0 (Below w.heap.size w wc))
        case first =>
         have H := HC74.out
         clear HC74
         by_cases c87 : t198 < 0
         ·rw [if_pos c87] at H
          have c87b0 : decide (t198 < 0) = true := decide_eq_true c87
          clear c87
          (first | rw [c87b0] | (simp only [i64_w, i32_w]; rw [c87b0]) | skip)
          have H' := Aside0.mk H
          clear H
          go_wp2
          go_meet
          case rel => exact ⟨_, (true), (by first | rfl | (simp; done) | (simp [*]; done)), H', ⟨by have := HJ15.out; first | omega | exact Nat.le_refl _⟩, ⟨by (with_reducible repeat (first | apply Kd.R_alloc | apply Kd.R_drewN | apply Kd.R_drew)); exact Kd.R_mono HO_169002.out (fun _ hk => ⟨hk.2.1, hk.2.2.1⟩)⟩, ⟨by (with_reducible repeat (first | apply Kd.R_alloc | apply Kd.R_drewN | apply Kd.R_drew)); exact Kd.R_mono HO_175002.out (fun _ hk => ⟨hk.2.1, hk.2.2.1⟩)⟩, ⟨by (with_reducible repeat (first | apply Kd.R_alloc | apply Kd.R_drewN | apply Kd.R_drew)); exact Kd.R_mono HO_185002.out (fun _ hk => ⟨hk.2.1, hk.2.2.1⟩)⟩, ⟨by (with_reducible repeat (first | refine blk_drewN ?_ _ | refine blk_drew ?_ | refine blk_alloc ?_ _)); exact BK152.out⟩, ⟨by (with_reducible repeat (first | refine blk_drewN ?_ _ | refine blk_drew ?_ | refine blk_alloc ?_ _)); exact BK168.out⟩, ⟨by (with_reducible repeat (first | refine blk_drewN ?_ _ | refine blk_drew ?_ | refine blk_alloc ?_ _)); exact BK174.out⟩, ⟨by (with_reducible repeat (first | refine blk_drewN ?_ _ | refine blk_drew ?_ | refine blk_alloc ?_ _)); exact BK184.out⟩, ⟨by repeat (first | (with_reducible first | exact HB.out | apply below_alloc | apply pw_below_drewN | apply below_drew1 | refine below_set ?_ GE152.out | refine below_set ?_ GE168.out | refine below_set ?_ GE174.out | refine below_set ?_ GE184.out) | exact HB.out)⟩⟩
         ·rw [if_neg c87] at H
          have c87b0 : decide (t198 < 0) = false := decide_eq_false c87
          clear c87
          (first | rw [c87b0] | (simp only [i64_w, i32_w]; rw [c87b0]) | skip)
          replace H := Option.bind_eq_some_iff.mp H
          obtain ⟨t200, A880, H⟩ := H
          replace H : (if t200 = true then (laws_FnExactMatRows.j1 kj15 l1 t167 (t183 != t167) a0_0 a0_1 l0_2 t162 t163 t164 t178 t179 t180) else (laws_FnExactMatRows.j1 kj15 l1 t167 true a0_0 a0_1 l0_2 t162 t163 t164 t178 t179 t180)) = some r := H
          have A88 := Aside0.mk A880
          clear A880
          by_cases c89 : t200 = true
          ·subst c89
           have H1 : (laws_FnExactMatRows.j1 kj15 l1 t167 (t183 != t167) a0_0 a0_1 l0_2 t162 t163 t164 t178 t179 t180) = some r := by rw [if_pos rfl] at H; exact H
           clear H
           have H := H1
           clear H1
           have H' := Aside0.mk H
           clear H
           have hnb90 := NB184_152.out
           have hnc90 := NB152_184.out
           have hnb91 := NB184_168.out
           have hnc91 := NB168_184.out
           have hnb92 := NB184_174.out
           have hnc92 := NB174_184.out
           have hcz93_0 : w86.cell? ⟨gb184, 0, none⟩ = some (.int .i64 t178) := (blk_cell BK184.out 0).trans rfl
           have hcz93_1 : w86.cell? ⟨gb184, 1, none⟩ = some (.int .i64 t179) := (blk_cell BK184.out 1).trans rfl
           have hcz93_2 : w86.cell? ⟨gb184, 2, none⟩ = some (.slice Ao46 t180.length co46) := (blk_cell BK184.out 2).trans rfl
           have hfz93_0 := blk_frozen BK184.out 0
           have hfz93_1 := blk_frozen BK184.out 1
           have hfz93_2 := blk_frozen BK184.out 2
           have hnb94 := NB168_152.out
           have hnc94 := NB152_168.out
           have hnb95 := NB168_174.out
           have hnc95 := NB174_168.out
           have hcz96_0 : w86.cell? ⟨gb168, 0, none⟩ = some (.int .i64 t162) := (blk_cell BK168.out 0).trans rfl
           have hcz96_1 : w86.cell? ⟨gb168, 1, none⟩ = some (.int .i64 t163) := (blk_cell BK168.out 1).trans rfl
           have hcz96_2 : w86.cell? ⟨gb168, 2, none⟩ = some (.slice Ao29 t164.length co29) := (blk_cell BK168.out 2).trans rfl
           have hfz96_0 := blk_frozen BK168.out 0
           have hfz96_1 := blk_frozen BK168.out 1
           have hfz96_2 := blk_frozen BK168.out 2
           go_wp2_with (first | (go_at_call 9; (with_reducible refine (laws_eqMatrix.calls kj15 t178 t179 _ _ t180 t162 t163 _ _ t164 true _ ?side1 ?side2 ?side3 ?side4 A88.out).mono ?_); (case side1 => repeat (first | exact (Kd.R_reads' HO_185002.out).2.2 | (with_reducible refine Kd.C_alloc ?_ _) | (with_reducible refine Kd.C_drewN ?_ _) | (with_reducible refine Kd.C_drew ?_))); (case side2 => exact (Kd.R_reads' HO_185002.out).2.1); (case side3 => repeat (first | exact (Kd.R_reads' HO_169002.out).2.2 | (with_reducible refine Kd.C_alloc ?_ _) | (with_reducible refine Kd.C_drewN ?_ _) | (with_reducible refine Kd.C_drew ?_))); (case side4 => exact (Kd.R_reads' HO_169002.out).2.1); rintro e w97 ⟨rfl, hb⟩; have n0_ := Aside0.mk (Kd.R_below (by (with_reducible repeat (first | apply Kd.R_alloc | apply Kd.R_drewN | apply Kd.R_drew)); exact HO_9.out) hb); have n1_ := Aside0.mk (Kd.R_below (by (with_reducible repeat (first | apply Kd.R_alloc | apply Kd.R_drewN | apply Kd.R_drew)); exact HO_169002.out) hb); have n2_ := Aside0.mk (Kd.R_below (by (with_reducible repeat (first | apply Kd.R_alloc | apply Kd.R_drewN | apply Kd.R_drew)); exact HO_175002.out) hb); have n3_ := Aside0.mk (Kd.R_below (by (with_reducible repeat (first | apply Kd.R_alloc | apply Kd.R_drewN | apply Kd.R_drew)); exact HO_185002.out) hb); have n4_ := Aside0.mk (Kd.R_below (by (with_reducible repeat (first | apply Kd.R_alloc | apply Kd.R_drewN | apply Kd.R_drew)); exact HO190.out) hb); have n5_ := Aside0.mk (Kd.R_below (by (with_reducible repeat (first | apply Kd.R_alloc | apply Kd.R_drewN | apply Kd.R_drew)); exact HO194.out) hb); have n6_ := Aside0.mk (blk_below (g := gb152) (o := .cells #[.int .i64 a0_0, .int .i64 a0_1, .slice A0_2 l0_2.length c0_2] 24 (0, 0)) (by (with_reducible repeat (first | refine blk_drewN ?_ _ | refine blk_drew ?_ | refine blk_alloc ?_ _)); exact BK152.out) hb); have n7_ := Aside0.mk (blk_below (g := gb168) (o := .cells #[.int .i64 t162, .int .i64 t163, .slice Ao29 t164.length co29] 26 (0, 0)) (by (with_reducible repeat (first | refine blk_drewN ?_ _ | refine blk_drew ?_ | refine blk_alloc ?_ _)); exact BK168.out) hb); have n8_ := Aside0.mk (blk_below (g := gb174) (o := .cells #[.int .i64 t169, .int .i64 t170, .slice Ao36 t171.length co36] 26 (0, 0)) (by (with_reducible repeat (first | refine blk_drewN ?_ _ | refine blk_drew ?_ | refine blk_alloc ?_ _)); exact BK174.out) hb); have n9_ := Aside0.mk (blk_below (g := gb184) (o := .cells #[.int .i64 t178, .int .i64 t179, .slice Ao46 t180.length co46] 26 (0, 0)) (by (with_reducible repeat (first | refine blk_drewN ?_ _ | refine blk_drew ?_ | refine blk_alloc ?_ _)); exact BK184.out) hb); have n10_ := Aside0.mk (below_step (by repeat (first | (with_reducible first | exact HB.out | apply below_alloc | apply pw_below_drewN | apply below_drew1 | refine below_set ?_ GE152.out | refine below_set ?_ GE168.out | refine below_set ?_ GE174.out | refine below_set ?_ GE184.out) | exact HB.out)) hb); clear HO_9; clear HO_169002; clear HO_175002; clear HO_185002; clear HO190; clear HO194; clear BK152; clear BK168; clear BK174; clear BK184; clear HB; have HO_9 := n0_; have HO_169002 := n1_; have HO_175002 := n2_; have HO_185002 := n3_; have HO190 := n4_; have HO194 := n5_; have BK152 := n6_; have BK168 := n7_; have BK174 := n8_; have BK184 := n9_; have HB := n10_; clear n0_ n1_ n2_ n3_ n4_ n5_ n6_ n7_ n8_ n9_ n10_; (try clear hb); (try clear hb2); (try clear hk); (try clear hi)))
           go_meet
           case rel => exact ⟨_, ((t183 != t167)), (by first | rfl | (simp; done) | (simp [*]; done)), H', ⟨by have := HJ15.out; first | omega | exact Nat.le_refl _⟩, ⟨by (with_reducible repeat (first | apply Kd.R_alloc | apply Kd.R_drewN | apply Kd.R_drew)); exact Kd.R_mono HO_169002.out (fun _ hk => ⟨hk.2.1, hk.2.2.1⟩)⟩, ⟨by (with_reducible repeat (first | apply Kd.R_alloc | apply Kd.R_drewN | apply Kd.R_drew)); exact Kd.R_mono HO_175002.out (fun _ hk => ⟨hk.2.1, hk.2.2.1⟩)⟩, ⟨by (with_reducible repeat (first | apply Kd.R_alloc | apply Kd.R_drewN | apply Kd.R_drew)); exact Kd.R_mono HO_185002.out (fun _ hk => ⟨hk.2.1, hk.2.2.1⟩)⟩, ⟨by (with_reducible repeat (first | refine blk_drewN ?_ _ | refine blk_drew ?_ | refine blk_alloc ?_ _)); exact BK152.out⟩, ⟨by (with_reducible repeat (first | refine blk_drewN ?_ _ | refine blk_drew ?_ | refine blk_alloc ?_ _)); exact BK168.out⟩, ⟨by (with_reducible repeat (first | refine blk_drewN ?_ _ | refine blk_drew ?_ | refine blk_alloc ?_ _)); exact BK174.out⟩, ⟨by (with_reducible repeat (first | refine blk_drewN ?_ _ | refine blk_drew ?_ | refine blk_alloc ?_ _)); exact BK184.out⟩, ⟨by repeat (first | (with_reducible first | exact HB.out | apply below_alloc | apply pw_below_drewN | apply below_drew1 | refine below_set ?_ GE152.out | refine below_set ?_ GE168.out | refine below_set ?_ GE174.out | refine below_set ?_ GE184.out) | exact HB.out)⟩⟩
          ·replace c89 := Bool.eq_false_iff.mpr c89
           subst c89
           have H1 : (laws_FnExactMatRows.j1 kj15 l1 t167 true a0_0 a0_1 l0_2 t162 t163 t164 t178 t179 t180) = some r := by rw [if_neg (show ¬ (false = true) by decide)] at H; exact H
           clear H
           have H := H1
           clear H1
           have H' := Aside0.mk H
           clear H
           have hnb98 := NB184_152.out
           have hnc98 := NB152_184.out
           have hnb99 := NB184_168.out
           have hnc99 := NB168_184.out
           have hnb100 := NB184_174.out
           have hnc100 := NB174_184.out
           have hcz101_0 : w86.cell? ⟨gb184, 0, none⟩ = some (.int .i64 t178) := (blk_cell BK184.out 0).trans rfl
           have hcz101_1 : w86.cell? ⟨gb184, 1, none⟩ = some (.int .i64 t179) := (blk_cell BK184.out 1).trans rfl
           have hcz101_2 : w86.cell? ⟨gb184, 2, none⟩ = some (.slice Ao46 t180.length co46) := (blk_cell BK184.out 2).trans rfl
           have hfz101_0 := blk_frozen BK184.out 0
           have hfz101_1 := blk_frozen BK184.out 1
           have hfz101_2 := blk_frozen BK184.out 2
           have hnb102 := NB168_152.out
           have hnc102 := NB152_168.out
           have hnb103 := NB168_174.out
           have hnc103 := NB174_168.out
           have hcz104_0 : w86.cell? ⟨gb168, 0, none⟩ = some (.int .i64 t162) := (blk_cell BK168.out 0).trans rfl
           have hcz104_1 : w86.cell? ⟨gb168, 1, none⟩ = some (.int .i64 t163) := (blk_cell BK168.out 1).trans rfl
           have hcz104_2 : w86.cell? ⟨gb168, 2, none⟩ = some (.slice Ao29 t164.length co29) := (blk_cell BK168.out 2).trans rfl
           have hfz104_0 := blk_frozen BK168.out 0
           have hfz104_1 := blk_frozen BK168.out 1
           have hfz104_2 := blk_frozen BK168.out 2
           go_wp2_with (first | (go_at_call 9; (with_reducible refine (laws_eqMatrix.calls kj15 t178 t179 _ _ t180 t162 t163 _ _ t164 false _ ?side1 ?side2 ?side3 ?side4 A88.out).mono ?_); (case side1 => repeat (first | exact (Kd.R_reads' HO_185002.out).2.2 | (with_reducible refine Kd.C_alloc ?_ _) | (with_reducible refine Kd.C_drewN ?_ _) | (with_reducible refine Kd.C_drew ?_))); (case side2 => exact (Kd.R_reads' HO_185002.out).2.1); (case side3 => repeat (first | exact (Kd.R_reads' HO_169002.out).2.2 | (with_reducible refine Kd.C_alloc ?_ _) | (with_reducible refine Kd.C_drewN ?_ _) | (with_reducible refine Kd.C_drew ?_))); (case side4 => exact (Kd.R_reads' HO_169002.out).2.1); rintro e w105 ⟨rfl, hb⟩; have n0_ := Aside0.mk (Kd.R_below (by (with_reducible repeat (first | apply Kd.R_alloc | apply Kd.R_drewN | apply Kd.R_drew)); exact HO_9.out) hb); have n1_ := Aside0.mk (Kd.R_below (by (with_reducible repeat (first | apply Kd.R_alloc | apply Kd.R_drewN | apply Kd.R_drew)); exact HO_169002.out) hb); have n2_ := Aside0.mk (Kd.R_below (by (with_reducible repeat (first | apply Kd.R_alloc | apply Kd.R_drewN | apply Kd.R_drew)); exact HO_175002.out) hb); have n3_ := Aside0.mk (Kd.R_below (by (with_reducible repeat (first | apply Kd.R_alloc | apply Kd.R_drewN | apply Kd.R_drew)); exact HO_185002.out) hb); have n4_ := Aside0.mk (Kd.R_below (by (with_reducible repeat (first | apply Kd.R_alloc | apply Kd.R_drewN | apply Kd.R_drew)); exact HO190.out) hb); have n5_ := Aside0.mk (Kd.R_below (by (with_reducible repeat (first | apply Kd.R_alloc | apply Kd.R_drewN | apply Kd.R_drew)); exact HO194.out) hb); have n6_ := Aside0.mk (blk_below (g := gb152) (o := .cells #[.int .i64 a0_0, .int .i64 a0_1, .slice A0_2 l0_2.length c0_2] 24 (0, 0)) (by (with_reducible repeat (first | refine blk_drewN ?_ _ | refine blk_drew ?_ | refine blk_alloc ?_ _)); exact BK152.out) hb); have n7_ := Aside0.mk (blk_below (g := gb168) (o := .cells #[.int .i64 t162, .int .i64 t163, .slice Ao29 t164.length co29] 26 (0, 0)) (by (with_reducible repeat (first | refine blk_drewN ?_ _ | refine blk_drew ?_ | refine blk_alloc ?_ _)); exact BK168.out) hb); have n8_ := Aside0.mk (blk_below (g := gb174) (o := .cells #[.int .i64 t169, .int .i64 t170, .slice Ao36 t171.length co36] 26 (0, 0)) (by (with_reducible repeat (first | refine blk_drewN ?_ _ | refine blk_drew ?_ | refine blk_alloc ?_ _)); exact BK174.out) hb); have n9_ := Aside0.mk (blk_below (g := gb184) (o := .cells #[.int .i64 t178, .int .i64 t179, .slice Ao46 t180.length co46] 26 (0, 0)) (by (with_reducible repeat (first | refine blk_drewN ?_ _ | refine blk_drew ?_ | refine blk_alloc ?_ _)); exact BK184.out) hb); have n10_ := Aside0.mk (below_step (by repeat (first | (with_reducible first | exact HB.out | apply below_alloc | apply pw_below_drewN | apply below_drew1 | refine below_set ?_ GE152.out | refine below_set ?_ GE168.out | refine below_set ?_ GE174.out | refine below_set ?_ GE184.out) | exact HB.out)) hb); clear HO_9; clear HO_169002; clear HO_175002; clear HO_185002; clear HO190; clear HO194; clear BK152; clear BK168; clear BK174; clear BK184; clear HB; have HO_9 := n0_; have HO_169002 := n1_; have HO_175002 := n2_; have HO_185002 := n3_; have HO190 := n4_; have HO194 := n5_; have BK152 := n6_; have BK168 := n7_; have BK174 := n8_; have BK184 := n9_; have HB := n10_; clear n0_ n1_ n2_ n3_ n4_ n5_ n6_ n7_ n8_ n9_ n10_; (try clear hb); (try clear hb2); (try clear hk); (try clear hi)))
           go_meet
           case rel => exact ⟨_, (true), (by first | rfl | (simp; done) | (simp [*]; done)), H', ⟨by have := HJ15.out; first | omega | exact Nat.le_refl _⟩, ⟨by (with_reducible repeat (first | apply Kd.R_alloc | apply Kd.R_drewN | apply Kd.R_drew)); exact Kd.R_mono HO_169002.out (fun _ hk => ⟨hk.2.1, hk.2.2.1⟩)⟩, ⟨by (with_reducible repeat (first | apply Kd.R_alloc | apply Kd.R_drewN | apply Kd.R_drew)); exact Kd.R_mono HO_175002.out (fun _ hk => ⟨hk.2.1, hk.2.2.1⟩)⟩, ⟨by (with_reducible repeat (first | apply Kd.R_alloc | apply Kd.R_drewN | apply Kd.R_drew)); exact Kd.R_mono HO_185002.out (fun _ hk => ⟨hk.2.1, hk.2.2.1⟩)⟩, ⟨by (with_reducible repeat (first | refine blk_drewN ?_ _ | refine blk_drew ?_ | refine blk_alloc ?_ _)); exact BK152.out⟩, ⟨by (with_reducible repeat (first | refine blk_drewN ?_ _ | refine blk_drew ?_ | refine blk_alloc ?_ _)); exact BK168.out⟩, ⟨by (with_reducible repeat (first | refine blk_drewN ?_ _ | refine blk_drew ?_ | refine blk_alloc ?_ _)); exact BK174.out⟩, ⟨by (with_reducible repeat (first | refine blk_drewN ?_ _ | refine blk_drew ?_ | refine blk_alloc ?_ _)); exact BK184.out⟩, ⟨by repeat (first | (with_reducible first | exact HB.out | apply below_alloc | apply pw_below_drewN | apply below_drew1 | refine below_set ?_ GE152.out | refine below_set ?_ GE168.out | refine below_set ?_ GE174.out | refine below_set ?_ GE184.out) | exact HB.out)⟩⟩
        case rest =>
         clear HC74
         try clear c1
         try clear c2
         try clear p2
         try clear c3
         try clear c3b0
         try clear c3b1
         try clear c4
         try clear c5
         try clear c6
         try clear c6b0
         try clear c7
         try clear c8
         try clear c9
         try clear c10
         try clear c11
         try clear c12
         try clear c27
         try clear c33
         try clear c34
         try clear c42
         try clear c43
         try clear c44
         try clear c48
         try clear c49
         try clear c50
         try clear c51
         try clear c53
         try clear c54
         try clear c57
         try clear c58
         try clear c59
         try clear c61
         try clear c62
         try clear c65
         try clear c68
         try clear c71
         try clear c81
         try clear c82
         try clear c83
         try clear c87
         try clear c87b0
         try clear c89
         try clear c90
         try clear c91
         try clear c92
         try clear c94
         try clear c95
         try clear c98
         try clear c99
         try clear c100
         try clear c102
         try clear c103
         try clear hcz101_0
         try clear hcz101_1
         try clear hcz101_2
         try clear hcz104_0
         try clear hcz104_1
         try clear hcz104_2
         try clear hcz18_0
         try clear hcz18_1
         try clear hcz18_2
         try clear hcz20_0
         try clear hcz20_1
         try clear hcz20_2
         try clear hcz28_0
         try clear hcz28_1
         try clear hcz28_2
         try clear hcz30_0
         try clear hcz30_1
         try clear hcz30_2
         try clear hcz35_0
         try clear hcz35_1
         try clear hcz35_2
         try clear hcz38_0
         try clear hcz38_1
         try clear hcz38_2
         try clear hcz45_0
         try clear hcz45_1
         try clear hcz45_2
         try clear hcz52_0
         try clear hcz52_1
         try clear hcz52_2
         try clear hcz55_0
         try clear hcz55_1
         try clear hcz55_2
         try clear hcz60_0
         try clear hcz60_1
         try clear hcz60_2
         try clear hcz63_0
         try clear hcz63_1
         try clear hcz63_2
         try clear hcz84_0
         try clear hcz84_1
         try clear hcz84_2
         try clear hcz8_0
         try clear hcz8_1
         try clear hcz8_2
         try clear hcz93_0
         try clear hcz93_1
         try clear hcz93_2
         try clear hcz96_0
         try clear hcz96_1
         try clear hcz96_2
         try clear hfz101_0
         try clear hfz101_1
         try clear hfz101_2
         try clear hfz104_0
         try clear hfz104_1
         try clear hfz104_2
         try clear hfz18_0
         try clear hfz18_1
         try clear hfz18_2
         try clear hfz20_0
         try clear hfz20_1
         try clear hfz20_2
         try clear hfz28_0
         try clear hfz28_1
         try clear hfz28_2
         try clear hfz30_0
         try clear hfz30_1
         try clear hfz30_2
         try clear hfz35_0
         try clear hfz35_1
         try clear hfz35_2
         try clear hfz38_0
         try clear hfz38_1
         try clear hfz38_2
         try clear hfz45_0
         try clear hfz45_1
         try clear hfz45_2
         try clear hfz52_0
         try clear hfz52_1
         try clear hfz52_2
         try clear hfz55_0
         try clear hfz55_1
         try clear hfz55_2
         try clear hfz60_0
         try clear hfz60_1
         try clear hfz60_2
         try clear hfz63_0
         try clear hfz63_1
         try clear hfz63_2
         try clear hfz84_0
         try clear hfz84_1
         try clear hfz84_2
         try clear hfz8_0
         try clear hfz8_1
         try clear hfz8_2
         try clear hfz93_0
         try clear hfz93_1
         try clear hfz93_2
         try clear hfz96_0
         try clear hfz96_1
         try clear hfz96_2
         try clear p2
         obtain ⟨kq, x80_73, rfl, HA, HJ73, HO_169002, HO_175002, HO_185002, BK152, BK168, BK174, BK184, HB⟩ := hcut
         have hl175002_73 := (Kd.R_reads' HO_175002.out).1
         rw [hl175002_73] at HO_175002
         (try simp only [hl175002_73])
         (try simp only [hl175002_73] at BK152)
         (try simp only [hl175002_73] at BK168)
         (try simp only [hl175002_73] at BK174)
         (try simp only [hl175002_73] at BK184)
         (try simp only [hl175002_73] at HO_169002)
         (try simp only [hl175002_73] at HO_185002)
         cases kq with
         | zero => exact absurd HA.out (by simp [laws_FnExactMatRows.j1])
         | succ kj73 =>
          have H := HA.out
          clear HA
          simp only [laws_FnExactMatRows.j1] at H
          by_cases c106 : x80_73 = true
          ·subst c106
           have H1 : (some false) = some r := by rw [if_pos rfl] at H; exact H
           clear H
           have H := H1
           clear H1
           obtain rfl := Option.some.inj H
           go_wp2
           go_ret
           exact ⟨by first | rfl | (simp [errW_none, errW_some] <;> rfl) | (simp [*, errW_none, errW_some] <;> rfl), by repeat (first | (with_reducible first | exact HB.out | apply below_alloc | apply pw_below_drewN | apply below_drew1 | refine below_set ?_ GE152.out | refine below_set ?_ GE168.out | refine below_set ?_ GE174.out | refine below_set ?_ GE184.out) | exact HB.out)⟩
          ·replace c106 := Bool.eq_false_iff.mpr c106
           subst c106
           have H1 : ((laws_markMatrix.f kj73 t178 t179 t180 1).bind fun bt201 => ((laws_heldMatrix.f kj73 t178 t179 bt201.2 1).bind fun t203 => (if t203 < 0 then (some false) else (if t203 = bt201.1 then ((laws_toMatrix.f kj73 a0_0 a0_1 l0_2).bind fun bt204 => ((laws_toInt64S.f kj73 l1).bind fun t209 => ((impl_MatRows.f bt204.1 bt204.2.1 bt204.2.2 t209).bind fun bt212 => ((laws_eqMatrix.f kj73 bt212.1 bt212.2.1 bt212.2.2.1 t162 t163 t164).bind fun t219 => (if t219 = true then (laws_FnExactMatRows.j2 kj73 bt201.1 (bt212.2.2.2 != t167) t178 t179 bt201.2) else (laws_FnExactMatRows.j2 kj73 bt201.1 true t178 t179 bt201.2)))))) else (some false))))) = some r := by rw [if_neg (show ¬ (false = true) by decide)] at H; exact H
           clear H
           have H := H1
           clear H1
           replace H := Option.bind_eq_some_iff.mp H
           obtain ⟨⟨t201, t202⟩, A1070, H⟩ := H
           replace H : ((laws_heldMatrix.f kj73 t178 t179 t202 1).bind fun t203 => (if t203 < 0 then (some false) else (if t203 = t201 then ((laws_toMatrix.f kj73 a0_0 a0_1 l0_2).bind fun bt204 => ((laws_toInt64S.f kj73 l1).bind fun t209 => ((impl_MatRows.f bt204.1 bt204.2.1 bt204.2.2 t209).bind fun bt212 => ((laws_eqMatrix.f kj73 bt212.1 bt212.2.1 bt212.2.2.1 t162 t163 t164).bind fun t219 => (if t219 = true then (laws_FnExactMatRows.j2 kj73 t201 (bt212.2.2.2 != t167) t178 t179 t202) else (laws_FnExactMatRows.j2 kj73 t201 true t178 t179 t202)))))) else (some false)))) = some r := H
           have A107 := Aside0.mk A1070
           clear A1070
           replace H := Option.bind_eq_some_iff.mp H
           obtain ⟨t203, A1080, H⟩ := H
           replace H : (if t203 < 0 then (some false) else (if t203 = t201 then ((laws_toMatrix.f kj73 a0_0 a0_1 l0_2).bind fun bt204 => ((laws_toInt64S.f kj73 l1).bind fun t209 => ((impl_MatRows.f bt204.1 bt204.2.1 bt204.2.2 t209).bind fun bt212 => ((laws_eqMatrix.f kj73 bt212.1 bt212.2.1 bt212.2.2.1 t162 t163 t164).bind fun t219 => (if t219 = true then (laws_FnExactMatRows.j2 kj73 t201 (bt212.2.2.2 != t167) t178 t179 t202) else (laws_FnExactMatRows.j2 kj73 t201 true t178 t179 t202)))))) else (some false))) = some r := H
           have A108 := Aside0.mk A1080
           clear A1080
           by_cases c109 : t203 < 0
           ·rw [if_pos c109] at H
            have c109b0 : decide (t203 < 0) = true := decide_eq_true c109
            clear c109
            obtain rfl := Option.some.inj H
            have hnb110 := NB184_152.out
            have hnc110 := NB152_184.out
            have hnb111 := NB184_168.out
            have hnc111 := NB168_184.out
            have hnb112 := NB184_174.out
            have hnc112 := NB174_184.out
            have hcz113_0 : wc.cell? ⟨gb184, 0, none⟩ = some (.int .i64 t178) := (blk_cell BK184.out 0).trans rfl
            have hcz113_1 : wc.cell? ⟨gb184, 1, none⟩ = some (.int .i64 t179) := (blk_cell BK184.out 1).trans rfl
            have hcz113_2 : wc.cell? ⟨gb184, 2, none⟩ = some (.slice Ao46 t180.length co46) := (blk_cell BK184.out 2).trans rfl
            have hfz113_0 := blk_frozen BK184.out 0
            have hfz113_1 := blk_frozen BK184.out 1
            have hfz113_2 := blk_frozen BK184.out 2
            go_wp2_with (first | ((with_reducible refine gate_callee (f := 11) rfl ?_); refine goesL_ (some 83) rfl rfl Try.func11 (by kernel_rfl) rfl #[.agg #[.int .i64 t178, .int .i64 t179, .slice Ao46 t180.length co46], .int .i64 1] rfl (by (try simp only [List.map_toArray, List.map_cons, List.map_nil]); first | done | rfl | (simp only [List.length_drop, List.length_take]; rfl)) ?_; (with_reducible refine (laws_markMatrix.calls kj73 t178 t179 (fun k_ => some k_ = (.slice Ao46 t180.length co46 : Value).ownBlock) (.slice Ao46 t180.length co46) t180 1 t201 t202 w _ ?side1 ?side2 A107.out).mono ?_); (case side1 => repeat (first | (with_reducible first | exact HB.out | apply below_alloc | apply pw_below_drewN | apply below_drew1 | refine below_set ?_ GE152.out | refine below_set ?_ GE168.out | refine below_set ?_ GE174.out | refine below_set ?_ GE184.out) | exact HB.out)); (case side2 => exact Kd.R_tight rfl HO_185002.out); rintro e w114 ⟨rfl, hy0, hb, hkp⟩; refine ⟨_, rfl, ?_⟩; have n0_ := Aside0.mk (Kd.R_mono (ok' := fun k_ => some k_ ≠ (.slice Ao36 t197.length co36 : Value).ownBlock ∧ some k_ ≠ (.slice Ao46 t180.length co46 : Value).ownBlock) (Kd.R_keptB (HO_169002.out) hkp (fun k_ hk_ hs_ => (hk_.2) hs_)) (fun k_ hk_ => ⟨hk_.1.1, hk_.1.2⟩)); have n1_ := Aside0.mk (Kd.R_mono (ok' := fun k_ => some k_ ≠ (.slice Ao29 t164.length co29 : Value).ownBlock ∧ some k_ ≠ (.slice Ao46 t180.length co46 : Value).ownBlock) (Kd.R_keptB (HO_175002.out) hkp (fun k_ hk_ hs_ => (hk_.2) hs_)) (fun k_ hk_ => ⟨hk_.1.1, hk_.1.2⟩)); have n2_ := Aside0.mk (Kd.R_reok rfl hy0 (fun k_ e_ => HO_185002.out.1 k_ e_)); have n3_ := Aside0.mk (blk_kept (by (with_reducible repeat (first | refine blk_drewN ?_ _ | refine blk_drew ?_ | refine blk_alloc ?_ _)); exact BK152.out) hkp (fun hs_ => (fun e_ => (Kd.R_ne HO_185002.out BK152.out (by decide)) e_) hs_)); have n4_ := Aside0.mk (blk_kept (by (with_reducible repeat (first | refine blk_drewN ?_ _ | refine blk_drew ?_ | refine blk_alloc ?_ _)); exact BK168.out) hkp (fun hs_ => (fun e_ => (Kd.R_ne HO_185002.out BK168.out (by decide)) e_) hs_)); have n5_ := Aside0.mk (blk_kept (by (with_reducible repeat (first | refine blk_drewN ?_ _ | refine blk_drew ?_ | refine blk_alloc ?_ _)); exact BK174.out) hkp (fun hs_ => (fun e_ => (Kd.R_ne HO_185002.out BK174.out (by decide)) e_) hs_)); have n6_ := Aside0.mk (blk_kept (by (with_reducible repeat (first | refine blk_drewN ?_ _ | refine blk_drew ?_ | refine blk_alloc ?_ _)); exact BK184.out) hkp (fun hs_ => (fun e_ => (Kd.R_ne HO_185002.out BK184.out (by decide)) e_) hs_)); have n7_ := Aside0.mk (hb); clear HO_169002; clear HO_175002; clear HO_185002; clear BK152; clear BK168; clear BK174; clear BK184; clear HB; have HO_169002 := n0_; have HO_175002 := n1_; have HO_185002 := n2_; have BK152 := n3_; have BK168 := n4_; have BK174 := n5_; have BK184 := n6_; have HB := n7_; clear n0_ n1_ n2_ n3_ n4_ n5_ n6_ n7_; (try clear hb); (try clear hkp); (try clear hy0); have hcz115_0 : w114.cell? ⟨gb184, 0, none⟩ = some (.int .i64 t178) := (blk_cell BK184.out 0).trans rfl; have hcz115_1 : w114.cell? ⟨gb184, 1, none⟩ = some (.int .i64 t179) := (blk_cell BK184.out 1).trans rfl; have hcz115_2 : w114.cell? ⟨gb184, 2, none⟩ = some (.slice Ao46 t180.length co46) := (blk_cell BK184.out 2).trans rfl; have hfz115_0 := blk_frozen BK184.out 0; have hfz115_1 := blk_frozen BK184.out 1; have hfz115_2 := blk_frozen BK184.out 2) | ((with_reducible refine gate_callee (f := 13) rfl ?_); refine goesL_ (some 86) rfl rfl Try.func13 (by kernel_rfl) rfl #[.agg #[.int .i64 t178, .int .i64 t179, .slice Ao46 t202.length co46], .int .i64 1] rfl (by (try simp only [List.map_toArray, List.map_cons, List.map_nil]); first | done | (rw [show t202.length = t180.length from (Kd.R_reads' HO_185002.out).1.symm] <;> rfl) | rfl | (simp only [List.length_drop, List.length_take]; rfl)) ?_; (with_reducible refine (laws_heldMatrix.calls kj73 t178 t179 _ _ t202 1 t203 _ ?side1 ?side2 A108.out).mono ?_); (case side1 => repeat (first | exact (Kd.R_reads' HO_185002.out).2.2 | (with_reducible refine Kd.C_alloc ?_ _) | (with_reducible refine Kd.C_drewN ?_ _) | (with_reducible refine Kd.C_drew ?_))); (case side2 => rw [show t202.length = t180.length from (Kd.R_reads' HO_185002.out).1.symm]; exact (Kd.R_reads' HO_185002.out).2.1); rintro e w116 ⟨rfl, hb⟩; refine ⟨_, rfl, ?_⟩; have n0_ := Aside0.mk (Kd.R_below (by (with_reducible repeat (first | apply Kd.R_alloc | apply Kd.R_drewN | apply Kd.R_drew)); exact HO_169002.out) hb); have n1_ := Aside0.mk (Kd.R_below (by (with_reducible repeat (first | apply Kd.R_alloc | apply Kd.R_drewN | apply Kd.R_drew)); exact HO_175002.out) hb); have n2_ := Aside0.mk (Kd.R_below (by (with_reducible repeat (first | apply Kd.R_alloc | apply Kd.R_drewN | apply Kd.R_drew)); exact HO_185002.out) hb); have n3_ := Aside0.mk (blk_below (g := gb152) (o := .cells #[.int .i64 a0_0, .int .i64 a0_1, .slice A0_2 l0_2.length c0_2] 24 (0, 0)) (by (with_reducible repeat (first | refine blk_drewN ?_ _ | refine blk_drew ?_ | refine blk_alloc ?_ _)); exact BK152.out) hb); have n4_ := Aside0.mk (blk_below (g := gb168) (o := .cells #[.int .i64 t162, .int .i64 t163, .slice Ao29 t164.length co29] 26 (0, 0)) (by (with_reducible repeat (first | refine blk_drewN ?_ _ | refine blk_drew ?_ | refine blk_alloc ?_ _)); exact BK168.out) hb); have n5_ := Aside0.mk (blk_below (g := gb174) (o := .cells #[.int .i64 t169, .int .i64 t170, .slice Ao36 t197.length co36] 26 (0, 0)) (by (with_reducible repeat (first | refine blk_drewN ?_ _ | refine blk_drew ?_ | refine blk_alloc ?_ _)); exact BK174.out) hb); have n6_ := Aside0.mk (blk_below (g := gb184) (o := .cells #[.int .i64 t178, .int .i64 t179, .slice Ao46 t180.length co46] 26 (0, 0)) (by (with_reducible repeat (first | refine blk_drewN ?_ _ | refine blk_drew ?_ | refine blk_alloc ?_ _)); exact BK184.out) hb); have n7_ := Aside0.mk (below_step (by repeat (first | (with_reducible first | exact HB.out | apply below_alloc | apply pw_below_drewN | apply below_drew1 | refine below_set ?_ GE152.out | refine below_set ?_ GE168.out | refine below_set ?_ GE174.out | refine below_set ?_ GE184.out) | exact HB.out)) hb); clear HO_169002; clear HO_175002; clear HO_185002; clear BK152; clear BK168; clear BK174; clear BK184; clear HB; have HO_169002 := n0_; have HO_175002 := n1_; have HO_185002 := n2_; have BK152 := n3_; have BK168 := n4_; have BK174 := n5_; have BK184 := n6_; have HB := n7_; clear n0_ n1_ n2_ n3_ n4_ n5_ n6_ n7_; (try clear hb); (try clear hb2); (try clear hk); (try clear hi)))
            go_ret
            exact ⟨by first | rfl | (simp [errW_none, errW_some] <;> rfl) | (simp [*, errW_none, errW_some] <;> rfl), by repeat (first | (with_reducible first | exact HB.out | apply below_alloc | apply pw_below_drewN | apply below_drew1 | refine below_set ?_ GE152.out | refine below_set ?_ GE168.out | refine below_set ?_ GE174.out | refine below_set ?_ GE184.out) | exact HB.out)⟩
           ·rw [if_neg c109] at H
            have c109b0 : decide (t203 < 0) = false := decide_eq_false c109
            clear c109
            by_cases c117 : t203 = t201
            ·rw [if_pos c117] at H
             have c117b0 : (t203 == t201) = true := beq_iff_eq.mpr c117
             have c117b1 : (t203 != t201) = false := bne_eq_false_iff_eq.mpr c117
             clear c117
             replace H := Option.bind_eq_some_iff.mp H
             obtain ⟨⟨t204, t205, t206⟩, A1180, H⟩ := H
             replace H : ((laws_toInt64S.f kj73 l1).bind fun t209 => ((impl_MatRows.f t204 t205 t206 t209).bind fun bt212 => ((laws_eqMatrix.f kj73 bt212.1 bt212.2.1 bt212.2.2.1 t162 t163 t164).bind fun t219 => (if t219 = true then (laws_FnExactMatRows.j2 kj73 t201 (bt212.2.2.2 != t167) t178 t179 t202) else (laws_FnExactMatRows.j2 kj73 t201 true t178 t179 t202))))) = some r := H
             have A118 := Aside0.mk A1180
             clear A1180
             replace H := Option.bind_eq_some_iff.mp H
             obtain ⟨t209, A1190, H⟩ := H
             replace H : ((impl_MatRows.f t204 t205 t206 t209).bind fun bt212 => ((laws_eqMatrix.f kj73 bt212.1 bt212.2.1 bt212.2.2.1 t162 t163 t164).bind fun t219 => (if t219 = true then (laws_FnExactMatRows.j2 kj73 t201 (bt212.2.2.2 != t167) t178 t179 t202) else (laws_FnExactMatRows.j2 kj73 t201 true t178 t179 t202)))) = some r := H
             have A119 := Aside0.mk A1190
             clear A1190
             replace H := Option.bind_eq_some_iff.mp H
             obtain ⟨⟨t212, t213, t214, t217⟩, A1200, H⟩ := H
             replace H : ((laws_eqMatrix.f kj73 t212 t213 t214 t162 t163 t164).bind fun t219 => (if t219 = true then (laws_FnExactMatRows.j2 kj73 t201 (t217 != t167) t178 t179 t202) else (laws_FnExactMatRows.j2 kj73 t201 true t178 t179 t202))) = some r := H
             have A120 := Aside0.mk A1200
             clear A1200
             have HC121 := Aside0.mk H
             clear H
             have hnb122 := NB184_152.out
             have hnc122 := NB152_184.out
             have hnb123 := NB184_168.out
             have hnc123 := NB168_184.out
             have hnb124 := NB184_174.out
             have hnc124 := NB174_184.out
             have hcz125_0 : wc.cell? ⟨gb184, 0, none⟩ = some (.int .i64 t178) := (blk_cell BK184.out 0).trans rfl
             have hcz125_1 : wc.cell? ⟨gb184, 1, none⟩ = some (.int .i64 t179) := (blk_cell BK184.out 1).trans rfl
             have hcz125_2 : wc.cell? ⟨gb184, 2, none⟩ = some (.slice Ao46 t180.length co46) := (blk_cell BK184.out 2).trans rfl
             have hfz125_0 := blk_frozen BK184.out 0
             have hfz125_1 := blk_frozen BK184.out 1
             have hfz125_2 := blk_frozen BK184.out 2
             go_upto_region 31 with (first | ((with_reducible refine gate_callee (f := 11) rfl ?_); refine goesL_ (some 83) rfl rfl Try.func11 (by kernel_rfl) rfl #[.agg #[.int .i64 t178, .int .i64 t179, .slice Ao46 t180.length co46], .int .i64 1] rfl (by (try simp only [List.map_toArray, List.map_cons, List.map_nil]); first | done | rfl | (simp only [List.length_drop, List.length_take]; rfl)) ?_; (with_reducible refine (laws_markMatrix.calls kj73 t178 t179 (fun k_ => some k_ = (.slice Ao46 t180.length co46 : Value).ownBlock) (.slice Ao46 t180.length co46) t180 1 t201 t202 w _ ?side1 ?side2 A107.out).mono ?_); (case side1 => repeat (first | (with_reducible first | exact HB.out | apply below_alloc | apply pw_below_drewN | apply below_drew1 | refine below_set ?_ GE152.out | refine below_set ?_ GE168.out | refine below_set ?_ GE174.out | refine below_set ?_ GE184.out) | exact HB.out)); (case side2 => exact Kd.R_tight rfl HO_185002.out); rintro e w126 ⟨rfl, hy0, hb, hkp⟩; refine ⟨_, rfl, ?_⟩; have n0_ := Aside0.mk (Kd.R_mono (ok' := fun k_ => some k_ ≠ (.slice Ao36 t197.length co36 : Value).ownBlock ∧ some k_ ≠ (.slice Ao46 t180.length co46 : Value).ownBlock) (Kd.R_keptB (HO_169002.out) hkp (fun k_ hk_ hs_ => (hk_.2) hs_)) (fun k_ hk_ => ⟨hk_.1.1, hk_.1.2⟩)); have n1_ := Aside0.mk (Kd.R_mono (ok' := fun k_ => some k_ ≠ (.slice Ao29 t164.length co29 : Value).ownBlock ∧ some k_ ≠ (.slice Ao46 t180.length co46 : Value).ownBlock) (Kd.R_keptB (HO_175002.out) hkp (fun k_ hk_ hs_ => (hk_.2) hs_)) (fun k_ hk_ => ⟨hk_.1.1, hk_.1.2⟩)); have n2_ := Aside0.mk (Kd.R_reok rfl hy0 (fun k_ e_ => HO_185002.out.1 k_ e_)); have n3_ := Aside0.mk (blk_kept (by (with_reducible repeat (first | refine blk_drewN ?_ _ | refine blk_drew ?_ | refine blk_alloc ?_ _)); exact BK152.out) hkp (fun hs_ => (fun e_ => (Kd.R_ne HO_185002.out BK152.out (by decide)) e_) hs_)); have n4_ := Aside0.mk (blk_kept (by (with_reducible repeat (first | refine blk_drewN ?_ _ | refine blk_drew ?_ | refine blk_alloc ?_ _)); exact BK168.out) hkp (fun hs_ => (fun e_ => (Kd.R_ne HO_185002.out BK168.out (by decide)) e_) hs_)); have n5_ := Aside0.mk (blk_kept (by (with_reducible repeat (first | refine blk_drewN ?_ _ | refine blk_drew ?_ | refine blk_alloc ?_ _)); exact BK174.out) hkp (fun hs_ => (fun e_ => (Kd.R_ne HO_185002.out BK174.out (by decide)) e_) hs_)); have n6_ := Aside0.mk (blk_kept (by (with_reducible repeat (first | refine blk_drewN ?_ _ | refine blk_drew ?_ | refine blk_alloc ?_ _)); exact BK184.out) hkp (fun hs_ => (fun e_ => (Kd.R_ne HO_185002.out BK184.out (by decide)) e_) hs_)); have n7_ := Aside0.mk (hb); clear HO_169002; clear HO_175002; clear HO_185002; clear BK152; clear BK168; clear BK174; clear BK184; clear HB; have HO_169002 := n0_; have HO_175002 := n1_; have HO_185002 := n2_; have BK152 := n3_; have BK168 := n4_; have BK174 := n5_; have BK184 := n6_; have HB := n7_; clear n0_ n1_ n2_ n3_ n4_ n5_ n6_ n7_; (try clear hb); (try clear hkp); (try clear hy0); have hcz127_0 : w126.cell? ⟨gb184, 0, none⟩ = some (.int .i64 t178) := (blk_cell BK184.out 0).trans rfl; have hcz127_1 : w126.cell? ⟨gb184, 1, none⟩ = some (.int .i64 t179) := (blk_cell BK184.out 1).trans rfl; have hcz127_2 : w126.cell? ⟨gb184, 2, none⟩ = some (.slice Ao46 t180.length co46) := (blk_cell BK184.out 2).trans rfl; have hfz127_0 := blk_frozen BK184.out 0; have hfz127_1 := blk_frozen BK184.out 1; have hfz127_2 := blk_frozen BK184.out 2) | ((with_reducible refine gate_callee (f := 13) rfl ?_); refine goesL_ (some 86) rfl rfl Try.func13 (by kernel_rfl) rfl #[.agg #[.int .i64 t178, .int .i64 t179, .slice Ao46 t202.length co46], .int .i64 1] rfl (by (try simp only [List.map_toArray, List.map_cons, List.map_nil]); first | done | (rw [show t202.length = t180.length from (Kd.R_reads' HO_185002.out).1.symm] <;> rfl) | rfl | (simp only [List.length_drop, List.length_take]; rfl)) ?_; (with_reducible refine (laws_heldMatrix.calls kj73 t178 t179 _ _ t202 1 t203 _ ?side1 ?side2 A108.out).mono ?_); (case side1 => repeat (first | exact (Kd.R_reads' HO_185002.out).2.2 | (with_reducible refine Kd.C_alloc ?_ _) | (with_reducible refine Kd.C_drewN ?_ _) | (with_reducible refine Kd.C_drew ?_))); (case side2 => rw [show t202.length = t180.length from (Kd.R_reads' HO_185002.out).1.symm]; exact (Kd.R_reads' HO_185002.out).2.1); rintro e w128 ⟨rfl, hb⟩; refine ⟨_, rfl, ?_⟩; have n0_ := Aside0.mk (Kd.R_below (by (with_reducible repeat (first | apply Kd.R_alloc | apply Kd.R_drewN | apply Kd.R_drew)); exact HO_169002.out) hb); have n1_ := Aside0.mk (Kd.R_below (by (with_reducible repeat (first | apply Kd.R_alloc | apply Kd.R_drewN | apply Kd.R_drew)); exact HO_175002.out) hb); have n2_ := Aside0.mk (Kd.R_below (by (with_reducible repeat (first | apply Kd.R_alloc | apply Kd.R_drewN | apply Kd.R_drew)); exact HO_185002.out) hb); have n3_ := Aside0.mk (blk_below (g := gb152) (o := .cells #[.int .i64 a0_0, .int .i64 a0_1, .slice A0_2 l0_2.length c0_2] 24 (0, 0)) (by (with_reducible repeat (first | refine blk_drewN ?_ _ | refine blk_drew ?_ | refine blk_alloc ?_ _)); exact BK152.out) hb); have n4_ := Aside0.mk (blk_below (g := gb168) (o := .cells #[.int .i64 t162, .int .i64 t163, .slice Ao29 t164.length co29] 26 (0, 0)) (by (with_reducible repeat (first | refine blk_drewN ?_ _ | refine blk_drew ?_ | refine blk_alloc ?_ _)); exact BK168.out) hb); have n5_ := Aside0.mk (blk_below (g := gb174) (o := .cells #[.int .i64 t169, .int .i64 t170, .slice Ao36 t197.length co36] 26 (0, 0)) (by (with_reducible repeat (first | refine blk_drewN ?_ _ | refine blk_drew ?_ | refine blk_alloc ?_ _)); exact BK174.out) hb); have n6_ := Aside0.mk (blk_below (g := gb184) (o := .cells #[.int .i64 t178, .int .i64 t179, .slice Ao46 t180.length co46] 26 (0, 0)) (by (with_reducible repeat (first | refine blk_drewN ?_ _ | refine blk_drew ?_ | refine blk_alloc ?_ _)); exact BK184.out) hb); have n7_ := Aside0.mk (below_step (by repeat (first | (with_reducible first | exact HB.out | apply below_alloc | apply pw_below_drewN | apply below_drew1 | refine below_set ?_ GE152.out | refine below_set ?_ GE168.out | refine below_set ?_ GE174.out | refine below_set ?_ GE184.out) | exact HB.out)) hb); clear HO_169002; clear HO_175002; clear HO_185002; clear BK152; clear BK168; clear BK174; clear BK184; clear HB; have HO_169002 := n0_; have HO_175002 := n1_; have HO_185002 := n2_; have BK152 := n3_; have BK168 := n4_; have BK174 := n5_; have BK184 := n6_; have HB := n7_; clear n0_ n1_ n2_ n3_ n4_ n5_ n6_ n7_; (try clear hb); (try clear hb2); (try clear hk); (try clear hi); have hnb129 := NB152_168.out; have hnc129 := NB168_152.out; have hnb130 := NB152_174.out; have hnc130 := NB174_152.out; have hcz131_0 : w128.cell? ⟨gb152, 0, none⟩ = some (.int .i64 a0_0) := (blk_cell BK152.out 0).trans rfl; have hcz131_1 : w128.cell? ⟨gb152, 1, none⟩ = some (.int .i64 a0_1) := (blk_cell BK152.out 1).trans rfl; have hcz131_2 : w128.cell? ⟨gb152, 2, none⟩ = some (.slice A0_2 l0_2.length c0_2) := (blk_cell BK152.out 2).trans rfl; have hfz131_0 := blk_frozen BK152.out 0; have hfz131_1 := blk_frozen BK152.out 1; have hfz131_2 := blk_frozen BK152.out 2) | ((with_reducible refine gate_callee (f := 6) rfl ?_); refine goesL_ (some 94) rfl rfl Try.func6 (by kernel_rfl) rfl #[.agg #[.int .i64 a0_0, .int .i64 a0_1, .slice A0_2 l0_2.length c0_2]] rfl (by (try simp only [List.map_toArray, List.map_cons, List.map_nil]); first | done | rfl | (simp only [List.length_drop, List.length_take]; rfl)) ?_; (with_reducible refine (laws_toMatrix.calls kj73 a0_0 a0_1 _ _ l0_2 t204 t205 t206 _ ?side1 ?side2 A118.out).mono ?_); (case side1 => repeat (first | exact (Kd.C_below HR0_2.out HB.out) | (with_reducible refine Kd.C_alloc ?_ _) | (with_reducible refine Kd.C_drewN ?_ _) | (with_reducible refine Kd.C_drew ?_))); (case side2 => exact HC0_2.out); rintro e w132 ⟨v207, rfl, ho0, hb⟩; refine ⟨_, rfl, ?_⟩; have n0_ := Aside0.mk (Kd.R_elder' (by (with_reducible repeat (first | apply Kd.R_alloc | apply Kd.R_drewN | apply Kd.R_drew)); exact HO_169002.out) (Kd.R_base ho0) hb); have n1_ := Aside0.mk (Kd.R_elder' (by (with_reducible repeat (first | apply Kd.R_alloc | apply Kd.R_drewN | apply Kd.R_drew)); exact HO_175002.out) (Kd.R_base ho0) hb); have n2_ := Aside0.mk (Kd.R_elder' (by (with_reducible repeat (first | apply Kd.R_alloc | apply Kd.R_drewN | apply Kd.R_drew)); exact HO_185002.out) (Kd.R_base ho0) hb); have n3_ := Aside0.mk (Kd.R_lower (Kd.R_new' (Kd.R_new' (Kd.R_new' ho0 (Kd.R_lt (by (with_reducible repeat (first | apply Kd.R_alloc | apply Kd.R_drewN | apply Kd.R_drew)); exact HO_169002.out))) (Kd.R_lt (by (with_reducible repeat (first | apply Kd.R_alloc | apply Kd.R_drewN | apply Kd.R_drew)); exact HO_175002.out))) (Kd.R_lt (by (with_reducible repeat (first | apply Kd.R_alloc | apply Kd.R_drewN | apply Kd.R_drew)); exact HO_185002.out))) (below_size (by repeat (first | (with_reducible first | exact HB.out | apply below_alloc | apply pw_below_drewN | apply below_drew1 | refine below_set ?_ GE152.out | refine below_set ?_ GE168.out | refine below_set ?_ GE174.out | refine below_set ?_ GE184.out) | exact HB.out)))); have n4_ := Aside0.mk (blk_below (g := gb152) (o := .cells #[.int .i64 a0_0, .int .i64 a0_1, .slice A0_2 l0_2.length c0_2] 24 (0, 0)) (by (with_reducible repeat (first | refine blk_drewN ?_ _ | refine blk_drew ?_ | refine blk_alloc ?_ _)); exact BK152.out) hb); have n5_ := Aside0.mk (blk_below (g := gb168) (o := .cells #[.int .i64 t162, .int .i64 t163, .slice Ao29 t164.length co29] 26 (0, 0)) (by (with_reducible repeat (first | refine blk_drewN ?_ _ | refine blk_drew ?_ | refine blk_alloc ?_ _)); exact BK168.out) hb); have n6_ := Aside0.mk (blk_below (g := gb174) (o := .cells #[.int .i64 t169, .int .i64 t170, .slice Ao36 t197.length co36] 26 (0, 0)) (by (with_reducible repeat (first | refine blk_drewN ?_ _ | refine blk_drew ?_ | refine blk_alloc ?_ _)); exact BK174.out) hb); have n7_ := Aside0.mk (blk_below (g := gb184) (o := .cells #[.int .i64 t178, .int .i64 t179, .slice Ao46 t180.length co46] 26 (0, 0)) (by (with_reducible repeat (first | refine blk_drewN ?_ _ | refine blk_drew ?_ | refine blk_alloc ?_ _)); exact BK184.out) hb); have n8_ := Aside0.mk (below_step (by repeat (first | (with_reducible first | exact HB.out | apply below_alloc | apply pw_below_drewN | apply below_drew1 | refine below_set ?_ GE152.out | refine below_set ?_ GE168.out | refine below_set ?_ GE174.out | refine below_set ?_ GE184.out) | exact HB.out)) hb); clear HO_169002; clear HO_175002; clear HO_185002; clear BK152; clear BK168; clear BK174; clear BK184; clear HB; have HO_169002 := n0_; have HO_175002 := n1_; have HO_185002 := n2_; have HO208 := n3_; have BK152 := n4_; have BK168 := n5_; have BK174 := n6_; have BK184 := n7_; have HB := n8_; clear n0_ n1_ n2_ n3_ n4_ n5_ n6_ n7_ n8_; (try clear hb); (try clear hb2); (try clear hk); (try clear hi); (try clear ho0)) | ((with_reducible refine gate_callee (f := 7) rfl ?_); refine goesL_ (some 96) rfl rfl Try.func7 (by kernel_rfl) rfl #[.slice A1 l1.length c1] rfl (by (try simp only [List.map_toArray, List.map_cons, List.map_nil]); first | done | rfl | (simp only [List.length_drop, List.length_take]; rfl)) ?_; (with_reducible refine (laws_toInt64S.calls kj73 _ _ l1 t209 _ ?side1 ?side2 A119.out).mono ?_); (case side1 => repeat (first | exact (Kd.C_below HR1.out HB.out) | (with_reducible refine Kd.C_alloc ?_ _) | (with_reducible refine Kd.C_drewN ?_ _) | (with_reducible refine Kd.C_drew ?_))); (case side2 => exact HC1.out); rintro e w133 ⟨v210, rfl, ho0, hb⟩; refine ⟨_, rfl, ?_⟩; have n0_ := Aside0.mk (Kd.R_elder' (by (with_reducible repeat (first | apply Kd.R_alloc | apply Kd.R_drewN | apply Kd.R_drew)); exact HO_169002.out) (Kd.R_base ho0) hb); have n1_ := Aside0.mk (Kd.R_elder' (by (with_reducible repeat (first | apply Kd.R_alloc | apply Kd.R_drewN | apply Kd.R_drew)); exact HO_175002.out) (Kd.R_base ho0) hb); have n2_ := Aside0.mk (Kd.R_elder' (by (with_reducible repeat (first | apply Kd.R_alloc | apply Kd.R_drewN | apply Kd.R_drew)); exact HO_185002.out) (Kd.R_base ho0) hb); have n3_ := Aside0.mk (Kd.R_elder' (by (with_reducible repeat (first | apply Kd.R_alloc | apply Kd.R_drewN | apply Kd.R_drew)); exact HO208.out) (Kd.R_base ho0) hb); have n4_ := Aside0.mk (Kd.R_lower (Kd.R_new' (Kd.R_new' (Kd.R_new' (Kd.R_new' ho0 (Kd.R_lt (by (with_reducible repeat (first | apply Kd.R_alloc | apply Kd.R_drewN | apply Kd.R_drew)); exact HO_169002.out))) (Kd.R_lt (by (with_reducible repeat (first | apply Kd.R_alloc | apply Kd.R_drewN | apply Kd.R_drew)); exact HO_175002.out))) (Kd.R_lt (by (with_reducible repeat (first | apply Kd.R_alloc | apply Kd.R_drewN | apply Kd.R_drew)); exact HO_185002.out))) (Kd.R_lt (by (with_reducible repeat (first | apply Kd.R_alloc | apply Kd.R_drewN | apply Kd.R_drew)); exact HO208.out))) (below_size (by repeat (first | (with_reducible first | exact HB.out | apply below_alloc | apply pw_below_drewN | apply below_drew1 | refine below_set ?_ GE152.out | refine below_set ?_ GE168.out | refine below_set ?_ GE174.out | refine below_set ?_ GE184.out) | exact HB.out)))); have n5_ := Aside0.mk (blk_below (g := gb152) (o := .cells #[.int .i64 a0_0, .int .i64 a0_1, .slice A0_2 l0_2.length c0_2] 24 (0, 0)) (by (with_reducible repeat (first | refine blk_drewN ?_ _ | refine blk_drew ?_ | refine blk_alloc ?_ _)); exact BK152.out) hb); have n6_ := Aside0.mk (blk_below (g := gb168) (o := .cells #[.int .i64 t162, .int .i64 t163, .slice Ao29 t164.length co29] 26 (0, 0)) (by (with_reducible repeat (first | refine blk_drewN ?_ _ | refine blk_drew ?_ | refine blk_alloc ?_ _)); exact BK168.out) hb); have n7_ := Aside0.mk (blk_below (g := gb174) (o := .cells #[.int .i64 t169, .int .i64 t170, .slice Ao36 t197.length co36] 26 (0, 0)) (by (with_reducible repeat (first | refine blk_drewN ?_ _ | refine blk_drew ?_ | refine blk_alloc ?_ _)); exact BK174.out) hb); have n8_ := Aside0.mk (blk_below (g := gb184) (o := .cells #[.int .i64 t178, .int .i64 t179, .slice Ao46 t180.length co46] 26 (0, 0)) (by (with_reducible repeat (first | refine blk_drewN ?_ _ | refine blk_drew ?_ | refine blk_alloc ?_ _)); exact BK184.out) hb); have n9_ := Aside0.mk (below_step (by repeat (first | (with_reducible first | exact HB.out | apply below_alloc | apply pw_below_drewN | apply below_drew1 | refine below_set ?_ GE152.out | refine below_set ?_ GE168.out | refine below_set ?_ GE174.out | refine below_set ?_ GE184.out) | exact HB.out)) hb); clear HO_169002; clear HO_175002; clear HO_185002; clear HO208; clear BK152; clear BK168; clear BK174; clear BK184; clear HB; have HO_169002 := n0_; have HO_175002 := n1_; have HO_185002 := n2_; have HO208 := n3_; have HO211 := n4_; have BK152 := n5_; have BK168 := n6_; have BK174 := n7_; have BK184 := n8_; have HB := n9_; clear n0_ n1_ n2_ n3_ n4_ n5_ n6_ n7_ n8_ n9_; (try clear hb); (try clear hb2); (try clear hk); (try clear hi); (try clear ho0); obtain ⟨Ao134, co134, eo134⟩ := Kd.R_slice HO208.out; subst eo134; obtain ⟨Ao135, co135, eo135⟩ := Kd.R_slice HO211.out; subst eo135) | ((with_reducible refine gate_callee (f := 8) rfl ?_); refine goesL_ (some 97) rfl rfl Try.func8 (by kernel_rfl) rfl #[.agg #[.int .i64 t204, .int .i64 t205, .slice Ao134 t206.length co134], .slice Ao135 t209.length co135] rfl (by (try simp only [List.map_toArray, List.map_cons, List.map_nil]); first | done | rfl | (simp only [List.length_drop, List.length_take]; rfl)) ?_; (with_reducible refine (impl_MatRows.calls t204 t205 _ _ t206 _ _ t209 t212 t213 t214 t217 _ ?side1 ?side2 ?side3 ?side4 A120.out).mono ?_); (case side1 => repeat (first | exact (Kd.R_reads' HO208.out).2.2 | (with_reducible refine Kd.C_alloc ?_ _) | (with_reducible refine Kd.C_drewN ?_ _) | (with_reducible refine Kd.C_drew ?_))); (case side2 => exact (Kd.R_reads' HO208.out).2.1); (case side3 => repeat (first | exact (Kd.R_reads' HO211.out).2.2 | (with_reducible refine Kd.C_alloc ?_ _) | (with_reducible refine Kd.C_drewN ?_ _) | (with_reducible refine Kd.C_drew ?_))); (case side4 => exact (Kd.R_reads' HO211.out).2.1); rintro e w136 ⟨v215, rfl, ho0, hb⟩; refine ⟨_, rfl, ?_⟩; have n0_ := Aside0.mk (Kd.R_elder' (by (with_reducible repeat (first | apply Kd.R_alloc | apply Kd.R_drewN | apply Kd.R_drew)); exact HO_169002.out) (Kd.R_base ho0) hb); have n1_ := Aside0.mk (Kd.R_elder' (by (with_reducible repeat (first | apply Kd.R_alloc | apply Kd.R_drewN | apply Kd.R_drew)); exact HO_175002.out) (Kd.R_base ho0) hb); have n2_ := Aside0.mk (Kd.R_elder' (by (with_reducible repeat (first | apply Kd.R_alloc | apply Kd.R_drewN | apply Kd.R_drew)); exact HO_185002.out) (Kd.R_base ho0) hb); have n3_ := Aside0.mk (Kd.R_elder' (by (with_reducible repeat (first | apply Kd.R_alloc | apply Kd.R_drewN | apply Kd.R_drew)); exact HO208.out) (Kd.R_base ho0) hb); have n4_ := Aside0.mk (Kd.R_elder' (by (with_reducible repeat (first | apply Kd.R_alloc | apply Kd.R_drewN | apply Kd.R_drew)); exact HO211.out) (Kd.R_base ho0) hb); have n5_ := Aside0.mk (Kd.R_lower (Kd.R_new' (Kd.R_new' (Kd.R_new' (Kd.R_new' (Kd.R_new' ho0 (Kd.R_lt (by (with_reducible repeat (first | apply Kd.R_alloc | apply Kd.R_drewN | apply Kd.R_drew)); exact HO_169002.out))) (Kd.R_lt (by (with_reducible repeat (first | apply Kd.R_alloc | apply Kd.R_drewN | apply Kd.R_drew)); exact HO_175002.out))) (Kd.R_lt (by (with_reducible repeat (first | apply Kd.R_alloc | apply Kd.R_drewN | apply Kd.R_drew)); exact HO_185002.out))) (Kd.R_lt (by (with_reducible repeat (first | apply Kd.R_alloc | apply Kd.R_drewN | apply Kd.R_drew)); exact HO208.out))) (Kd.R_lt (by (with_reducible repeat (first | apply Kd.R_alloc | apply Kd.R_drewN | apply Kd.R_drew)); exact HO211.out))) (below_size (by repeat (first | (with_reducible first | exact HB.out | apply below_alloc | apply pw_below_drewN | apply below_drew1 | refine below_set ?_ GE152.out | refine below_set ?_ GE168.out | refine below_set ?_ GE174.out | refine below_set ?_ GE184.out) | exact HB.out)))); have n6_ := Aside0.mk (blk_below (g := gb152) (o := .cells #[.int .i64 a0_0, .int .i64 a0_1, .slice A0_2 l0_2.length c0_2] 24 (0, 0)) (by (with_reducible repeat (first | refine blk_drewN ?_ _ | refine blk_drew ?_ | refine blk_alloc ?_ _)); exact BK152.out) hb); have n7_ := Aside0.mk (blk_below (g := gb168) (o := .cells #[.int .i64 t162, .int .i64 t163, .slice Ao29 t164.length co29] 26 (0, 0)) (by (with_reducible repeat (first | refine blk_drewN ?_ _ | refine blk_drew ?_ | refine blk_alloc ?_ _)); exact BK168.out) hb); have n8_ := Aside0.mk (blk_below (g := gb174) (o := .cells #[.int .i64 t169, .int .i64 t170, .slice Ao36 t197.length co36] 26 (0, 0)) (by (with_reducible repeat (first | refine blk_drewN ?_ _ | refine blk_drew ?_ | refine blk_alloc ?_ _)); exact BK174.out) hb); have n9_ := Aside0.mk (blk_below (g := gb184) (o := .cells #[.int .i64 t178, .int .i64 t179, .slice Ao46 t180.length co46] 26 (0, 0)) (by (with_reducible repeat (first | refine blk_drewN ?_ _ | refine blk_drew ?_ | refine blk_alloc ?_ _)); exact BK184.out) hb); have n10_ := Aside0.mk (below_step (by repeat (first | (with_reducible first | exact HB.out | apply below_alloc | apply pw_below_drewN | apply below_drew1 | refine below_set ?_ GE152.out | refine below_set ?_ GE168.out | refine below_set ?_ GE174.out | refine below_set ?_ GE184.out) | exact HB.out)) hb); clear HO_169002; clear HO_175002; clear HO_185002; clear HO208; clear HO211; clear BK152; clear BK168; clear BK174; clear BK184; clear HB; have HO_169002 := n0_; have HO_175002 := n1_; have HO_185002 := n2_; have HO208 := n3_; have HO211 := n4_; have HO216 := n5_; have BK152 := n6_; have BK168 := n7_; have BK174 := n8_; have BK184 := n9_; have HB := n10_; clear n0_ n1_ n2_ n3_ n4_ n5_ n6_ n7_ n8_ n9_ n10_; (try clear hb); (try clear hb2); (try clear hk); (try clear hi); (try clear ho0)) | ((with_reducible refine gate_dst (N := 15) rfl ?_); refine box_event ?hg (N := 15) ?hd (cs := #[.int .i64 0, .int .i64 0, .slice none 0 0]) (t := 26) ?hr ?_; (case hd => rfl); (case hg => rfl); (case hr => first | (go_simp; done) | (go_simp; rfl)); intro gb218 hg w137 hbox hb; have n0_ := Aside0.mk (Kd.R_below (by (with_reducible repeat (first | apply Kd.R_alloc | apply Kd.R_drewN | apply Kd.R_drew)); exact HO_169002.out) hb); have n1_ := Aside0.mk (Kd.R_below (by (with_reducible repeat (first | apply Kd.R_alloc | apply Kd.R_drewN | apply Kd.R_drew)); exact HO_175002.out) hb); have n2_ := Aside0.mk (Kd.R_below (by (with_reducible repeat (first | apply Kd.R_alloc | apply Kd.R_drewN | apply Kd.R_drew)); exact HO_185002.out) hb); have n3_ := Aside0.mk (Kd.R_below (by (with_reducible repeat (first | apply Kd.R_alloc | apply Kd.R_drewN | apply Kd.R_drew)); exact HO208.out) hb); have n4_ := Aside0.mk (Kd.R_below (by (with_reducible repeat (first | apply Kd.R_alloc | apply Kd.R_drewN | apply Kd.R_drew)); exact HO211.out) hb); have n5_ := Aside0.mk (Kd.R_below (by (with_reducible repeat (first | apply Kd.R_alloc | apply Kd.R_drewN | apply Kd.R_drew)); exact HO216.out) hb); have n6_ := Aside0.mk (blk_below (g := gb152) (o := .cells #[.int .i64 a0_0, .int .i64 a0_1, .slice A0_2 l0_2.length c0_2] 24 (0, 0)) (by (with_reducible repeat (first | refine blk_drewN ?_ _ | refine blk_drew ?_ | refine blk_alloc ?_ _)); exact BK152.out) hb); have n7_ := Aside0.mk (blk_below (g := gb168) (o := .cells #[.int .i64 t162, .int .i64 t163, .slice Ao29 t164.length co29] 26 (0, 0)) (by (with_reducible repeat (first | refine blk_drewN ?_ _ | refine blk_drew ?_ | refine blk_alloc ?_ _)); exact BK168.out) hb); have n8_ := Aside0.mk (blk_below (g := gb174) (o := .cells #[.int .i64 t169, .int .i64 t170, .slice Ao36 t197.length co36] 26 (0, 0)) (by (with_reducible repeat (first | refine blk_drewN ?_ _ | refine blk_drew ?_ | refine blk_alloc ?_ _)); exact BK174.out) hb); have n9_ := Aside0.mk (blk_below (g := gb184) (o := .cells #[.int .i64 t178, .int .i64 t179, .slice Ao46 t180.length co46] 26 (0, 0)) (by (with_reducible repeat (first | refine blk_drewN ?_ _ | refine blk_drew ?_ | refine blk_alloc ?_ _)); exact BK184.out) hb); have n10_ := Aside0.mk (below_step (by repeat (first | (with_reducible first | exact HB.out | apply below_alloc | apply pw_below_drewN | apply below_drew1 | refine below_set ?_ GE152.out | refine below_set ?_ GE168.out | refine below_set ?_ GE174.out | refine below_set ?_ GE184.out) | exact HB.out)) hb); have n11_ := Aside0.mk (hbox); have n12_ := Aside0.mk ((by rw [hg]; exact (below_size (by repeat (first | (with_reducible first | exact HB.out | apply below_alloc | apply pw_below_drewN | apply below_drew1 | refine below_set ?_ GE152.out | refine below_set ?_ GE168.out | refine below_set ?_ GE174.out | refine below_set ?_ GE184.out) | exact HB.out))) : w.heap.size ≤ gb218)); have n13_ := Aside0.mk ((by rw [hg]; exact (below_size (by repeat (first | (with_reducible first | exact HB.out | apply below_alloc | apply pw_below_drewN | apply below_drew1 | refine below_set ?_ GE152.out | refine below_set ?_ GE168.out | refine below_set ?_ GE174.out | refine below_set ?_ GE184.out) | exact HB.out))) : w.heap.size ≤ gb218)); have n14_ := Aside0.mk ((by rw [hg]; exact Nat.ne_of_lt (blk_lt (g := gb152) (o := .cells #[.int .i64 a0_0, .int .i64 a0_1, .slice A0_2 l0_2.length c0_2] 24 (0, 0)) (by (with_reducible repeat (first | refine blk_drewN ?_ _ | refine blk_drew ?_ | refine blk_alloc ?_ _)); exact BK152.out)) : gb152 ≠ gb218)); have n15_ := Aside0.mk ((by rw [hg]; exact Nat.ne_of_gt (blk_lt (g := gb152) (o := .cells #[.int .i64 a0_0, .int .i64 a0_1, .slice A0_2 l0_2.length c0_2] 24 (0, 0)) (by (with_reducible repeat (first | refine blk_drewN ?_ _ | refine blk_drew ?_ | refine blk_alloc ?_ _)); exact BK152.out)) : gb218 ≠ gb152)); have n16_ := Aside0.mk ((by rw [hg]; exact Nat.ne_of_lt (blk_lt (g := gb168) (o := .cells #[.int .i64 t162, .int .i64 t163, .slice Ao29 t164.length co29] 26 (0, 0)) (by (with_reducible repeat (first | refine blk_drewN ?_ _ | refine blk_drew ?_ | refine blk_alloc ?_ _)); exact BK168.out)) : gb168 ≠ gb218)); have n17_ := Aside0.mk ((by rw [hg]; exact Nat.ne_of_gt (blk_lt (g := gb168) (o := .cells #[.int .i64 t162, .int .i64 t163, .slice Ao29 t164.length co29] 26 (0, 0)) (by (with_reducible repeat (first | refine blk_drewN ?_ _ | refine blk_drew ?_ | refine blk_alloc ?_ _)); exact BK168.out)) : gb218 ≠ gb168)); have n18_ := Aside0.mk ((by rw [hg]; exact Nat.ne_of_lt (blk_lt (g := gb174) (o := .cells #[.int .i64 t169, .int .i64 t170, .slice Ao36 t197.length co36] 26 (0, 0)) (by (with_reducible repeat (first | refine blk_drewN ?_ _ | refine blk_drew ?_ | refine blk_alloc ?_ _)); exact BK174.out)) : gb174 ≠ gb218)); have n19_ := Aside0.mk ((by rw [hg]; exact Nat.ne_of_gt (blk_lt (g := gb174) (o := .cells #[.int .i64 t169, .int .i64 t170, .slice Ao36 t197.length co36] 26 (0, 0)) (by (with_reducible repeat (first | refine blk_drewN ?_ _ | refine blk_drew ?_ | refine blk_alloc ?_ _)); exact BK174.out)) : gb218 ≠ gb174)); have n20_ := Aside0.mk ((by rw [hg]; exact Nat.ne_of_lt (blk_lt (g := gb184) (o := .cells #[.int .i64 t178, .int .i64 t179, .slice Ao46 t180.length co46] 26 (0, 0)) (by (with_reducible repeat (first | refine blk_drewN ?_ _ | refine blk_drew ?_ | refine blk_alloc ?_ _)); exact BK184.out)) : gb184 ≠ gb218)); have n21_ := Aside0.mk ((by rw [hg]; exact Nat.ne_of_gt (blk_lt (g := gb184) (o := .cells #[.int .i64 t178, .int .i64 t179, .slice Ao46 t180.length co46] 26 (0, 0)) (by (with_reducible repeat (first | refine blk_drewN ?_ _ | refine blk_drew ?_ | refine blk_alloc ?_ _)); exact BK184.out)) : gb218 ≠ gb184)); clear HO_169002; clear HO_175002; clear HO_185002; clear HO208; clear HO211; clear HO216; clear BK152; clear BK168; clear BK174; clear BK184; clear HB; have HO_169002 := n0_; have HO_175002 := n1_; have HO_185002 := n2_; have HO208 := n3_; have HO211 := n4_; have HO216 := n5_; have BK152 := n6_; have BK168 := n7_; have BK174 := n8_; have BK184 := n9_; have HB := n10_; have BK218 := n11_; have GW218 := n12_; have GE218 := n13_; have NB152_218 := n14_; have NB218_152 := n15_; have NB168_218 := n16_; have NB218_168 := n17_; have NB174_218 := n18_; have NB218_174 := n19_; have NB184_218 := n20_; have NB218_184 := n21_; clear n0_ n1_ n2_ n3_ n4_ n5_ n6_ n7_ n8_ n9_ n10_ n11_ n12_ n13_ n14_ n15_ n16_ n17_ n18_ n19_ n20_ n21_; clear hb hbox hg; have hnb138 := NB218_152.out; have hnc138 := NB152_218.out; have hnb139 := NB218_168.out; have hnc139 := NB168_218.out; have hnb140 := NB218_174.out; have hnc140 := NB174_218.out; have hnb141 := NB218_184.out; have hnc141 := NB184_218.out; have hcz142_0 : w137.cell? ⟨gb218, 0, none⟩ = some (.int .i64 0) := (blk_cell BK218.out 0).trans rfl; have hcz142_1 : w137.cell? ⟨gb218, 1, none⟩ = some (.int .i64 0) := (blk_cell BK218.out 1).trans rfl; have hcz142_2 : w137.cell? ⟨gb218, 2, none⟩ = some (.slice none 0 0) := (blk_cell BK218.out 2).trans rfl; have hfz142_0 := blk_frozen BK218.out 0; have hfz142_1 := blk_frozen BK218.out 1; have hfz142_2 := blk_frozen BK218.out 2; obtain ⟨Ao143, co143, eo143⟩ := Kd.R_slice HO216.out; subst eo143))
             (try simp only [Act.put, List.setIfInBounds_toArray, List.set_cons_zero, List.set_cons_succ])
             go_cut [108] (fun v108 wc => ∃ (kq : Nat) (x108_120 : Bool), v108 = .bool x108_120 ∧ Aside0 (laws_FnExactMatRows.j2 kq t201 x108_120 t178 t179 t202 = some r) ∧ Aside0 (kq ≤ kj73) ∧ Aside0 (Kd.R (Kd.int .i64) 2 wc w.heap.size (fun k_ => some k_ ≠ ((.slice Ao36 t197.length co36) : Value).ownBlock ∧ some k_ ≠ ((.slice Ao46 t180.length co46) : Value).ownBlock ∧ some k_ ≠ ((.slice Ao143 t214.length co143) : Value).ownBlock) (.slice Ao29 t164.length co29) t164) ∧ Aside0 (Kd.R (Kd.int .i64) 2 wc w.heap.size (fun k_ => some k_ ≠ ((.slice Ao29 t164.length co29) : Value).ownBlock ∧ some k_ ≠ ((.slice Ao46 t180.length co46) : Value).ownBlock ∧ some k_ ≠ ((.slice Ao143 t214.length co143) : Value).ownBlock) (.slice Ao36 t197.length co36) t197) ∧ Aside0 (Kd.R (Kd.int .i64) 2 wc w.heap.size (fun k_ => some k_ ≠ ((.slice Ao29 t164.length co29) : Value).ownBlock ∧ some k_ ≠ ((.slice Ao36 t197.length co36) : Value).ownBlock ∧ some k_ ≠ ((.slice Ao143 t214.length co143) : Value).ownBlock) (.slice Ao46 t180.length co46) t202) ∧ Aside0 (Kd.R (Kd.int .i64) 2 wc w.heap.size (fun k_ => some k_ ≠ ((.slice Ao29 t164.length co29) : Value).ownBlock ∧ some k_ ≠ ((.slice Ao36 t197.length co36) : Value).ownBlock ∧ some k_ ≠ ((.slice Ao46 t180.length co46) : Value).ownBlock) (.slice Ao143 t214.length co143) t214) ∧ Aside0 (wc.heap[gb152]? = some (.cells #[.int .i64 a0_0, .int .i64 a0_1, (.slice A0_2 l0_2.length c0_2)] 24 (0, 0))) ∧ Aside0 (wc.heap[gb168]? = some (.cells #[.int .i64 t162, .int .i64 t163, (.slice Ao29 t164.length co29)] 26 (0, 0))) ∧ Aside0 (wc.heap[gb174]? = some (.cells #[.int .i64 t169, .int .i64 t170, (.slice Ao36 t197.length co36)] 26 (0, 0))) ∧ Aside0 (wc.heap[gb184]? = some (.cells #[.int .i64 t178, .int .i64 t179, (.slice Ao46 t180.length co46)] 26 (0, 0))) ∧ Aside0 (wc.heap[gb218]? = some (.cells #[.int .i64 t212, .int .i64 t213, (.slice Ao143 t214.length co143)] 26 (0, 0))) ∧ Aside0 (Below w.heap.size w wc))
             case first =>
              have H := HC121.out
              clear HC121
              replace H := Option.bind_eq_some_iff.mp H
              obtain ⟨t219, A1440, H⟩ := H
              replace H : (if t219 = true then (laws_FnExactMatRows.j2 kj73 t201 (t217 != t167) t178 t179 t202) else (laws_FnExactMatRows.j2 kj73 t201 true t178 t179 t202)) = some r := H
              have A144 := Aside0.mk A1440
              clear A1440
              by_cases c145 : t219 = true
              ·subst c145
               have H1 : (laws_FnExactMatRows.j2 kj73 t201 (t217 != t167) t178 t179 t202) = some r := by rw [if_pos rfl] at H; exact H
               clear H
               have H := H1
               clear H1
               have H' := Aside0.mk H
               clear H
               have hnb146 := NB218_152.out
               have hnc146 := NB152_218.out
               have hnb147 := NB218_168.out
               have hnc147 := NB168_218.out
               have hnb148 := NB218_174.out
               have hnc148 := NB174_218.out
               have hnb149 := NB218_184.out
               have hnc149 := NB184_218.out
               have hcz150_0 : w137.cell? ⟨gb218, 0, none⟩ = some (.int .i64 0) := (blk_cell BK218.out 0).trans rfl
               have hcz150_1 : w137.cell? ⟨gb218, 1, none⟩ = some (.int .i64 0) := (blk_cell BK218.out 1).trans rfl
               have hcz150_2 : w137.cell? ⟨gb218, 2, none⟩ = some (.slice none 0 0) := (blk_cell BK218.out 2).trans rfl
               have hfz150_0 := blk_frozen BK218.out 0
               have hfz150_1 := blk_frozen BK218.out 1
               have hfz150_2 := blk_frozen BK218.out 2
               have hnb151 := NB168_152.out
               have hnc151 := NB152_168.out
               have hnb152 := NB168_174.out
               have hnc152 := NB174_168.out
               have hnb153 := NB168_184.out
               have hnc153 := NB184_168.out
               have hcz154_0 : w137.cell? ⟨gb168, 0, none⟩ = some (.int .i64 t162) := (blk_cell BK168.out 0).trans rfl
               have hcz154_1 : w137.cell? ⟨gb168, 1, none⟩ = some (.int .i64 t163) := (blk_cell BK168.out 1).trans rfl
               have hcz154_2 : w137.cell? ⟨gb168, 2, none⟩ = some (.slice Ao29 t164.length co29) := (blk_cell BK168.out 2).trans rfl
               have hfz154_0 := blk_frozen BK168.out 0
               have hfz154_1 := blk_frozen BK168.out 1
               have hfz154_2 := blk_frozen BK168.out 2
               go_wp2_with (first | ((with_reducible refine gate_callee (f := 9) rfl ?_); refine goesL_ (some 102) rfl rfl Try.func9 (by kernel_rfl) rfl #[.agg #[.int .i64 t212, .int .i64 t213, .slice Ao143 t214.length co143], .agg #[.int .i64 t162, .int .i64 t163, .slice Ao29 t164.length co29]] rfl (by (try simp only [List.map_toArray, List.map_cons, List.map_nil]); first | done | rfl | (simp only [List.length_drop, List.length_take]; rfl)) ?_; (with_reducible refine (laws_eqMatrix.calls kj73 t212 t213 _ _ t214 t162 t163 _ _ t164 true _ ?side1 ?side2 ?side3 ?side4 A144.out).mono ?_); (case side1 => refine (Kd.R_reads' (e := 2) (base := w.heap.size) (ok := fun k_ => (((((True ∧ some k_ ≠ (.slice Ao29 t164.length co29 : Value).ownBlock) ∧ some k_ ≠ (.slice Ao36 t197.length co36 : Value).ownBlock) ∧ some k_ ≠ (.slice Ao46 t180.length co46 : Value).ownBlock) ∧ some k_ ≠ (.slice Ao134 t206.length co134 : Value).ownBlock) ∧ some k_ ≠ (.slice Ao135 t209.length co135 : Value).ownBlock)) (n := t214.length) (c := co143) ?_).2.2; exact (by (with_reducible repeat (first | apply Kd.R_alloc | apply Kd.R_drewN | apply Kd.R_drew)); exact (Kd.R_mono (Kd.R_far (p := ⟨gb218, 2, none⟩) (Kd.R_far (p := ⟨gb218, 1, none⟩) (Kd.R_far (p := ⟨gb218, 0, none⟩) (Kd.R_types HO216.out BK218.out (by decide)) (fun _ hk => hk.2) (.int .i64 t212)) (fun _ hk => hk.2) (.int .i64 t213)) (fun _ hk => hk.2) (.slice Ao143 t214.length co143)) (fun _ h_ => h_.1)))); (case side2 => exact (Kd.R_reads' HO216.out).2.1); (case side3 => refine (Kd.R_reads' (e := 2) (base := w.heap.size) (ok := fun k_ => ((((some k_ ≠ (.slice Ao36 t197.length co36 : Value).ownBlock ∧ some k_ ≠ (.slice Ao46 t180.length co46 : Value).ownBlock) ∧ some k_ ≠ (.slice Ao134 t206.length co134 : Value).ownBlock) ∧ some k_ ≠ (.slice Ao135 t209.length co135 : Value).ownBlock) ∧ some k_ ≠ (.slice Ao143 t214.length co143 : Value).ownBlock)) (n := t164.length) (c := co29) ?_).2.2; exact (by (with_reducible repeat (first | apply Kd.R_alloc | apply Kd.R_drewN | apply Kd.R_drew)); exact (Kd.R_mono (Kd.R_far (p := ⟨gb218, 2, none⟩) (Kd.R_far (p := ⟨gb218, 1, none⟩) (Kd.R_far (p := ⟨gb218, 0, none⟩) (Kd.R_types HO_169002.out BK218.out (by decide)) (fun _ hk => hk.2) (.int .i64 t212)) (fun _ hk => hk.2) (.int .i64 t213)) (fun _ hk => hk.2) (.slice Ao143 t214.length co143)) (fun _ h_ => h_.1)))); (case side4 => exact (Kd.R_reads' HO_169002.out).2.1); rintro e w155 ⟨rfl, hb⟩; refine ⟨_, rfl, ?_⟩; have n0_ := Aside0.mk (Kd.R_below (by (with_reducible repeat (first | apply Kd.R_alloc | apply Kd.R_drewN | apply Kd.R_drew)); exact (Kd.R_mono (Kd.R_far (p := ⟨gb218, 2, none⟩) (Kd.R_far (p := ⟨gb218, 1, none⟩) (Kd.R_far (p := ⟨gb218, 0, none⟩) (Kd.R_types HO_169002.out BK218.out (by decide)) (fun _ hk => hk.2) (.int .i64 t212)) (fun _ hk => hk.2) (.int .i64 t213)) (fun _ hk => hk.2) (.slice Ao143 t214.length co143)) (fun _ h_ => h_.1))) hb); have n1_ := Aside0.mk (Kd.R_below (by (with_reducible repeat (first | apply Kd.R_alloc | apply Kd.R_drewN | apply Kd.R_drew)); exact (Kd.R_mono (Kd.R_far (p := ⟨gb218, 2, none⟩) (Kd.R_far (p := ⟨gb218, 1, none⟩) (Kd.R_far (p := ⟨gb218, 0, none⟩) (Kd.R_types HO_175002.out BK218.out (by decide)) (fun _ hk => hk.2) (.int .i64 t212)) (fun _ hk => hk.2) (.int .i64 t213)) (fun _ hk => hk.2) (.slice Ao143 t214.length co143)) (fun _ h_ => h_.1))) hb); have n2_ := Aside0.mk (Kd.R_below (by (with_reducible repeat (first | apply Kd.R_alloc | apply Kd.R_drewN | apply Kd.R_drew)); exact (Kd.R_mono (Kd.R_far (p := ⟨gb218, 2, none⟩) (Kd.R_far (p := ⟨gb218, 1, none⟩) (Kd.R_far (p := ⟨gb218, 0, none⟩) (Kd.R_types HO_185002.out BK218.out (by decide)) (fun _ hk => hk.2) (.int .i64 t212)) (fun _ hk => hk.2) (.int .i64 t213)) (fun _ hk => hk.2) (.slice Ao143 t214.length co143)) (fun _ h_ => h_.1))) hb); have n3_ := Aside0.mk (Kd.R_below (by (with_reducible repeat (first | apply Kd.R_alloc | apply Kd.R_drewN | apply Kd.R_drew)); exact (Kd.R_mono (Kd.R_far (p := ⟨gb218, 2, none⟩) (Kd.R_far (p := ⟨gb218, 1, none⟩) (Kd.R_far (p := ⟨gb218, 0, none⟩) (Kd.R_types HO208.out BK218.out (by decide)) (fun _ hk => hk.2) (.int .i64 t212)) (fun _ hk => hk.2) (.int .i64 t213)) (fun _ hk => hk.2) (.slice Ao143 t214.length co143)) (fun _ h_ => h_.1))) hb); have n4_ := Aside0.mk (Kd.R_below (by (with_reducible repeat (first | apply Kd.R_alloc | apply Kd.R_drewN | apply Kd.R_drew)); exact (Kd.R_mono (Kd.R_far (p := ⟨gb218, 2, none⟩) (Kd.R_far (p := ⟨gb218, 1, none⟩) (Kd.R_far (p := ⟨gb218, 0, none⟩) (Kd.R_types HO211.out BK218.out (by decide)) (fun _ hk => hk.2) (.int .i64 t212)) (fun _ hk => hk.2) (.int .i64 t213)) (fun _ hk => hk.2) (.slice Ao143 t214.length co143)) (fun _ h_ => h_.1))) hb); have n5_ := Aside0.mk (Kd.R_below (by (with_reducible repeat (first | apply Kd.R_alloc | apply Kd.R_drewN | apply Kd.R_drew)); exact (Kd.R_mono (Kd.R_far (p := ⟨gb218, 2, none⟩) (Kd.R_far (p := ⟨gb218, 1, none⟩) (Kd.R_far (p := ⟨gb218, 0, none⟩) (Kd.R_types HO216.out BK218.out (by decide)) (fun _ hk => hk.2) (.int .i64 t212)) (fun _ hk => hk.2) (.int .i64 t213)) (fun _ hk => hk.2) (.slice Ao143 t214.length co143)) (fun _ h_ => h_.1))) hb); have n6_ := Aside0.mk (blk_below (g := gb152) (o := .cells #[.int .i64 a0_0, .int .i64 a0_1, .slice A0_2 l0_2.length c0_2] 24 (0, 0)) (by (with_reducible repeat (first | refine blk_drewN ?_ _ | refine blk_drew ?_ | refine blk_alloc ?_ _)); refine blk_far ?_ NB152_218.out _; (with_reducible repeat (first | refine blk_drewN ?_ _ | refine blk_drew ?_ | refine blk_alloc ?_ _)); refine blk_far ?_ NB152_218.out _; (with_reducible repeat (first | refine blk_drewN ?_ _ | refine blk_drew ?_ | refine blk_alloc ?_ _)); refine blk_far ?_ NB152_218.out _; (with_reducible repeat (first | refine blk_drewN ?_ _ | refine blk_drew ?_ | refine blk_alloc ?_ _)); exact BK152.out) hb); have n7_ := Aside0.mk (blk_below (g := gb168) (o := .cells #[.int .i64 t162, .int .i64 t163, .slice Ao29 t164.length co29] 26 (0, 0)) (by (with_reducible repeat (first | refine blk_drewN ?_ _ | refine blk_drew ?_ | refine blk_alloc ?_ _)); refine blk_far ?_ NB168_218.out _; (with_reducible repeat (first | refine blk_drewN ?_ _ | refine blk_drew ?_ | refine blk_alloc ?_ _)); refine blk_far ?_ NB168_218.out _; (with_reducible repeat (first | refine blk_drewN ?_ _ | refine blk_drew ?_ | refine blk_alloc ?_ _)); refine blk_far ?_ NB168_218.out _; (with_reducible repeat (first | refine blk_drewN ?_ _ | refine blk_drew ?_ | refine blk_alloc ?_ _)); exact BK168.out) hb); have n8_ := Aside0.mk (blk_below (g := gb174) (o := .cells #[.int .i64 t169, .int .i64 t170, .slice Ao36 t197.length co36] 26 (0, 0)) (by (with_reducible repeat (first | refine blk_drewN ?_ _ | refine blk_drew ?_ | refine blk_alloc ?_ _)); refine blk_far ?_ NB174_218.out _; (with_reducible repeat (first | refine blk_drewN ?_ _ | refine blk_drew ?_ | refine blk_alloc ?_ _)); refine blk_far ?_ NB174_218.out _; (with_reducible repeat (first | refine blk_drewN ?_ _ | refine blk_drew ?_ | refine blk_alloc ?_ _)); refine blk_far ?_ NB174_218.out _; (with_reducible repeat (first | refine blk_drewN ?_ _ | refine blk_drew ?_ | refine blk_alloc ?_ _)); exact BK174.out) hb); have n9_ := Aside0.mk (blk_below (g := gb184) (o := .cells #[.int .i64 t178, .int .i64 t179, .slice Ao46 t180.length co46] 26 (0, 0)) (by (with_reducible repeat (first | refine blk_drewN ?_ _ | refine blk_drew ?_ | refine blk_alloc ?_ _)); refine blk_far ?_ NB184_218.out _; (with_reducible repeat (first | refine blk_drewN ?_ _ | refine blk_drew ?_ | refine blk_alloc ?_ _)); refine blk_far ?_ NB184_218.out _; (with_reducible repeat (first | refine blk_drewN ?_ _ | refine blk_drew ?_ | refine blk_alloc ?_ _)); refine blk_far ?_ NB184_218.out _; (with_reducible repeat (first | refine blk_drewN ?_ _ | refine blk_drew ?_ | refine blk_alloc ?_ _)); exact BK184.out) hb); have n10_ := Aside0.mk (blk_below (g := gb218) (o := .cells #[.int .i64 t212, .int .i64 t213, .slice Ao143 t214.length co143] 26 (0, 0)) (by (with_reducible repeat (first | refine blk_drewN ?_ _ | refine blk_drew ?_ | refine blk_alloc ?_ _)); refine blk_put (cs := #[.int .i64 t212, .int .i64 t213, .slice none 0 0]) ?_ 2 _ rfl; (with_reducible repeat (first | refine blk_drewN ?_ _ | refine blk_drew ?_ | refine blk_alloc ?_ _)); refine blk_put (cs := #[.int .i64 t212, .int .i64 0, .slice none 0 0]) ?_ 1 _ rfl; (with_reducible repeat (first | refine blk_drewN ?_ _ | refine blk_drew ?_ | refine blk_alloc ?_ _)); refine blk_put (cs := #[.int .i64 0, .int .i64 0, .slice none 0 0]) ?_ 0 _ rfl; (with_reducible repeat (first | refine blk_drewN ?_ _ | refine blk_drew ?_ | refine blk_alloc ?_ _)); exact BK218.out) hb); have n11_ := Aside0.mk (below_step (by repeat (first | (with_reducible first | exact HB.out | apply below_alloc | apply pw_below_drewN | apply below_drew1 | refine below_set ?_ GE152.out | refine below_set ?_ GE168.out | refine below_set ?_ GE174.out | refine below_set ?_ GE184.out | refine below_set ?_ GE218.out) | exact HB.out)) hb); clear HO_169002; clear HO_175002; clear HO_185002; clear HO208; clear HO211; clear HO216; clear BK152; clear BK168; clear BK174; clear BK184; clear BK218; clear HB; have HO_169002 := n0_; have HO_175002 := n1_; have HO_185002 := n2_; have HO208 := n3_; have HO211 := n4_; have HO216 := n5_; have BK152 := n6_; have BK168 := n7_; have BK174 := n8_; have BK184 := n9_; have BK218 := n10_; have HB := n11_; clear n0_ n1_ n2_ n3_ n4_ n5_ n6_ n7_ n8_ n9_ n10_ n11_; (try clear hb); (try clear hb2); (try clear hk); (try clear hi)))
               go_meet
               case rel => exact ⟨_, ((t217 != t167)), (by first | rfl | (simp; done) | (simp [*]; done)), H', ⟨by have := HJ15.out; have := HJ73.out; first | omega | exact Nat.le_refl _⟩, ⟨by (try simp only [hl175002_73]); (with_reducible repeat (first | apply Kd.R_alloc | apply Kd.R_drewN | apply Kd.R_drew)); exact Kd.R_mono HO_169002.out (fun _ hk => ⟨hk.1.1.1.1, ⟨hk.1.1.1.2, hk.2⟩⟩)⟩, ⟨by (try simp only [hl175002_73]); (with_reducible repeat (first | apply Kd.R_alloc | apply Kd.R_drewN | apply Kd.R_drew)); exact Kd.R_mono HO_175002.out (fun _ hk => ⟨hk.1.1.1.1, ⟨hk.1.1.1.2, hk.2⟩⟩)⟩, ⟨by (try simp only [hl175002_73]); (with_reducible repeat (first | apply Kd.R_alloc | apply Kd.R_drewN | apply Kd.R_drew)); exact Kd.R_mono HO_185002.out (fun _ hk => ⟨hk.1.1.1.1, ⟨hk.1.1.1.2, hk.2⟩⟩)⟩, ⟨by (try simp only [hl175002_73]); (with_reducible repeat (first | apply Kd.R_alloc | apply Kd.R_drewN | apply Kd.R_drew)); exact Kd.R_mono HO216.out (fun _ hk => ⟨hk.1.1.1.1.2, ⟨hk.1.1.1.2, hk.1.1.2⟩⟩)⟩, ⟨by (try simp only [hl175002_73]); (with_reducible repeat (first | refine blk_drewN ?_ _ | refine blk_drew ?_ | refine blk_alloc ?_ _)); exact BK152.out⟩, ⟨by (try simp only [hl175002_73]); (with_reducible repeat (first | refine blk_drewN ?_ _ | refine blk_drew ?_ | refine blk_alloc ?_ _)); exact BK168.out⟩, ⟨by (try simp only [hl175002_73]); (with_reducible repeat (first | refine blk_drewN ?_ _ | refine blk_drew ?_ | refine blk_alloc ?_ _)); exact BK174.out⟩, ⟨by (try simp only [hl175002_73]); (with_reducible repeat (first | refine blk_drewN ?_ _ | refine blk_drew ?_ | refine blk_alloc ?_ _)); exact BK184.out⟩, ⟨by (try simp only [hl175002_73]); (with_reducible repeat (first | refine blk_drewN ?_ _ | refine blk_drew ?_ | refine blk_alloc ?_ _)); exact BK218.out⟩, ⟨by repeat (first | (with_reducible first | exact HB.out | apply below_alloc | apply pw_below_drewN | apply below_drew1 | refine below_set ?_ GE152.out | refine below_set ?_ GE168.out | refine below_set ?_ GE174.out | refine below_set ?_ GE184.out | refine below_set ?_ GE218.out) | exact HB.out)⟩⟩
              ·replace c145 := Bool.eq_false_iff.mpr c145
               subst c145
               have H1 : (laws_FnExactMatRows.j2 kj73 t201 true t178 t179 t202) = some r := by rw [if_neg (show ¬ (false = true) by decide)] at H; exact H
               clear H
               have H := H1
               clear H1
               have H' := Aside0.mk H
               clear H
               have hnb156 := NB218_152.out
               have hnc156 := NB152_218.out
               have hnb157 := NB218_168.out
               have hnc157 := NB168_218.out
               have hnb158 := NB218_174.out
               have hnc158 := NB174_218.out
               have hnb159 := NB218_184.out
               have hnc159 := NB184_218.out
               have hcz160_0 : w137.cell? ⟨gb218, 0, none⟩ = some (.int .i64 0) := (blk_cell BK218.out 0).trans rfl
               have hcz160_1 : w137.cell? ⟨gb218, 1, none⟩ = some (.int .i64 0) := (blk_cell BK218.out 1).trans rfl
               have hcz160_2 : w137.cell? ⟨gb218, 2, none⟩ = some (.slice none 0 0) := (blk_cell BK218.out 2).trans rfl
               have hfz160_0 := blk_frozen BK218.out 0
               have hfz160_1 := blk_frozen BK218.out 1
               have hfz160_2 := blk_frozen BK218.out 2
               have hnb161 := NB168_152.out
               have hnc161 := NB152_168.out
               have hnb162 := NB168_174.out
               have hnc162 := NB174_168.out
               have hnb163 := NB168_184.out
               have hnc163 := NB184_168.out
               have hcz164_0 : w137.cell? ⟨gb168, 0, none⟩ = some (.int .i64 t162) := (blk_cell BK168.out 0).trans rfl
               have hcz164_1 : w137.cell? ⟨gb168, 1, none⟩ = some (.int .i64 t163) := (blk_cell BK168.out 1).trans rfl
               have hcz164_2 : w137.cell? ⟨gb168, 2, none⟩ = some (.slice Ao29 t164.length co29) := (blk_cell BK168.out 2).trans rfl
               have hfz164_0 := blk_frozen BK168.out 0
               have hfz164_1 := blk_frozen BK168.out 1
               have hfz164_2 := blk_frozen BK168.out 2
               go_wp2_with (first | ((with_reducible refine gate_callee (f := 9) rfl ?_); refine goesL_ (some 102) rfl rfl Try.func9 (by kernel_rfl) rfl #[.agg #[.int .i64 t212, .int .i64 t213, .slice Ao143 t214.length co143], .agg #[.int .i64 t162, .int .i64 t163, .slice Ao29 t164.length co29]] rfl (by (try simp only [List.map_toArray, List.map_cons, List.map_nil]); first | done | rfl | (simp only [List.length_drop, List.length_take]; rfl)) ?_; (with_reducible refine (laws_eqMatrix.calls kj73 t212 t213 _ _ t214 t162 t163 _ _ t164 false _ ?side1 ?side2 ?side3 ?side4 A144.out).mono ?_); (case side1 => refine (Kd.R_reads' (e := 2) (base := w.heap.size) (ok := fun k_ => (((((True ∧ some k_ ≠ (.slice Ao29 t164.length co29 : Value).ownBlock) ∧ some k_ ≠ (.slice Ao36 t197.length co36 : Value).ownBlock) ∧ some k_ ≠ (.slice Ao46 t180.length co46 : Value).ownBlock) ∧ some k_ ≠ (.slice Ao134 t206.length co134 : Value).ownBlock) ∧ some k_ ≠ (.slice Ao135 t209.length co135 : Value).ownBlock)) (n := t214.length) (c := co143) ?_).2.2; exact (by (with_reducible repeat (first | apply Kd.R_alloc | apply Kd.R_drewN | apply Kd.R_drew)); exact (Kd.R_mono (Kd.R_far (p := ⟨gb218, 2, none⟩) (Kd.R_far (p := ⟨gb218, 1, none⟩) (Kd.R_far (p := ⟨gb218, 0, none⟩) (Kd.R_types HO216.out BK218.out (by decide)) (fun _ hk => hk.2) (.int .i64 t212)) (fun _ hk => hk.2) (.int .i64 t213)) (fun _ hk => hk.2) (.slice Ao143 t214.length co143)) (fun _ h_ => h_.1)))); (case side2 => exact (Kd.R_reads' HO216.out).2.1); (case side3 => refine (Kd.R_reads' (e := 2) (base := w.heap.size) (ok := fun k_ => ((((some k_ ≠ (.slice Ao36 t197.length co36 : Value).ownBlock ∧ some k_ ≠ (.slice Ao46 t180.length co46 : Value).ownBlock) ∧ some k_ ≠ (.slice Ao134 t206.length co134 : Value).ownBlock) ∧ some k_ ≠ (.slice Ao135 t209.length co135 : Value).ownBlock) ∧ some k_ ≠ (.slice Ao143 t214.length co143 : Value).ownBlock)) (n := t164.length) (c := co29) ?_).2.2; exact (by (with_reducible repeat (first | apply Kd.R_alloc | apply Kd.R_drewN | apply Kd.R_drew)); exact (Kd.R_mono (Kd.R_far (p := ⟨gb218, 2, none⟩) (Kd.R_far (p := ⟨gb218, 1, none⟩) (Kd.R_far (p := ⟨gb218, 0, none⟩) (Kd.R_types HO_169002.out BK218.out (by decide)) (fun _ hk => hk.2) (.int .i64 t212)) (fun _ hk => hk.2) (.int .i64 t213)) (fun _ hk => hk.2) (.slice Ao143 t214.length co143)) (fun _ h_ => h_.1)))); (case side4 => exact (Kd.R_reads' HO_169002.out).2.1); rintro e w165 ⟨rfl, hb⟩; refine ⟨_, rfl, ?_⟩; have n0_ := Aside0.mk (Kd.R_below (by (with_reducible repeat (first | apply Kd.R_alloc | apply Kd.R_drewN | apply Kd.R_drew)); exact (Kd.R_mono (Kd.R_far (p := ⟨gb218, 2, none⟩) (Kd.R_far (p := ⟨gb218, 1, none⟩) (Kd.R_far (p := ⟨gb218, 0, none⟩) (Kd.R_types HO_169002.out BK218.out (by decide)) (fun _ hk => hk.2) (.int .i64 t212)) (fun _ hk => hk.2) (.int .i64 t213)) (fun _ hk => hk.2) (.slice Ao143 t214.length co143)) (fun _ h_ => h_.1))) hb); have n1_ := Aside0.mk (Kd.R_below (by (with_reducible repeat (first | apply Kd.R_alloc | apply Kd.R_drewN | apply Kd.R_drew)); exact (Kd.R_mono (Kd.R_far (p := ⟨gb218, 2, none⟩) (Kd.R_far (p := ⟨gb218, 1, none⟩) (Kd.R_far (p := ⟨gb218, 0, none⟩) (Kd.R_types HO_175002.out BK218.out (by decide)) (fun _ hk => hk.2) (.int .i64 t212)) (fun _ hk => hk.2) (.int .i64 t213)) (fun _ hk => hk.2) (.slice Ao143 t214.length co143)) (fun _ h_ => h_.1))) hb); have n2_ := Aside0.mk (Kd.R_below (by (with_reducible repeat (first | apply Kd.R_alloc | apply Kd.R_drewN | apply Kd.R_drew)); exact (Kd.R_mono (Kd.R_far (p := ⟨gb218, 2, none⟩) (Kd.R_far (p := ⟨gb218, 1, none⟩) (Kd.R_far (p := ⟨gb218, 0, none⟩) (Kd.R_types HO_185002.out BK218.out (by decide)) (fun _ hk => hk.2) (.int .i64 t212)) (fun _ hk => hk.2) (.int .i64 t213)) (fun _ hk => hk.2) (.slice Ao143 t214.length co143)) (fun _ h_ => h_.1))) hb); have n3_ := Aside0.mk (Kd.R_below (by (with_reducible repeat (first | apply Kd.R_alloc | apply Kd.R_drewN | apply Kd.R_drew)); exact (Kd.R_mono (Kd.R_far (p := ⟨gb218, 2, none⟩) (Kd.R_far (p := ⟨gb218, 1, none⟩) (Kd.R_far (p := ⟨gb218, 0, none⟩) (Kd.R_types HO208.out BK218.out (by decide)) (fun _ hk => hk.2) (.int .i64 t212)) (fun _ hk => hk.2) (.int .i64 t213)) (fun _ hk => hk.2) (.slice Ao143 t214.length co143)) (fun _ h_ => h_.1))) hb); have n4_ := Aside0.mk (Kd.R_below (by (with_reducible repeat (first | apply Kd.R_alloc | apply Kd.R_drewN | apply Kd.R_drew)); exact (Kd.R_mono (Kd.R_far (p := ⟨gb218, 2, none⟩) (Kd.R_far (p := ⟨gb218, 1, none⟩) (Kd.R_far (p := ⟨gb218, 0, none⟩) (Kd.R_types HO211.out BK218.out (by decide)) (fun _ hk => hk.2) (.int .i64 t212)) (fun _ hk => hk.2) (.int .i64 t213)) (fun _ hk => hk.2) (.slice Ao143 t214.length co143)) (fun _ h_ => h_.1))) hb); have n5_ := Aside0.mk (Kd.R_below (by (with_reducible repeat (first | apply Kd.R_alloc | apply Kd.R_drewN | apply Kd.R_drew)); exact (Kd.R_mono (Kd.R_far (p := ⟨gb218, 2, none⟩) (Kd.R_far (p := ⟨gb218, 1, none⟩) (Kd.R_far (p := ⟨gb218, 0, none⟩) (Kd.R_types HO216.out BK218.out (by decide)) (fun _ hk => hk.2) (.int .i64 t212)) (fun _ hk => hk.2) (.int .i64 t213)) (fun _ hk => hk.2) (.slice Ao143 t214.length co143)) (fun _ h_ => h_.1))) hb); have n6_ := Aside0.mk (blk_below (g := gb152) (o := .cells #[.int .i64 a0_0, .int .i64 a0_1, .slice A0_2 l0_2.length c0_2] 24 (0, 0)) (by (with_reducible repeat (first | refine blk_drewN ?_ _ | refine blk_drew ?_ | refine blk_alloc ?_ _)); refine blk_far ?_ NB152_218.out _; (with_reducible repeat (first | refine blk_drewN ?_ _ | refine blk_drew ?_ | refine blk_alloc ?_ _)); refine blk_far ?_ NB152_218.out _; (with_reducible repeat (first | refine blk_drewN ?_ _ | refine blk_drew ?_ | refine blk_alloc ?_ _)); refine blk_far ?_ NB152_218.out _; (with_reducible repeat (first | refine blk_drewN ?_ _ | refine blk_drew ?_ | refine blk_alloc ?_ _)); exact BK152.out) hb); have n7_ := Aside0.mk (blk_below (g := gb168) (o := .cells #[.int .i64 t162, .int .i64 t163, .slice Ao29 t164.length co29] 26 (0, 0)) (by (with_reducible repeat (first | refine blk_drewN ?_ _ | refine blk_drew ?_ | refine blk_alloc ?_ _)); refine blk_far ?_ NB168_218.out _; (with_reducible repeat (first | refine blk_drewN ?_ _ | refine blk_drew ?_ | refine blk_alloc ?_ _)); refine blk_far ?_ NB168_218.out _; (with_reducible repeat (first | refine blk_drewN ?_ _ | refine blk_drew ?_ | refine blk_alloc ?_ _)); refine blk_far ?_ NB168_218.out _; (with_reducible repeat (first | refine blk_drewN ?_ _ | refine blk_drew ?_ | refine blk_alloc ?_ _)); exact BK168.out) hb); have n8_ := Aside0.mk (blk_below (g := gb174) (o := .cells #[.int .i64 t169, .int .i64 t170, .slice Ao36 t197.length co36] 26 (0, 0)) (by (with_reducible repeat (first | refine blk_drewN ?_ _ | refine blk_drew ?_ | refine blk_alloc ?_ _)); refine blk_far ?_ NB174_218.out _; (with_reducible repeat (first | refine blk_drewN ?_ _ | refine blk_drew ?_ | refine blk_alloc ?_ _)); refine blk_far ?_ NB174_218.out _; (with_reducible repeat (first | refine blk_drewN ?_ _ | refine blk_drew ?_ | refine blk_alloc ?_ _)); refine blk_far ?_ NB174_218.out _; (with_reducible repeat (first | refine blk_drewN ?_ _ | refine blk_drew ?_ | refine blk_alloc ?_ _)); exact BK174.out) hb); have n9_ := Aside0.mk (blk_below (g := gb184) (o := .cells #[.int .i64 t178, .int .i64 t179, .slice Ao46 t180.length co46] 26 (0, 0)) (by (with_reducible repeat (first | refine blk_drewN ?_ _ | refine blk_drew ?_ | refine blk_alloc ?_ _)); refine blk_far ?_ NB184_218.out _; (with_reducible repeat (first | refine blk_drewN ?_ _ | refine blk_drew ?_ | refine blk_alloc ?_ _)); refine blk_far ?_ NB184_218.out _; (with_reducible repeat (first | refine blk_drewN ?_ _ | refine blk_drew ?_ | refine blk_alloc ?_ _)); refine blk_far ?_ NB184_218.out _; (with_reducible repeat (first | refine blk_drewN ?_ _ | refine blk_drew ?_ | refine blk_alloc ?_ _)); exact BK184.out) hb); have n10_ := Aside0.mk (blk_below (g := gb218) (o := .cells #[.int .i64 t212, .int .i64 t213, .slice Ao143 t214.length co143] 26 (0, 0)) (by (with_reducible repeat (first | refine blk_drewN ?_ _ | refine blk_drew ?_ | refine blk_alloc ?_ _)); refine blk_put (cs := #[.int .i64 t212, .int .i64 t213, .slice none 0 0]) ?_ 2 _ rfl; (with_reducible repeat (first | refine blk_drewN ?_ _ | refine blk_drew ?_ | refine blk_alloc ?_ _)); refine blk_put (cs := #[.int .i64 t212, .int .i64 0, .slice none 0 0]) ?_ 1 _ rfl; (with_reducible repeat (first | refine blk_drewN ?_ _ | refine blk_drew ?_ | refine blk_alloc ?_ _)); refine blk_put (cs := #[.int .i64 0, .int .i64 0, .slice none 0 0]) ?_ 0 _ rfl; (with_reducible repeat (first | refine blk_drewN ?_ _ | refine blk_drew ?_ | refine blk_alloc ?_ _)); exact BK218.out) hb); have n11_ := Aside0.mk (below_step (by repeat (first | (with_reducible first | exact HB.out | apply below_alloc | apply pw_below_drewN | apply below_drew1 | refine below_set ?_ GE152.out | refine below_set ?_ GE168.out | refine below_set ?_ GE174.out | refine below_set ?_ GE184.out | refine below_set ?_ GE218.out) | exact HB.out)) hb); clear HO_169002; clear HO_175002; clear HO_185002; clear HO208; clear HO211; clear HO216; clear BK152; clear BK168; clear BK174; clear BK184; clear BK218; clear HB; have HO_169002 := n0_; have HO_175002 := n1_; have HO_185002 := n2_; have HO208 := n3_; have HO211 := n4_; have HO216 := n5_; have BK152 := n6_; have BK168 := n7_; have BK174 := n8_; have BK184 := n9_; have BK218 := n10_; have HB := n11_; clear n0_ n1_ n2_ n3_ n4_ n5_ n6_ n7_ n8_ n9_ n10_ n11_; (try clear hb); (try clear hb2); (try clear hk); (try clear hi)))
               go_meet
               case rel => exact ⟨_, (true), (by first | rfl | (simp; done) | (simp [*]; done)), H', ⟨by have := HJ15.out; have := HJ73.out; first | omega | exact Nat.le_refl _⟩, ⟨by (try simp only [hl175002_73]); (with_reducible repeat (first | apply Kd.R_alloc | apply Kd.R_drewN | apply Kd.R_drew)); exact Kd.R_mono HO_169002.out (fun _ hk => ⟨hk.1.1.1.1, ⟨hk.1.1.1.2, hk.2⟩⟩)⟩, ⟨by (try simp only [hl175002_73]); (with_reducible repeat (first | apply Kd.R_alloc | apply Kd.R_drewN | apply Kd.R_drew)); exact Kd.R_mono HO_175002.out (fun _ hk => ⟨hk.1.1.1.1, ⟨hk.1.1.1.2, hk.2⟩⟩)⟩, ⟨by (try simp only [hl175002_73]); (with_reducible repeat (first | apply Kd.R_alloc | apply Kd.R_drewN | apply Kd.R_drew)); exact Kd.R_mono HO_185002.out (fun _ hk => ⟨hk.1.1.1.1, ⟨hk.1.1.1.2, hk.2⟩⟩)⟩, ⟨by (try simp only [hl175002_73]); (with_reducible repeat (first | apply Kd.R_alloc | apply Kd.R_drewN | apply Kd.R_drew)); exact Kd.R_mono HO216.out (fun _ hk => ⟨hk.1.1.1.1.2, ⟨hk.1.1.1.2, hk.1.1.2⟩⟩)⟩, ⟨by (try simp only [hl175002_73]); (with_reducible repeat (first | refine blk_drewN ?_ _ | refine blk_drew ?_ | refine blk_alloc ?_ _)); exact BK152.out⟩, ⟨by (try simp only [hl175002_73]); (with_reducible repeat (first | refine blk_drewN ?_ _ | refine blk_drew ?_ | refine blk_alloc ?_ _)); exact BK168.out⟩, ⟨by (try simp only [hl175002_73]); (with_reducible repeat (first | refine blk_drewN ?_ _ | refine blk_drew ?_ | refine blk_alloc ?_ _)); exact BK174.out⟩, ⟨by (try simp only [hl175002_73]); (with_reducible repeat (first | refine blk_drewN ?_ _ | refine blk_drew ?_ | refine blk_alloc ?_ _)); exact BK184.out⟩, ⟨by (try simp only [hl175002_73]); (with_reducible repeat (first | refine blk_drewN ?_ _ | refine blk_drew ?_ | refine blk_alloc ?_ _)); exact BK218.out⟩, ⟨by repeat (first | (with_reducible first | exact HB.out | apply below_alloc | apply pw_below_drewN | apply below_drew1 | refine below_set ?_ GE152.out | refine below_set ?_ GE168.out | refine below_set ?_ GE174.out | refine below_set ?_ GE184.out | refine below_set ?_ GE218.out) | exact HB.out)⟩⟩
             case rest =>
              clear HC121
              try clear c1
              try clear c2
              try clear p2
              try clear c3
              try clear c3b0
              try clear c3b1
              try clear c4
              try clear c5
              try clear c6
              try clear c6b0
              try clear c7
              try clear c8
              try clear c9
              try clear c10
              try clear c11
              try clear c12
              try clear c13
              try clear c14
              try clear c15
              try clear c16
              try clear c27
              try clear c33
              try clear c34
              try clear c42
              try clear c43
              try clear c44
              try clear c48
              try clear c49
              try clear c50
              try clear c51
              try clear c53
              try clear c54
              try clear c57
              try clear c58
              try clear c59
              try clear c61
              try clear c62
              try clear c65
              try clear c68
              try clear c71
              try clear c81
              try clear c82
              try clear c83
              try clear c87
              try clear c87b0
              try clear c89
              try clear c90
              try clear c91
              try clear c92
              try clear c94
              try clear c95
              try clear c98
              try clear c99
              try clear c100
              try clear c102
              try clear c103
              try clear c106
              try clear c109
              try clear c109b0
              try clear c110
              try clear c111
              try clear c112
              try clear c117
              try clear c117b0
              try clear c117b1
              try clear c122
              try clear c123
              try clear c124
              try clear c129
              try clear c130
              try clear c138
              try clear c139
              try clear c140
              try clear c141
              try clear c145
              try clear c146
              try clear c147
              try clear c148
              try clear c149
              try clear c151
              try clear c152
              try clear c153
              try clear c156
              try clear c157
              try clear c158
              try clear c159
              try clear c161
              try clear c162
              try clear c163
              try clear hcz101_0
              try clear hcz101_1
              try clear hcz101_2
              try clear hcz104_0
              try clear hcz104_1
              try clear hcz104_2
              try clear hcz113_0
              try clear hcz113_1
              try clear hcz113_2
              try clear hcz115_0
              try clear hcz115_1
              try clear hcz115_2
              try clear hcz125_0
              try clear hcz125_1
              try clear hcz125_2
              try clear hcz127_0
              try clear hcz127_1
              try clear hcz127_2
              try clear hcz131_0
              try clear hcz131_1
              try clear hcz131_2
              try clear hcz142_0
              try clear hcz142_1
              try clear hcz142_2
              try clear hcz150_0
              try clear hcz150_1
              try clear hcz150_2
              try clear hcz154_0
              try clear hcz154_1
              try clear hcz154_2
              try clear hcz160_0
              try clear hcz160_1
              try clear hcz160_2
              try clear hcz164_0
              try clear hcz164_1
              try clear hcz164_2
              try clear hcz18_0
              try clear hcz18_1
              try clear hcz18_2
              try clear hcz20_0
              try clear hcz20_1
              try clear hcz20_2
              try clear hcz28_0
              try clear hcz28_1
              try clear hcz28_2
              try clear hcz30_0
              try clear hcz30_1
              try clear hcz30_2
              try clear hcz35_0
              try clear hcz35_1
              try clear hcz35_2
              try clear hcz38_0
              try clear hcz38_1
              try clear hcz38_2
              try clear hcz45_0
              try clear hcz45_1
              try clear hcz45_2
              try clear hcz52_0
              try clear hcz52_1
              try clear hcz52_2
              try clear hcz55_0
              try clear hcz55_1
              try clear hcz55_2
              try clear hcz60_0
              try clear hcz60_1
              try clear hcz60_2
              try clear hcz63_0
              try clear hcz63_1
              try clear hcz63_2
              try clear hcz84_0
              try clear hcz84_1
              try clear hcz84_2
              try clear hcz8_0
              try clear hcz8_1
              try clear hcz8_2
              try clear hcz93_0
              try clear hcz93_1
              try clear hcz93_2
              try clear hcz96_0
              try clear hcz96_1
              try clear hcz96_2
              try clear hfz101_0
              try clear hfz101_1
              try clear hfz101_2
              try clear hfz104_0
              try clear hfz104_1
              try clear hfz104_2
              try clear hfz113_0
              try clear hfz113_1
              try clear hfz113_2
              try clear hfz115_0
              try clear hfz115_1
              try clear hfz115_2
              try clear hfz125_0
              try clear hfz125_1
              try clear hfz125_2
              try clear hfz127_0
              try clear hfz127_1
              try clear hfz127_2
              try clear hfz131_0
              try clear hfz131_1
              try clear hfz131_2
              try clear hfz142_0
              try clear hfz142_1
              try clear hfz142_2
              try clear hfz150_0
              try clear hfz150_1
              try clear hfz150_2
              try clear hfz154_0
              try clear hfz154_1
              try clear hfz154_2
              try clear hfz160_0
              try clear hfz160_1
              try clear hfz160_2
              try clear hfz164_0
              try clear hfz164_1
              try clear hfz164_2
              try clear hfz18_0
              try clear hfz18_1
              try clear hfz18_2
              try clear hfz20_0
              try clear hfz20_1
              try clear hfz20_2
              try clear hfz28_0
              try clear hfz28_1
              try clear hfz28_2
              try clear hfz30_0
              try clear hfz30_1
              try clear hfz30_2
              try clear hfz35_0
              try clear hfz35_1
              try clear hfz35_2
              try clear hfz38_0
              try clear hfz38_1
              try clear hfz38_2
              try clear hfz45_0
              try clear hfz45_1
              try clear hfz45_2
              try clear hfz52_0
              try clear hfz52_1
              try clear hfz52_2
              try clear hfz55_0
              try clear hfz55_1
              try clear hfz55_2
              try clear hfz60_0
              try clear hfz60_1
              try clear hfz60_2
              try clear hfz63_0
              try clear hfz63_1
              try clear hfz63_2
              try clear hfz84_0
              try clear hfz84_1
              try clear hfz84_2
              try clear hfz8_0
              try clear hfz8_1
              try clear hfz8_2
              try clear hfz93_0
              try clear hfz93_1
              try clear hfz93_2
              try clear hfz96_0
              try clear hfz96_1
              try clear hfz96_2
              try clear p2
              obtain ⟨kq, x108_120, rfl, HA, HJ120, HO_169002, HO_175002, HO_185002, HO_219002, BK152, BK168, BK174, BK184, BK218, HB⟩ := hcut
              have hl185002_120 := (Kd.R_reads' HO_185002.out).1
              rw [hl185002_120] at HO_185002
              (try simp only [hl185002_120])
              (try simp only [hl185002_120] at BK152)
              (try simp only [hl185002_120] at BK168)
              (try simp only [hl185002_120] at BK174)
              (try simp only [hl185002_120] at BK184)
              (try simp only [hl185002_120] at BK218)
              (try simp only [hl185002_120] at HO_169002)
              (try simp only [hl185002_120] at HO_175002)
              (try simp only [hl185002_120] at HO_219002)
              cases kq with
              | zero => exact absurd HA.out (by simp [laws_FnExactMatRows.j2])
              | succ kj120 =>
               have H := HA.out
               clear HA
               simp only [laws_FnExactMatRows.j2] at H
               by_cases c166 : x108_120 = true
               ·subst c166
                have H1 : (some false) = some r := by rw [if_pos rfl] at H; exact H
                clear H
                have H := H1
                clear H1
                obtain rfl := Option.some.inj H
                go_wp2
                go_ret
                exact ⟨by first | rfl | (simp [errW_none, errW_some] <;> rfl) | (simp [*, errW_none, errW_some] <;> rfl), by repeat (first | (with_reducible first | exact HB.out | apply below_alloc | apply pw_below_drewN | apply below_drew1 | refine below_set ?_ GE152.out | refine below_set ?_ GE168.out | refine below_set ?_ GE174.out | refine below_set ?_ GE184.out | refine below_set ?_ GE218.out) | exact HB.out)⟩
               ·replace c166 := Bool.eq_false_iff.mpr c166
                subst c166
                have H1 : ((laws_heldMatrix.f kj120 t178 t179 t202 1).bind fun t220 => (if t220 < 0 then (some false) else (if t220 = t201 then (some true) else (some false)))) = some r := by rw [if_neg (show ¬ (false = true) by decide)] at H; exact H
                clear H
                have H := H1
                clear H1
                replace H := Option.bind_eq_some_iff.mp H
                obtain ⟨t220, A1670, H⟩ := H
                replace H : (if t220 < 0 then (some false) else (if t220 = t201 then (some true) else (some false))) = some r := H
                have A167 := Aside0.mk A1670
                clear A1670
                by_cases c168 : t220 < 0
                ·rw [if_pos c168] at H
                 have c168b0 : decide (t220 < 0) = true := decide_eq_true c168
                 clear c168
                 obtain rfl := Option.some.inj H
                 have hnb169 := NB184_152.out
                 have hnc169 := NB152_184.out
                 have hnb170 := NB184_168.out
                 have hnc170 := NB168_184.out
                 have hnb171 := NB184_174.out
                 have hnc171 := NB174_184.out
                 have hnb172 := NB184_218.out
                 have hnc172 := NB218_184.out
                 have hcz173_0 : wc.cell? ⟨gb184, 0, none⟩ = some (.int .i64 t178) := (blk_cell BK184.out 0).trans rfl
                 have hcz173_1 : wc.cell? ⟨gb184, 1, none⟩ = some (.int .i64 t179) := (blk_cell BK184.out 1).trans rfl
                 have hcz173_2 : wc.cell? ⟨gb184, 2, none⟩ = some (.slice Ao46 t202.length co46) := (blk_cell BK184.out 2).trans rfl
                 have hfz173_0 := blk_frozen BK184.out 0
                 have hfz173_1 := blk_frozen BK184.out 1
                 have hfz173_2 := blk_frozen BK184.out 2
                 go_wp2_with (first | ((with_reducible refine gate_callee (f := 13) rfl ?_); refine goesL_ (some 111) rfl rfl Try.func13 (by kernel_rfl) rfl #[.agg #[.int .i64 t178, .int .i64 t179, .slice Ao46 t202.length co46], .int .i64 1] rfl (by (try simp only [List.map_toArray, List.map_cons, List.map_nil]); first | done | rfl | (simp only [List.length_drop, List.length_take]; rfl)) ?_; (with_reducible refine (laws_heldMatrix.calls kj120 t178 t179 _ _ t202 1 t220 _ ?side1 ?side2 A167.out).mono ?_); (case side1 => repeat (first | exact (Kd.R_reads' HO_185002.out).2.2 | (with_reducible refine Kd.C_alloc ?_ _) | (with_reducible refine Kd.C_drewN ?_ _) | (with_reducible refine Kd.C_drew ?_))); (case side2 => exact (Kd.R_reads' HO_185002.out).2.1); rintro e w174 ⟨rfl, hb⟩; refine ⟨_, rfl, ?_⟩; have n0_ := Aside0.mk (Kd.R_below (by (with_reducible repeat (first | apply Kd.R_alloc | apply Kd.R_drewN | apply Kd.R_drew)); exact HO_169002.out) hb); have n1_ := Aside0.mk (Kd.R_below (by (with_reducible repeat (first | apply Kd.R_alloc | apply Kd.R_drewN | apply Kd.R_drew)); exact HO_175002.out) hb); have n2_ := Aside0.mk (Kd.R_below (by (with_reducible repeat (first | apply Kd.R_alloc | apply Kd.R_drewN | apply Kd.R_drew)); exact HO_185002.out) hb); have n3_ := Aside0.mk (Kd.R_below (by (with_reducible repeat (first | apply Kd.R_alloc | apply Kd.R_drewN | apply Kd.R_drew)); exact HO_219002.out) hb); have n4_ := Aside0.mk (blk_below (g := gb152) (o := .cells #[.int .i64 a0_0, .int .i64 a0_1, .slice A0_2 l0_2.length c0_2] 24 (0, 0)) (by (with_reducible repeat (first | refine blk_drewN ?_ _ | refine blk_drew ?_ | refine blk_alloc ?_ _)); exact BK152.out) hb); have n5_ := Aside0.mk (blk_below (g := gb168) (o := .cells #[.int .i64 t162, .int .i64 t163, .slice Ao29 t164.length co29] 26 (0, 0)) (by (with_reducible repeat (first | refine blk_drewN ?_ _ | refine blk_drew ?_ | refine blk_alloc ?_ _)); exact BK168.out) hb); have n6_ := Aside0.mk (blk_below (g := gb174) (o := .cells #[.int .i64 t169, .int .i64 t170, .slice Ao36 t197.length co36] 26 (0, 0)) (by (with_reducible repeat (first | refine blk_drewN ?_ _ | refine blk_drew ?_ | refine blk_alloc ?_ _)); exact BK174.out) hb); have n7_ := Aside0.mk (blk_below (g := gb184) (o := .cells #[.int .i64 t178, .int .i64 t179, .slice Ao46 t202.length co46] 26 (0, 0)) (by (with_reducible repeat (first | refine blk_drewN ?_ _ | refine blk_drew ?_ | refine blk_alloc ?_ _)); exact BK184.out) hb); have n8_ := Aside0.mk (blk_below (g := gb218) (o := .cells #[.int .i64 t212, .int .i64 t213, .slice Ao143 t214.length co143] 26 (0, 0)) (by (with_reducible repeat (first | refine blk_drewN ?_ _ | refine blk_drew ?_ | refine blk_alloc ?_ _)); exact BK218.out) hb); have n9_ := Aside0.mk (below_step (by repeat (first | (with_reducible first | exact HB.out | apply below_alloc | apply pw_below_drewN | apply below_drew1 | refine below_set ?_ GE152.out | refine below_set ?_ GE168.out | refine below_set ?_ GE174.out | refine below_set ?_ GE184.out | refine below_set ?_ GE218.out) | exact HB.out)) hb); clear HO_169002; clear HO_175002; clear HO_185002; clear HO_219002; clear BK152; clear BK168; clear BK174; clear BK184; clear BK218; clear HB; have HO_169002 := n0_; have HO_175002 := n1_; have HO_185002 := n2_; have HO_219002 := n3_; have BK152 := n4_; have BK168 := n5_; have BK174 := n6_; have BK184 := n7_; have BK218 := n8_; have HB := n9_; clear n0_ n1_ n2_ n3_ n4_ n5_ n6_ n7_ n8_ n9_; (try clear hb); (try clear hb2); (try clear hk); (try clear hi)))
                 go_ret
                 exact ⟨by first | rfl | (simp [errW_none, errW_some] <;> rfl) | (simp [*, errW_none, errW_some] <;> rfl), by repeat (first | (with_reducible first | exact HB.out | apply below_alloc | apply pw_below_drewN | apply below_drew1 | refine below_set ?_ GE152.out | refine below_set ?_ GE168.out | refine below_set ?_ GE174.out | refine below_set ?_ GE184.out | refine below_set ?_ GE218.out) | exact HB.out)⟩
                ·rw [if_neg c168] at H
                 have c168b0 : decide (t220 < 0) = false := decide_eq_false c168
                 clear c168
                 by_cases c175 : t220 = t201
                 ·rw [if_pos c175] at H
                  have c175b0 : (t220 == t201) = true := beq_iff_eq.mpr c175
                  have c175b1 : (t220 != t201) = false := bne_eq_false_iff_eq.mpr c175
                  clear c175
                  obtain rfl := Option.some.inj H
                  have hnb176 := NB184_152.out
                  have hnc176 := NB152_184.out
                  have hnb177 := NB184_168.out
                  have hnc177 := NB168_184.out
                  have hnb178 := NB184_174.out
                  have hnc178 := NB174_184.out
                  have hnb179 := NB184_218.out
                  have hnc179 := NB218_184.out
                  have hcz180_0 : wc.cell? ⟨gb184, 0, none⟩ = some (.int .i64 t178) := (blk_cell BK184.out 0).trans rfl
                  have hcz180_1 : wc.cell? ⟨gb184, 1, none⟩ = some (.int .i64 t179) := (blk_cell BK184.out 1).trans rfl
                  have hcz180_2 : wc.cell? ⟨gb184, 2, none⟩ = some (.slice Ao46 t202.length co46) := (blk_cell BK184.out 2).trans rfl
                  have hfz180_0 := blk_frozen BK184.out 0
                  have hfz180_1 := blk_frozen BK184.out 1
                  have hfz180_2 := blk_frozen BK184.out 2
                  go_wp2_with (first | ((with_reducible refine gate_callee (f := 13) rfl ?_); refine goesL_ (some 111) rfl rfl Try.func13 (by kernel_rfl) rfl #[.agg #[.int .i64 t178, .int .i64 t179, .slice Ao46 t202.length co46], .int .i64 1] rfl (by (try simp only [List.map_toArray, List.map_cons, List.map_nil]); first | done | rfl | (simp only [List.length_drop, List.length_take]; rfl)) ?_; (with_reducible refine (laws_heldMatrix.calls kj120 t178 t179 _ _ t202 1 t220 _ ?side1 ?side2 A167.out).mono ?_); (case side1 => repeat (first | exact (Kd.R_reads' HO_185002.out).2.2 | (with_reducible refine Kd.C_alloc ?_ _) | (with_reducible refine Kd.C_drewN ?_ _) | (with_reducible refine Kd.C_drew ?_))); (case side2 => exact (Kd.R_reads' HO_185002.out).2.1); rintro e w181 ⟨rfl, hb⟩; refine ⟨_, rfl, ?_⟩; have n0_ := Aside0.mk (Kd.R_below (by (with_reducible repeat (first | apply Kd.R_alloc | apply Kd.R_drewN | apply Kd.R_drew)); exact HO_169002.out) hb); have n1_ := Aside0.mk (Kd.R_below (by (with_reducible repeat (first | apply Kd.R_alloc | apply Kd.R_drewN | apply Kd.R_drew)); exact HO_175002.out) hb); have n2_ := Aside0.mk (Kd.R_below (by (with_reducible repeat (first | apply Kd.R_alloc | apply Kd.R_drewN | apply Kd.R_drew)); exact HO_185002.out) hb); have n3_ := Aside0.mk (Kd.R_below (by (with_reducible repeat (first | apply Kd.R_alloc | apply Kd.R_drewN | apply Kd.R_drew)); exact HO_219002.out) hb); have n4_ := Aside0.mk (blk_below (g := gb152) (o := .cells #[.int .i64 a0_0, .int .i64 a0_1, .slice A0_2 l0_2.length c0_2] 24 (0, 0)) (by (with_reducible repeat (first | refine blk_drewN ?_ _ | refine blk_drew ?_ | refine blk_alloc ?_ _)); exact BK152.out) hb); have n5_ := Aside0.mk (blk_below (g := gb168) (o := .cells #[.int .i64 t162, .int .i64 t163, .slice Ao29 t164.length co29] 26 (0, 0)) (by (with_reducible repeat (first | refine blk_drewN ?_ _ | refine blk_drew ?_ | refine blk_alloc ?_ _)); exact BK168.out) hb); have n6_ := Aside0.mk (blk_below (g := gb174) (o := .cells #[.int .i64 t169, .int .i64 t170, .slice Ao36 t197.length co36] 26 (0, 0)) (by (with_reducible repeat (first | refine blk_drewN ?_ _ | refine blk_drew ?_ | refine blk_alloc ?_ _)); exact BK174.out) hb); have n7_ := Aside0.mk (blk_below (g := gb184) (o := .cells #[.int .i64 t178, .int .i64 t179, .slice Ao46 t202.length co46] 26 (0, 0)) (by (with_reducible repeat (first | refine blk_drewN ?_ _ | refine blk_drew ?_ | refine blk_alloc ?_ _)); exact BK184.out) hb); have n8_ := Aside0.mk (blk_below (g := gb218) (o := .cells #[.int .i64 t212, .int .i64 t213, .slice Ao143 t214.length co143] 26 (0, 0)) (by (with_reducible repeat (first | refine blk_drewN ?_ _ | refine blk_drew ?_ | refine blk_alloc ?_ _)); exact BK218.out) hb); have n9_ := Aside0.mk (below_step (by repeat (first | (with_reducible first | exact HB.out | apply below_alloc | apply pw_below_drewN | apply below_drew1 | refine below_set ?_ GE152.out | refine below_set ?_ GE168.out | refine below_set ?_ GE174.out | refine below_set ?_ GE184.out | refine below_set ?_ GE218.out) | exact HB.out)) hb); clear HO_169002; clear HO_175002; clear HO_185002; clear HO_219002; clear BK152; clear BK168; clear BK174; clear BK184; clear BK218; clear HB; have HO_169002 := n0_; have HO_175002 := n1_; have HO_185002 := n2_; have HO_219002 := n3_; have BK152 := n4_; have BK168 := n5_; have BK174 := n6_; have BK184 := n7_; have BK218 := n8_; have HB := n9_; clear n0_ n1_ n2_ n3_ n4_ n5_ n6_ n7_ n8_ n9_; (try clear hb); (try clear hb2); (try clear hk); (try clear hi)))
                  go_ret
                  exact ⟨by first | rfl | (simp [errW_none, errW_some] <;> rfl) | (simp [*, errW_none, errW_some] <;> rfl), by repeat (first | (with_reducible first | exact HB.out | apply below_alloc | apply pw_below_drewN | apply below_drew1 | refine below_set ?_ GE152.out | refine below_set ?_ GE168.out | refine below_set ?_ GE174.out | refine below_set ?_ GE184.out | refine below_set ?_ GE218.out) | exact HB.out)⟩
                 ·rw [if_neg c175] at H
                  have c175b0 : (t220 == t201) = false := beq_eq_false_iff_ne.mpr c175
                  have c175b1 : (t220 != t201) = true := bne_iff_ne.mpr c175
                  obtain rfl := Option.some.inj H
                  have hnb182 := NB184_152.out
                  have hnc182 := NB152_184.out
                  have hnb183 := NB184_168.out
                  have hnc183 := NB168_184.out
                  have hnb184 := NB184_174.out
                  have hnc184 := NB174_184.out
                  have hnb185 := NB184_218.out
                  have hnc185 := NB218_184.out
                  have hcz186_0 : wc.cell? ⟨gb184, 0, none⟩ = some (.int .i64 t178) := (blk_cell BK184.out 0).trans rfl
                  have hcz186_1 : wc.cell? ⟨gb184, 1, none⟩ = some (.int .i64 t179) := (blk_cell BK184.out 1).trans rfl
                  have hcz186_2 : wc.cell? ⟨gb184, 2, none⟩ = some (.slice Ao46 t202.length co46) := (blk_cell BK184.out 2).trans rfl
                  have hfz186_0 := blk_frozen BK184.out 0
                  have hfz186_1 := blk_frozen BK184.out 1
                  have hfz186_2 := blk_frozen BK184.out 2
                  go_wp2_with (first | ((with_reducible refine gate_callee (f := 13) rfl ?_); refine goesL_ (some 111) rfl rfl Try.func13 (by kernel_rfl) rfl #[.agg #[.int .i64 t178, .int .i64 t179, .slice Ao46 t202.length co46], .int .i64 1] rfl (by (try simp only [List.map_toArray, List.map_cons, List.map_nil]); first | done | rfl | (simp only [List.length_drop, List.length_take]; rfl)) ?_; (with_reducible refine (laws_heldMatrix.calls kj120 t178 t179 _ _ t202 1 t220 _ ?side1 ?side2 A167.out).mono ?_); (case side1 => repeat (first | exact (Kd.R_reads' HO_185002.out).2.2 | (with_reducible refine Kd.C_alloc ?_ _) | (with_reducible refine Kd.C_drewN ?_ _) | (with_reducible refine Kd.C_drew ?_))); (case side2 => exact (Kd.R_reads' HO_185002.out).2.1); rintro e w187 ⟨rfl, hb⟩; refine ⟨_, rfl, ?_⟩; have n0_ := Aside0.mk (Kd.R_below (by (with_reducible repeat (first | apply Kd.R_alloc | apply Kd.R_drewN | apply Kd.R_drew)); exact HO_169002.out) hb); have n1_ := Aside0.mk (Kd.R_below (by (with_reducible repeat (first | apply Kd.R_alloc | apply Kd.R_drewN | apply Kd.R_drew)); exact HO_175002.out) hb); have n2_ := Aside0.mk (Kd.R_below (by (with_reducible repeat (first | apply Kd.R_alloc | apply Kd.R_drewN | apply Kd.R_drew)); exact HO_185002.out) hb); have n3_ := Aside0.mk (Kd.R_below (by (with_reducible repeat (first | apply Kd.R_alloc | apply Kd.R_drewN | apply Kd.R_drew)); exact HO_219002.out) hb); have n4_ := Aside0.mk (blk_below (g := gb152) (o := .cells #[.int .i64 a0_0, .int .i64 a0_1, .slice A0_2 l0_2.length c0_2] 24 (0, 0)) (by (with_reducible repeat (first | refine blk_drewN ?_ _ | refine blk_drew ?_ | refine blk_alloc ?_ _)); exact BK152.out) hb); have n5_ := Aside0.mk (blk_below (g := gb168) (o := .cells #[.int .i64 t162, .int .i64 t163, .slice Ao29 t164.length co29] 26 (0, 0)) (by (with_reducible repeat (first | refine blk_drewN ?_ _ | refine blk_drew ?_ | refine blk_alloc ?_ _)); exact BK168.out) hb); have n6_ := Aside0.mk (blk_below (g := gb174) (o := .cells #[.int .i64 t169, .int .i64 t170, .slice Ao36 t197.length co36] 26 (0, 0)) (by (with_reducible repeat (first | refine blk_drewN ?_ _ | refine blk_drew ?_ | refine blk_alloc ?_ _)); exact BK174.out) hb); have n7_ := Aside0.mk (blk_below (g := gb184) (o := .cells #[.int .i64 t178, .int .i64 t179, .slice Ao46 t202.length co46] 26 (0, 0)) (by (with_reducible repeat (first | refine blk_drewN ?_ _ | refine blk_drew ?_ | refine blk_alloc ?_ _)); exact BK184.out) hb); have n8_ := Aside0.mk (blk_below (g := gb218) (o := .cells #[.int .i64 t212, .int .i64 t213, .slice Ao143 t214.length co143] 26 (0, 0)) (by (with_reducible repeat (first | refine blk_drewN ?_ _ | refine blk_drew ?_ | refine blk_alloc ?_ _)); exact BK218.out) hb); have n9_ := Aside0.mk (below_step (by repeat (first | (with_reducible first | exact HB.out | apply below_alloc | apply pw_below_drewN | apply below_drew1 | refine below_set ?_ GE152.out | refine below_set ?_ GE168.out | refine below_set ?_ GE174.out | refine below_set ?_ GE184.out | refine below_set ?_ GE218.out) | exact HB.out)) hb); clear HO_169002; clear HO_175002; clear HO_185002; clear HO_219002; clear BK152; clear BK168; clear BK174; clear BK184; clear BK218; clear HB; have HO_169002 := n0_; have HO_175002 := n1_; have HO_185002 := n2_; have HO_219002 := n3_; have BK152 := n4_; have BK168 := n5_; have BK174 := n6_; have BK184 := n7_; have BK218 := n8_; have HB := n9_; clear n0_ n1_ n2_ n3_ n4_ n5_ n6_ n7_ n8_ n9_; (try clear hb); (try clear hb2); (try clear hk); (try clear hi)))
                  go_ret
                  exact ⟨by first | rfl | (simp [errW_none, errW_some] <;> rfl) | (simp [*, errW_none, errW_some] <;> rfl), by repeat (first | (with_reducible first | exact HB.out | apply below_alloc | apply pw_below_drewN | apply below_drew1 | refine below_set ?_ GE152.out | refine below_set ?_ GE168.out | refine below_set ?_ GE174.out | refine below_set ?_ GE184.out | refine below_set ?_ GE218.out) | exact HB.out)⟩
            ·rw [if_neg c117] at H
             have c117b0 : (t203 == t201) = false := beq_eq_false_iff_ne.mpr c117
             have c117b1 : (t203 != t201) = true := bne_iff_ne.mpr c117
             obtain rfl := Option.some.inj H
             have hnb188 := NB184_152.out
             have hnc188 := NB152_184.out
             have hnb189 := NB184_168.out
             have hnc189 := NB168_184.out
             have hnb190 := NB184_174.out
             have hnc190 := NB174_184.out
             have hcz191_0 : wc.cell? ⟨gb184, 0, none⟩ = some (.int .i64 t178) := (blk_cell BK184.out 0).trans rfl
             have hcz191_1 : wc.cell? ⟨gb184, 1, none⟩ = some (.int .i64 t179) := (blk_cell BK184.out 1).trans rfl
             have hcz191_2 : wc.cell? ⟨gb184, 2, none⟩ = some (.slice Ao46 t180.length co46) := (blk_cell BK184.out 2).trans rfl
             have hfz191_0 := blk_frozen BK184.out 0
             have hfz191_1 := blk_frozen BK184.out 1
             have hfz191_2 := blk_frozen BK184.out 2
             go_wp2_with (first | ((with_reducible refine gate_callee (f := 11) rfl ?_); refine goesL_ (some 83) rfl rfl Try.func11 (by kernel_rfl) rfl #[.agg #[.int .i64 t178, .int .i64 t179, .slice Ao46 t180.length co46], .int .i64 1] rfl (by (try simp only [List.map_toArray, List.map_cons, List.map_nil]); first | done | rfl | (simp only [List.length_drop, List.length_take]; rfl)) ?_; (with_reducible refine (laws_markMatrix.calls kj73 t178 t179 (fun k_ => some k_ = (.slice Ao46 t180.length co46 : Value).ownBlock) (.slice Ao46 t180.length co46) t180 1 t201 t202 w _ ?side1 ?side2 A107.out).mono ?_); (case side1 => repeat (first | (with_reducible first | exact HB.out | apply below_alloc | apply pw_below_drewN | apply below_drew1 | refine below_set ?_ GE152.out | refine below_set ?_ GE168.out | refine below_set ?_ GE174.out | refine below_set ?_ GE184.out) | exact HB.out)); (case side2 => exact Kd.R_tight rfl HO_185002.out); rintro e w192 ⟨rfl, hy0, hb, hkp⟩; refine ⟨_, rfl, ?_⟩; have n0_ := Aside0.mk (Kd.R_mono (ok' := fun k_ => some k_ ≠ (.slice Ao36 t197.length co36 : Value).ownBlock ∧ some k_ ≠ (.slice Ao46 t180.length co46 : Value).ownBlock) (Kd.R_keptB (HO_169002.out) hkp (fun k_ hk_ hs_ => (hk_.2) hs_)) (fun k_ hk_ => ⟨hk_.1.1, hk_.1.2⟩)); have n1_ := Aside0.mk (Kd.R_mono (ok' := fun k_ => some k_ ≠ (.slice Ao29 t164.length co29 : Value).ownBlock ∧ some k_ ≠ (.slice Ao46 t180.length co46 : Value).ownBlock) (Kd.R_keptB (HO_175002.out) hkp (fun k_ hk_ hs_ => (hk_.2) hs_)) (fun k_ hk_ => ⟨hk_.1.1, hk_.1.2⟩)); have n2_ := Aside0.mk (Kd.R_reok rfl hy0 (fun k_ e_ => HO_185002.out.1 k_ e_)); have n3_ := Aside0.mk (blk_kept (by (with_reducible repeat (first | refine blk_drewN ?_ _ | refine blk_drew ?_ | refine blk_alloc ?_ _)); exact BK152.out) hkp (fun hs_ => (fun e_ => (Kd.R_ne HO_185002.out BK152.out (by decide)) e_) hs_)); have n4_ := Aside0.mk (blk_kept (by (with_reducible repeat (first | refine blk_drewN ?_ _ | refine blk_drew ?_ | refine blk_alloc ?_ _)); exact BK168.out) hkp (fun hs_ => (fun e_ => (Kd.R_ne HO_185002.out BK168.out (by decide)) e_) hs_)); have n5_ := Aside0.mk (blk_kept (by (with_reducible repeat (first | refine blk_drewN ?_ _ | refine blk_drew ?_ | refine blk_alloc ?_ _)); exact BK174.out) hkp (fun hs_ => (fun e_ => (Kd.R_ne HO_185002.out BK174.out (by decide)) e_) hs_)); have n6_ := Aside0.mk (blk_kept (by (with_reducible repeat (first | refine blk_drewN ?_ _ | refine blk_drew ?_ | refine blk_alloc ?_ _)); exact BK184.out) hkp (fun hs_ => (fun e_ => (Kd.R_ne HO_185002.out BK184.out (by decide)) e_) hs_)); have n7_ := Aside0.mk (hb); clear HO_169002; clear HO_175002; clear HO_185002; clear BK152; clear BK168; clear BK174; clear BK184; clear HB; have HO_169002 := n0_; have HO_175002 := n1_; have HO_185002 := n2_; have BK152 := n3_; have BK168 := n4_; have BK174 := n5_; have BK184 := n6_; have HB := n7_; clear n0_ n1_ n2_ n3_ n4_ n5_ n6_ n7_; (try clear hb); (try clear hkp); (try clear hy0); have hcz193_0 : w192.cell? ⟨gb184, 0, none⟩ = some (.int .i64 t178) := (blk_cell BK184.out 0).trans rfl; have hcz193_1 : w192.cell? ⟨gb184, 1, none⟩ = some (.int .i64 t179) := (blk_cell BK184.out 1).trans rfl; have hcz193_2 : w192.cell? ⟨gb184, 2, none⟩ = some (.slice Ao46 t180.length co46) := (blk_cell BK184.out 2).trans rfl; have hfz193_0 := blk_frozen BK184.out 0; have hfz193_1 := blk_frozen BK184.out 1; have hfz193_2 := blk_frozen BK184.out 2) | ((with_reducible refine gate_callee (f := 13) rfl ?_); refine goesL_ (some 86) rfl rfl Try.func13 (by kernel_rfl) rfl #[.agg #[.int .i64 t178, .int .i64 t179, .slice Ao46 t202.length co46], .int .i64 1] rfl (by (try simp only [List.map_toArray, List.map_cons, List.map_nil]); first | done | (rw [show t202.length = t180.length from (Kd.R_reads' HO_185002.out).1.symm] <;> rfl) | rfl | (simp only [List.length_drop, List.length_take]; rfl)) ?_; (with_reducible refine (laws_heldMatrix.calls kj73 t178 t179 _ _ t202 1 t203 _ ?side1 ?side2 A108.out).mono ?_); (case side1 => repeat (first | exact (Kd.R_reads' HO_185002.out).2.2 | (with_reducible refine Kd.C_alloc ?_ _) | (with_reducible refine Kd.C_drewN ?_ _) | (with_reducible refine Kd.C_drew ?_))); (case side2 => rw [show t202.length = t180.length from (Kd.R_reads' HO_185002.out).1.symm]; exact (Kd.R_reads' HO_185002.out).2.1); rintro e w194 ⟨rfl, hb⟩; refine ⟨_, rfl, ?_⟩; have n0_ := Aside0.mk (Kd.R_below (by (with_reducible repeat (first | apply Kd.R_alloc | apply Kd.R_drewN | apply Kd.R_drew)); exact HO_169002.out) hb); have n1_ := Aside0.mk (Kd.R_below (by (with_reducible repeat (first | apply Kd.R_alloc | apply Kd.R_drewN | apply Kd.R_drew)); exact HO_175002.out) hb); have n2_ := Aside0.mk (Kd.R_below (by (with_reducible repeat (first | apply Kd.R_alloc | apply Kd.R_drewN | apply Kd.R_drew)); exact HO_185002.out) hb); have n3_ := Aside0.mk (blk_below (g := gb152) (o := .cells #[.int .i64 a0_0, .int .i64 a0_1, .slice A0_2 l0_2.length c0_2] 24 (0, 0)) (by (with_reducible repeat (first | refine blk_drewN ?_ _ | refine blk_drew ?_ | refine blk_alloc ?_ _)); exact BK152.out) hb); have n4_ := Aside0.mk (blk_below (g := gb168) (o := .cells #[.int .i64 t162, .int .i64 t163, .slice Ao29 t164.length co29] 26 (0, 0)) (by (with_reducible repeat (first | refine blk_drewN ?_ _ | refine blk_drew ?_ | refine blk_alloc ?_ _)); exact BK168.out) hb); have n5_ := Aside0.mk (blk_below (g := gb174) (o := .cells #[.int .i64 t169, .int .i64 t170, .slice Ao36 t197.length co36] 26 (0, 0)) (by (with_reducible repeat (first | refine blk_drewN ?_ _ | refine blk_drew ?_ | refine blk_alloc ?_ _)); exact BK174.out) hb); have n6_ := Aside0.mk (blk_below (g := gb184) (o := .cells #[.int .i64 t178, .int .i64 t179, .slice Ao46 t180.length co46] 26 (0, 0)) (by (with_reducible repeat (first | refine blk_drewN ?_ _ | refine blk_drew ?_ | refine blk_alloc ?_ _)); exact BK184.out) hb); have n7_ := Aside0.mk (below_step (by repeat (first | (with_reducible first | exact HB.out | apply below_alloc | apply pw_below_drewN | apply below_drew1 | refine below_set ?_ GE152.out | refine below_set ?_ GE168.out | refine below_set ?_ GE174.out | refine below_set ?_ GE184.out) | exact HB.out)) hb); clear HO_169002; clear HO_175002; clear HO_185002; clear BK152; clear BK168; clear BK174; clear BK184; clear HB; have HO_169002 := n0_; have HO_175002 := n1_; have HO_185002 := n2_; have BK152 := n3_; have BK168 := n4_; have BK174 := n5_; have BK184 := n6_; have HB := n7_; clear n0_ n1_ n2_ n3_ n4_ n5_ n6_ n7_; (try clear hb); (try clear hb2); (try clear hk); (try clear hi)))
             go_ret
             exact ⟨by first | rfl | (simp [errW_none, errW_some] <;> rfl) | (simp [*, errW_none, errW_some] <;> rfl), by repeat (first | (with_reducible first | exact HB.out | apply below_alloc | apply pw_below_drewN | apply below_drew1 | refine below_set ?_ GE152.out | refine below_set ?_ GE168.out | refine below_set ?_ GE174.out | refine below_set ?_ GE184.out) | exact HB.out)⟩
       ·replace c71 := Bool.eq_false_iff.mpr c71
        subst c71
        have H1 : (some false) = some r := by rw [if_neg (show ¬ (false = true) by decide)] at H; exact H
        clear H
        have H := H1
        clear H1
        obtain rfl := Option.some.inj H
        try go_wp2
        have n0_ := Aside0.mk (Kd.R_drew HO_9.out)
        have n1_ := Aside0.mk (Kd.R_drew HO_169002.out)
        have n2_ := Aside0.mk (Kd.R_drew HO_175002.out)
        have n3_ := Aside0.mk (Kd.R_drew HO_185002.out)
        have n4_ := Aside0.mk (blk_drew BK152.out)
        have n5_ := Aside0.mk (blk_drew BK168.out)
        have n6_ := Aside0.mk (blk_drew BK174.out)
        have n7_ := Aside0.mk (blk_drew BK184.out)
        have n8_ := Aside0.mk (below_drew1 HB.out)
        clear HO_9
        clear HO_169002
        clear HO_175002
        clear HO_185002
        clear BK152
        clear BK168
        clear BK174
        clear BK184
        clear HB
        have HO_9 := n0_
        have HO_169002 := n1_
        have HO_175002 := n2_
        have HO_185002 := n3_
        have BK152 := n4_
        have BK168 := n5_
        have BK174 := n6_
        have BK184 := n7_
        have HB := n8_
        clear n0_ n1_ n2_ n3_ n4_ n5_ n6_ n7_ n8_
        refine start_ (n := 5) (S := fun w' => w'.cell? ⟨gb174, 0, none⟩ = some (.int .i64 t169) ∧ w'.cell? ⟨gb174, 1, none⟩ = some (.int .i64 t170) ∧ w'.cell? ⟨gb174, 2, none⟩ = some (.slice Ao36 t171.length co36) ∧ w'.cell? ⟨gb152, 0, none⟩ = some (.int .i64 a0_0) ∧ w'.cell? ⟨gb152, 1, none⟩ = some (.int .i64 a0_1) ∧ w'.cell? ⟨gb152, 2, none⟩ = some (.slice A0_2 l0_2.length c0_2)) (ds := []) #[false, false, false, false, false] (by kernel_rfl) rfl rfl ⟨(blk_cell BK174.out 0).trans rfl, (blk_cell BK174.out 1).trans rfl, (blk_cell BK174.out 2).trans rfl, (blk_cell BK152.out 0).trans rfl, (blk_cell BK152.out 1).trans rfl, (blk_cell BK152.out 2).trans rfl⟩ (fun hHeld => ?_)
        generalize wc.drew = w195 at HO_9 HO_169002 HO_175002 HO_185002 BK152 BK168 BK174 BK184 HB hHeld ⊢
        refine take_ (i := 0) (N := some 52) (v := ?_) (a' := ?_) #[true, false, false, false, false] rfl rfl (by kernel_rfl) (fun _ _ _ h => h) (Or.inl ⟨by rfl, ?_⟩) hHeld ?_ ?_
        (rotate_left; ·(rintro w' ⟨s0, s1, s2, s3, s4, s5⟩; go_simp; with_reducible rfl)); (rotate_left; ·(simp only [Act.put, pq_z3]; rfl))
        refine take_ (i := 1) (N := some 53) (v := ?_) (a' := ?_) #[true, true, false, false, false] rfl rfl (by kernel_rfl) (fun _ _ _ h => h) (Or.inl ⟨by rfl, ?_⟩) hHeld ?_ ?_
        (rotate_left; ·(rintro w' ⟨s0, s1, s2, s3, s4, s5⟩; go_simp; with_reducible rfl)); (rotate_left; ·(simp only [Act.put, pq_z3]; rfl))
        refine one_ (i := 2) (N := some 54) #[true, true, true, false, false] rfl rfl (by kernel_rfl) (by decide) (fun K hK => ?_)
        refine goes_ Try.func6 (by kernel_rfl) rfl #[.agg #[.int .i64 a0_0, .int .i64 a0_1, .slice A0_2 l0_2.length c0_2]] (by rfl) rfl rfl (by (try simp only [List.map_toArray, List.map_cons, List.map_nil]); first | done | rfl | (simp only [List.length_drop, List.length_take]; rfl)) ?_
        with_reducible refine (laws_toMatrix.calls kj15 a0_0 a0_1 _ _ l0_2 t186 t187 t188 _ ?side1 ?side2 A66.out).mono ?_
        (case side1 => repeat (first | exact (Kd.C_below HR0_2.out HB.out) | (with_reducible refine Kd.C_alloc ?_ _) | (with_reducible refine Kd.C_drewN ?_ _) | (with_reducible refine Kd.C_drew ?_)))
        (case side2 => exact HC0_2.out)
        rintro e w196 ⟨v189, rfl, ho0, hb⟩
        refine ⟨_, rfl, ?_⟩
        have n0_ := Aside0.mk (Kd.R_elder' (by (with_reducible repeat (first | apply Kd.R_alloc | apply Kd.R_drewN | apply Kd.R_drew)); exact HO_9.out) (Kd.R_base ho0) hb)
        have n1_ := Aside0.mk (Kd.R_elder' (by (with_reducible repeat (first | apply Kd.R_alloc | apply Kd.R_drewN | apply Kd.R_drew)); exact HO_169002.out) (Kd.R_base ho0) hb)
        have n2_ := Aside0.mk (Kd.R_elder' (by (with_reducible repeat (first | apply Kd.R_alloc | apply Kd.R_drewN | apply Kd.R_drew)); exact HO_175002.out) (Kd.R_base ho0) hb)
        have n3_ := Aside0.mk (Kd.R_elder' (by (with_reducible repeat (first | apply Kd.R_alloc | apply Kd.R_drewN | apply Kd.R_drew)); exact HO_185002.out) (Kd.R_base ho0) hb)
        have n4_ := Aside0.mk (Kd.R_lower (Kd.R_new' (Kd.R_new' (Kd.R_new' (Kd.R_new' ho0 (Kd.R_lt (by (with_reducible repeat (first | apply Kd.R_alloc | apply Kd.R_drewN | apply Kd.R_drew)); exact HO_9.out))) (Kd.R_lt (by (with_reducible repeat (first | apply Kd.R_alloc | apply Kd.R_drewN | apply Kd.R_drew)); exact HO_169002.out))) (Kd.R_lt (by (with_reducible repeat (first | apply Kd.R_alloc | apply Kd.R_drewN | apply Kd.R_drew)); exact HO_175002.out))) (Kd.R_lt (by (with_reducible repeat (first | apply Kd.R_alloc | apply Kd.R_drewN | apply Kd.R_drew)); exact HO_185002.out))) (below_size (by repeat (first | (with_reducible first | exact HB.out | apply below_alloc | apply pw_below_drewN | apply below_drew1 | refine below_set ?_ GE152.out | refine below_set ?_ GE168.out | refine below_set ?_ GE174.out | refine below_set ?_ GE184.out) | exact HB.out))))
        have n5_ := Aside0.mk (blk_below (g := gb152) (o := .cells #[.int .i64 a0_0, .int .i64 a0_1, .slice A0_2 l0_2.length c0_2] 24 (0, 0)) (by (with_reducible repeat (first | refine blk_drewN ?_ _ | refine blk_drew ?_ | refine blk_alloc ?_ _)); exact BK152.out) hb)
        have n6_ := Aside0.mk (blk_below (g := gb168) (o := .cells #[.int .i64 t162, .int .i64 t163, .slice Ao29 t164.length co29] 26 (0, 0)) (by (with_reducible repeat (first | refine blk_drewN ?_ _ | refine blk_drew ?_ | refine blk_alloc ?_ _)); exact BK168.out) hb)
        have n7_ := Aside0.mk (blk_below (g := gb174) (o := .cells #[.int .i64 t169, .int .i64 t170, .slice Ao36 t171.length co36] 26 (0, 0)) (by (with_reducible repeat (first | refine blk_drewN ?_ _ | refine blk_drew ?_ | refine blk_alloc ?_ _)); exact BK174.out) hb)
        have n8_ := Aside0.mk (blk_below (g := gb184) (o := .cells #[.int .i64 t178, .int .i64 t179, .slice Ao46 t180.length co46] 26 (0, 0)) (by (with_reducible repeat (first | refine blk_drewN ?_ _ | refine blk_drew ?_ | refine blk_alloc ?_ _)); exact BK184.out) hb)
        have n9_ := Aside0.mk (below_step (by repeat (first | (with_reducible first | exact HB.out | apply below_alloc | apply pw_below_drewN | apply below_drew1 | refine below_set ?_ GE152.out | refine below_set ?_ GE168.out | refine below_set ?_ GE174.out | refine below_set ?_ GE184.out) | exact HB.out)) hb)
        clear HO_9
        clear HO_169002
        clear HO_175002
        clear HO_185002
        clear BK152
        clear BK168
        clear BK174
        clear BK184
        clear HB
        have HO_9 := n0_
        have HO_169002 := n1_
        have HO_175002 := n2_
        have HO_185002 := n3_
        have HO190 := n4_
        have BK152 := n5_
        have BK168 := n6_
        have BK174 := n7_
        have BK184 := n8_
        have HB := n9_
        clear n0_ n1_ n2_ n3_ n4_ n5_ n6_ n7_ n8_ n9_
        (try clear hb)
        (try clear hb2)
        (try clear hk)
        (try clear hi)
        (try clear ho0)
        obtain ⟨Ao197, co197, eo197⟩ := Kd.R_slice HO190.out
        (first | subst eo197 | (injection eo197 with f1_ f2_ f3_; have f4_ := f1_.symm; have f5_ := f3_.symm; clear f1_ f2_ f3_; subst f4_; subst f5_))
        refine hK.out _ _ ⟨(blk_cell BK174.out 0).trans rfl, (blk_cell BK174.out 1).trans rfl, (blk_cell BK174.out 2).trans rfl, (blk_cell BK152.out 0).trans rfl, (blk_cell BK152.out 1).trans rfl, (blk_cell BK152.out 2).trans rfl⟩ (fun hHeld => ?_)
        clear hK K
        refine norm_ (a' := ?_) ?_ ?_
        (rotate_left; ·(show Act.put _ (some 54) _ = _; simp only [Act.put, pq_z3]; rfl))
        refine one_ (i := 3) (N := some 55) #[true, true, true, true, false] rfl rfl (by kernel_rfl) (by decide) (fun K hK => ?_)
        refine goes_ Try.func9 (by kernel_rfl) rfl #[.agg #[.int .i64 t169, .int .i64 t170, .slice Ao36 t171.length co36], .agg #[.int .i64 t186, .int .i64 t187, .slice Ao197 t188.length co197]] (by rfl) rfl rfl (by (try simp only [List.map_toArray, List.map_cons, List.map_nil]); first | done | rfl | (simp only [List.length_drop, List.length_take]; rfl)) ?_
        with_reducible refine (laws_eqMatrix.calls kj15 t169 t170 _ _ t171 t186 t187 _ _ t188 true _ ?side1 ?side2 ?side3 ?side4 A67.out).mono ?_
        (case side1 => repeat (first | exact (Kd.R_reads' HO_175002.out).2.2 | (with_reducible refine Kd.C_alloc ?_ _) | (with_reducible refine Kd.C_drewN ?_ _) | (with_reducible refine Kd.C_drew ?_)))
        (case side2 => exact (Kd.R_reads' HO_175002.out).2.1)
        (case side3 => repeat (first | exact (Kd.R_reads' HO190.out).2.2 | (with_reducible refine Kd.C_alloc ?_ _) | (with_reducible refine Kd.C_drewN ?_ _) | (with_reducible refine Kd.C_drew ?_)))
        (case side4 => exact (Kd.R_reads' HO190.out).2.1)
        rintro e w198 ⟨rfl, hb⟩
        refine ⟨_, rfl, ?_⟩
        have n0_ := Aside0.mk (Kd.R_below (by (with_reducible repeat (first | apply Kd.R_alloc | apply Kd.R_drewN | apply Kd.R_drew)); exact HO_9.out) hb)
        have n1_ := Aside0.mk (Kd.R_below (by (with_reducible repeat (first | apply Kd.R_alloc | apply Kd.R_drewN | apply Kd.R_drew)); exact HO_169002.out) hb)
        have n2_ := Aside0.mk (Kd.R_below (by (with_reducible repeat (first | apply Kd.R_alloc | apply Kd.R_drewN | apply Kd.R_drew)); exact HO_175002.out) hb)
        have n3_ := Aside0.mk (Kd.R_below (by (with_reducible repeat (first | apply Kd.R_alloc | apply Kd.R_drewN | apply Kd.R_drew)); exact HO_185002.out) hb)
        have n4_ := Aside0.mk (Kd.R_below (by (with_reducible repeat (first | apply Kd.R_alloc | apply Kd.R_drewN | apply Kd.R_drew)); exact HO190.out) hb)
        have n5_ := Aside0.mk (blk_below (g := gb152) (o := .cells #[.int .i64 a0_0, .int .i64 a0_1, .slice A0_2 l0_2.length c0_2] 24 (0, 0)) (by (with_reducible repeat (first | refine blk_drewN ?_ _ | refine blk_drew ?_ | refine blk_alloc ?_ _)); exact BK152.out) hb)
        have n6_ := Aside0.mk (blk_below (g := gb168) (o := .cells #[.int .i64 t162, .int .i64 t163, .slice Ao29 t164.length co29] 26 (0, 0)) (by (with_reducible repeat (first | refine blk_drewN ?_ _ | refine blk_drew ?_ | refine blk_alloc ?_ _)); exact BK168.out) hb)
        have n7_ := Aside0.mk (blk_below (g := gb174) (o := .cells #[.int .i64 t169, .int .i64 t170, .slice Ao36 t171.length co36] 26 (0, 0)) (by (with_reducible repeat (first | refine blk_drewN ?_ _ | refine blk_drew ?_ | refine blk_alloc ?_ _)); exact BK174.out) hb)
        have n8_ := Aside0.mk (blk_below (g := gb184) (o := .cells #[.int .i64 t178, .int .i64 t179, .slice Ao46 t180.length co46] 26 (0, 0)) (by (with_reducible repeat (first | refine blk_drewN ?_ _ | refine blk_drew ?_ | refine blk_alloc ?_ _)); exact BK184.out) hb)
        have n9_ := Aside0.mk (below_step (by repeat (first | (with_reducible first | exact HB.out | apply below_alloc | apply pw_below_drewN | apply below_drew1 | refine below_set ?_ GE152.out | refine below_set ?_ GE168.out | refine below_set ?_ GE174.out | refine below_set ?_ GE184.out) | exact HB.out)) hb)
        clear HO_9
        clear HO_169002
        clear HO_175002
        clear HO_185002
        clear HO190
        clear BK152
        clear BK168
        clear BK174
        clear BK184
        clear HB
        have HO_9 := n0_
        have HO_169002 := n1_
        have HO_175002 := n2_
        have HO_185002 := n3_
        have HO190 := n4_
        have BK152 := n5_
        have BK168 := n6_
        have BK174 := n7_
        have BK184 := n8_
        have HB := n9_
        clear n0_ n1_ n2_ n3_ n4_ n5_ n6_ n7_ n8_ n9_
        (try clear hb)
        (try clear hb2)
        (try clear hk)
        (try clear hi)
        refine hK.out _ _ ⟨(blk_cell BK174.out 0).trans rfl, (blk_cell BK174.out 1).trans rfl, (blk_cell BK174.out 2).trans rfl, (blk_cell BK152.out 0).trans rfl, (blk_cell BK152.out 1).trans rfl, (blk_cell BK152.out 2).trans rfl⟩ (fun hHeld => ?_)
        clear hK K
        refine norm_ (a' := ?_) ?_ ?_
        (rotate_left; ·(show Act.put _ (some 55) _ = _; simp only [Act.put, pq_z3]; rfl))
        refine pu_z3 4 (some 56) ?_ #[true, true, true, true, true] rfl rfl (by kernel_rfl) (fun _ _ _ h => h) (Or.inl ⟨by rfl, ?_⟩) ?_ ?_ ?_
        (rotate_left; ·(intro w'; go_simp; with_reducible rfl)); (rotate_left; ·(simp only [Act.put, pq_z3]; rfl))
        refine done_ (by kernel_rfl) ?_
        try go_wp2_with (first | ((with_reducible refine gate_callee (f := 7) rfl ?_); refine goesL_ (some 59) rfl rfl Try.func7 (by kernel_rfl) rfl #[.slice A1 l1.length c1] rfl (by (try simp only [List.map_toArray, List.map_cons, List.map_nil]); first | done | rfl | (simp only [List.length_drop, List.length_take]; rfl)) ?_; (with_reducible refine (laws_toInt64S.calls kj15 _ _ l1 t192 _ ?side1 ?side2 A69.out).mono ?_); (case side1 => repeat (first | exact (Kd.C_below HR1.out HB.out) | (with_reducible refine Kd.C_alloc ?_ _) | (with_reducible refine Kd.C_drewN ?_ _) | (with_reducible refine Kd.C_drew ?_))); (case side2 => exact HC1.out); rintro e w199 ⟨v193, rfl, ho0, hb⟩; refine ⟨_, rfl, ?_⟩; have n0_ := Aside0.mk (Kd.R_elder' (by (with_reducible repeat (first | apply Kd.R_alloc | apply Kd.R_drewN | apply Kd.R_drew)); exact HO_9.out) (Kd.R_base ho0) hb); have n1_ := Aside0.mk (Kd.R_elder' (by (with_reducible repeat (first | apply Kd.R_alloc | apply Kd.R_drewN | apply Kd.R_drew)); exact HO_169002.out) (Kd.R_base ho0) hb); have n2_ := Aside0.mk (Kd.R_elder' (by (with_reducible repeat (first | apply Kd.R_alloc | apply Kd.R_drewN | apply Kd.R_drew)); exact HO_175002.out) (Kd.R_base ho0) hb); have n3_ := Aside0.mk (Kd.R_elder' (by (with_reducible repeat (first | apply Kd.R_alloc | apply Kd.R_drewN | apply Kd.R_drew)); exact HO_185002.out) (Kd.R_base ho0) hb); have n4_ := Aside0.mk (Kd.R_elder' (by (with_reducible repeat (first | apply Kd.R_alloc | apply Kd.R_drewN | apply Kd.R_drew)); exact HO190.out) (Kd.R_base ho0) hb); have n5_ := Aside0.mk (Kd.R_lower (Kd.R_new' (Kd.R_new' (Kd.R_new' (Kd.R_new' (Kd.R_new' ho0 (Kd.R_lt (by (with_reducible repeat (first | apply Kd.R_alloc | apply Kd.R_drewN | apply Kd.R_drew)); exact HO_9.out))) (Kd.R_lt (by (with_reducible repeat (first | apply Kd.R_alloc | apply Kd.R_drewN | apply Kd.R_drew)); exact HO_169002.out))) (Kd.R_lt (by (with_reducible repeat (first | apply Kd.R_alloc | apply Kd.R_drewN | apply Kd.R_drew)); exact HO_175002.out))) (Kd.R_lt (by (with_reducible repeat (first | apply Kd.R_alloc | apply Kd.R_drewN | apply Kd.R_drew)); exact HO_185002.out))) (Kd.R_lt (by (with_reducible repeat (first | apply Kd.R_alloc | apply Kd.R_drewN | apply Kd.R_drew)); exact HO190.out))) (below_size (by repeat (first | (with_reducible first | exact HB.out | apply below_alloc | apply pw_below_drewN | apply below_drew1 | refine below_set ?_ GE152.out | refine below_set ?_ GE168.out | refine below_set ?_ GE174.out | refine below_set ?_ GE184.out) | exact HB.out)))); have n6_ := Aside0.mk (blk_below (g := gb152) (o := .cells #[.int .i64 a0_0, .int .i64 a0_1, .slice A0_2 l0_2.length c0_2] 24 (0, 0)) (by (with_reducible repeat (first | refine blk_drewN ?_ _ | refine blk_drew ?_ | refine blk_alloc ?_ _)); exact BK152.out) hb); have n7_ := Aside0.mk (blk_below (g := gb168) (o := .cells #[.int .i64 t162, .int .i64 t163, .slice Ao29 t164.length co29] 26 (0, 0)) (by (with_reducible repeat (first | refine blk_drewN ?_ _ | refine blk_drew ?_ | refine blk_alloc ?_ _)); exact BK168.out) hb); have n8_ := Aside0.mk (blk_below (g := gb174) (o := .cells #[.int .i64 t169, .int .i64 t170, .slice Ao36 t171.length co36] 26 (0, 0)) (by (with_reducible repeat (first | refine blk_drewN ?_ _ | refine blk_drew ?_ | refine blk_alloc ?_ _)); exact BK174.out) hb); have n9_ := Aside0.mk (blk_below (g := gb184) (o := .cells #[.int .i64 t178, .int .i64 t179, .slice Ao46 t180.length co46] 26 (0, 0)) (by (with_reducible repeat (first | refine blk_drewN ?_ _ | refine blk_drew ?_ | refine blk_alloc ?_ _)); exact BK184.out) hb); have n10_ := Aside0.mk (below_step (by repeat (first | (with_reducible first | exact HB.out | apply below_alloc | apply pw_below_drewN | apply below_drew1 | refine below_set ?_ GE152.out | refine below_set ?_ GE168.out | refine below_set ?_ GE174.out | refine below_set ?_ GE184.out) | exact HB.out)) hb); clear HO_9; clear HO_169002; clear HO_175002; clear HO_185002; clear HO190; clear BK152; clear BK168; clear BK174; clear BK184; clear HB; have HO_9 := n0_; have HO_169002 := n1_; have HO_175002 := n2_; have HO_185002 := n3_; have HO190 := n4_; have HO194 := n5_; have BK152 := n6_; have BK168 := n7_; have BK174 := n8_; have BK184 := n9_; have HB := n10_; clear n0_ n1_ n2_ n3_ n4_ n5_ n6_ n7_ n8_ n9_ n10_; (try clear hb); (try clear hb2); (try clear hk); (try clear hi); (try clear ho0); obtain ⟨Ao200, co200, eo200⟩ := Kd.R_slice HO194.out; subst eo200) | ((with_reducible refine gate_callee (f := 10) rfl ?_); refine goesL_ (some 60) rfl rfl Try.func10 (by kernel_rfl) rfl #[.slice Ao39 t175.length co39, .slice Ao200 t192.length co200] rfl (by (try simp only [List.map_toArray, List.map_cons, List.map_nil]); first | done | rfl | (simp only [List.length_drop, List.length_take]; rfl)) ?_; (with_reducible refine (laws_eqInt64S.calls kj15 _ _ t175 _ _ t192 false _ ?side1 ?side2 ?side3 ?side4 A70.out).mono ?_); (case side1 => repeat (first | exact (Kd.R_reads' HO_9.out).2.2 | (with_reducible refine Kd.C_alloc ?_ _) | (with_reducible refine Kd.C_drewN ?_ _) | (with_reducible refine Kd.C_drew ?_))); (case side2 => exact (Kd.R_reads' HO_9.out).2.1); (case side3 => repeat (first | exact (Kd.R_reads' HO194.out).2.2 | (with_reducible refine Kd.C_alloc ?_ _) | (with_reducible refine Kd.C_drewN ?_ _) | (with_reducible refine Kd.C_drew ?_))); (case side4 => exact (Kd.R_reads' HO194.out).2.1); rintro e w' ⟨rfl, ⟨nd, rfl⟩⟩; refine ⟨_, rfl, ?_⟩))
        go_ret
        exact ⟨by first | rfl | (simp [errW_none, errW_some] <;> rfl) | (simp [*, errW_none, errW_some] <;> rfl), by repeat (first | (with_reducible first | exact HB.out | apply below_alloc | apply pw_below_drewN | apply below_drew1 | refine below_set ?_ GE152.out | refine below_set ?_ GE168.out | refine below_set ?_ GE174.out | refine below_set ?_ GE184.out) | exact HB.out)⟩
      ·replace c68 := Bool.eq_false_iff.mpr c68
       subst c68
       have H1 : (some false) = some r := by rw [if_neg (show ¬ (false = true) by decide)] at H; exact H
       clear H
       have H := H1
       clear H1
       obtain rfl := Option.some.inj H
       try go_wp2
       have n0_ := Aside0.mk (Kd.R_drew HO_9.out)
       have n1_ := Aside0.mk (Kd.R_drew HO_169002.out)
       have n2_ := Aside0.mk (Kd.R_drew HO_175002.out)
       have n3_ := Aside0.mk (Kd.R_drew HO_185002.out)
       have n4_ := Aside0.mk (blk_drew BK152.out)
       have n5_ := Aside0.mk (blk_drew BK168.out)
       have n6_ := Aside0.mk (blk_drew BK174.out)
       have n7_ := Aside0.mk (blk_drew BK184.out)
       have n8_ := Aside0.mk (below_drew1 HB.out)
       clear HO_9
       clear HO_169002
       clear HO_175002
       clear HO_185002
       clear BK152
       clear BK168
       clear BK174
       clear BK184
       clear HB
       have HO_9 := n0_
       have HO_169002 := n1_
       have HO_175002 := n2_
       have HO_185002 := n3_
       have BK152 := n4_
       have BK168 := n5_
       have BK174 := n6_
       have BK184 := n7_
       have HB := n8_
       clear n0_ n1_ n2_ n3_ n4_ n5_ n6_ n7_ n8_
       refine start_ (n := 5) (S := fun w' => w'.cell? ⟨gb174, 0, none⟩ = some (.int .i64 t169) ∧ w'.cell? ⟨gb174, 1, none⟩ = some (.int .i64 t170) ∧ w'.cell? ⟨gb174, 2, none⟩ = some (.slice Ao36 t171.length co36) ∧ w'.cell? ⟨gb152, 0, none⟩ = some (.int .i64 a0_0) ∧ w'.cell? ⟨gb152, 1, none⟩ = some (.int .i64 a0_1) ∧ w'.cell? ⟨gb152, 2, none⟩ = some (.slice A0_2 l0_2.length c0_2)) (ds := []) #[false, false, false, false, false] (by kernel_rfl) rfl rfl ⟨(blk_cell BK174.out 0).trans rfl, (blk_cell BK174.out 1).trans rfl, (blk_cell BK174.out 2).trans rfl, (blk_cell BK152.out 0).trans rfl, (blk_cell BK152.out 1).trans rfl, (blk_cell BK152.out 2).trans rfl⟩ (fun hHeld => ?_)
       generalize wc.drew = w201 at HO_9 HO_169002 HO_175002 HO_185002 BK152 BK168 BK174 BK184 HB hHeld ⊢
       refine take_ (i := 0) (N := some 52) (v := ?_) (a' := ?_) #[true, false, false, false, false] rfl rfl (by kernel_rfl) (fun _ _ _ h => h) (Or.inl ⟨by rfl, ?_⟩) hHeld ?_ ?_
       (rotate_left; ·(rintro w' ⟨s0, s1, s2, s3, s4, s5⟩; go_simp; with_reducible rfl)); (rotate_left; ·(simp only [Act.put, pq_z3]; rfl))
       refine take_ (i := 1) (N := some 53) (v := ?_) (a' := ?_) #[true, true, false, false, false] rfl rfl (by kernel_rfl) (fun _ _ _ h => h) (Or.inl ⟨by rfl, ?_⟩) hHeld ?_ ?_
       (rotate_left; ·(rintro w' ⟨s0, s1, s2, s3, s4, s5⟩; go_simp; with_reducible rfl)); (rotate_left; ·(simp only [Act.put, pq_z3]; rfl))
       refine one_ (i := 2) (N := some 54) #[true, true, true, false, false] rfl rfl (by kernel_rfl) (by decide) (fun K hK => ?_)
       refine goes_ Try.func6 (by kernel_rfl) rfl #[.agg #[.int .i64 a0_0, .int .i64 a0_1, .slice A0_2 l0_2.length c0_2]] (by rfl) rfl rfl (by (try simp only [List.map_toArray, List.map_cons, List.map_nil]); first | done | rfl | (simp only [List.length_drop, List.length_take]; rfl)) ?_
       with_reducible refine (laws_toMatrix.calls kj15 a0_0 a0_1 _ _ l0_2 t186 t187 t188 _ ?side1 ?side2 A66.out).mono ?_
       (case side1 => repeat (first | exact (Kd.C_below HR0_2.out HB.out) | (with_reducible refine Kd.C_alloc ?_ _) | (with_reducible refine Kd.C_drewN ?_ _) | (with_reducible refine Kd.C_drew ?_)))
       (case side2 => exact HC0_2.out)
       rintro e w202 ⟨v189, rfl, ho0, hb⟩
       refine ⟨_, rfl, ?_⟩
       have n0_ := Aside0.mk (Kd.R_elder' (by (with_reducible repeat (first | apply Kd.R_alloc | apply Kd.R_drewN | apply Kd.R_drew)); exact HO_9.out) (Kd.R_base ho0) hb)
       have n1_ := Aside0.mk (Kd.R_elder' (by (with_reducible repeat (first | apply Kd.R_alloc | apply Kd.R_drewN | apply Kd.R_drew)); exact HO_169002.out) (Kd.R_base ho0) hb)
       have n2_ := Aside0.mk (Kd.R_elder' (by (with_reducible repeat (first | apply Kd.R_alloc | apply Kd.R_drewN | apply Kd.R_drew)); exact HO_175002.out) (Kd.R_base ho0) hb)
       have n3_ := Aside0.mk (Kd.R_elder' (by (with_reducible repeat (first | apply Kd.R_alloc | apply Kd.R_drewN | apply Kd.R_drew)); exact HO_185002.out) (Kd.R_base ho0) hb)
       have n4_ := Aside0.mk (Kd.R_lower (Kd.R_new' (Kd.R_new' (Kd.R_new' (Kd.R_new' ho0 (Kd.R_lt (by (with_reducible repeat (first | apply Kd.R_alloc | apply Kd.R_drewN | apply Kd.R_drew)); exact HO_9.out))) (Kd.R_lt (by (with_reducible repeat (first | apply Kd.R_alloc | apply Kd.R_drewN | apply Kd.R_drew)); exact HO_169002.out))) (Kd.R_lt (by (with_reducible repeat (first | apply Kd.R_alloc | apply Kd.R_drewN | apply Kd.R_drew)); exact HO_175002.out))) (Kd.R_lt (by (with_reducible repeat (first | apply Kd.R_alloc | apply Kd.R_drewN | apply Kd.R_drew)); exact HO_185002.out))) (below_size (by repeat (first | (with_reducible first | exact HB.out | apply below_alloc | apply pw_below_drewN | apply below_drew1 | refine below_set ?_ GE152.out | refine below_set ?_ GE168.out | refine below_set ?_ GE174.out | refine below_set ?_ GE184.out) | exact HB.out))))
       have n5_ := Aside0.mk (blk_below (g := gb152) (o := .cells #[.int .i64 a0_0, .int .i64 a0_1, .slice A0_2 l0_2.length c0_2] 24 (0, 0)) (by (with_reducible repeat (first | refine blk_drewN ?_ _ | refine blk_drew ?_ | refine blk_alloc ?_ _)); exact BK152.out) hb)
       have n6_ := Aside0.mk (blk_below (g := gb168) (o := .cells #[.int .i64 t162, .int .i64 t163, .slice Ao29 t164.length co29] 26 (0, 0)) (by (with_reducible repeat (first | refine blk_drewN ?_ _ | refine blk_drew ?_ | refine blk_alloc ?_ _)); exact BK168.out) hb)
       have n7_ := Aside0.mk (blk_below (g := gb174) (o := .cells #[.int .i64 t169, .int .i64 t170, .slice Ao36 t171.length co36] 26 (0, 0)) (by (with_reducible repeat (first | refine blk_drewN ?_ _ | refine blk_drew ?_ | refine blk_alloc ?_ _)); exact BK174.out) hb)
       have n8_ := Aside0.mk (blk_below (g := gb184) (o := .cells #[.int .i64 t178, .int .i64 t179, .slice Ao46 t180.length co46] 26 (0, 0)) (by (with_reducible repeat (first | refine blk_drewN ?_ _ | refine blk_drew ?_ | refine blk_alloc ?_ _)); exact BK184.out) hb)
       have n9_ := Aside0.mk (below_step (by repeat (first | (with_reducible first | exact HB.out | apply below_alloc | apply pw_below_drewN | apply below_drew1 | refine below_set ?_ GE152.out | refine below_set ?_ GE168.out | refine below_set ?_ GE174.out | refine below_set ?_ GE184.out) | exact HB.out)) hb)
       clear HO_9
       clear HO_169002
       clear HO_175002
       clear HO_185002
       clear BK152
       clear BK168
       clear BK174
       clear BK184
       clear HB
       have HO_9 := n0_
       have HO_169002 := n1_
       have HO_175002 := n2_
       have HO_185002 := n3_
       have HO190 := n4_
       have BK152 := n5_
       have BK168 := n6_
       have BK174 := n7_
       have BK184 := n8_
       have HB := n9_
       clear n0_ n1_ n2_ n3_ n4_ n5_ n6_ n7_ n8_ n9_
       (try clear hb)
       (try clear hb2)
       (try clear hk)
       (try clear hi)
       (try clear ho0)
       obtain ⟨Ao203, co203, eo203⟩ := Kd.R_slice HO190.out
       (first | subst eo203 | (injection eo203 with f1_ f2_ f3_; have f4_ := f1_.symm; have f5_ := f3_.symm; clear f1_ f2_ f3_; subst f4_; subst f5_))
       refine hK.out _ _ ⟨(blk_cell BK174.out 0).trans rfl, (blk_cell BK174.out 1).trans rfl, (blk_cell BK174.out 2).trans rfl, (blk_cell BK152.out 0).trans rfl, (blk_cell BK152.out 1).trans rfl, (blk_cell BK152.out 2).trans rfl⟩ (fun hHeld => ?_)
       clear hK K
       refine norm_ (a' := ?_) ?_ ?_
       (rotate_left; ·(show Act.put _ (some 54) _ = _; simp only [Act.put, pq_z3]; rfl))
       refine one_ (i := 3) (N := some 55) #[true, true, true, true, false] rfl rfl (by kernel_rfl) (by decide) (fun K hK => ?_)
       refine goes_ Try.func9 (by kernel_rfl) rfl #[.agg #[.int .i64 t169, .int .i64 t170, .slice Ao36 t171.length co36], .agg #[.int .i64 t186, .int .i64 t187, .slice Ao203 t188.length co203]] (by rfl) rfl rfl (by (try simp only [List.map_toArray, List.map_cons, List.map_nil]); first | done | rfl | (simp only [List.length_drop, List.length_take]; rfl)) ?_
       with_reducible refine (laws_eqMatrix.calls kj15 t169 t170 _ _ t171 t186 t187 _ _ t188 false _ ?side1 ?side2 ?side3 ?side4 A67.out).mono ?_
       (case side1 => repeat (first | exact (Kd.R_reads' HO_175002.out).2.2 | (with_reducible refine Kd.C_alloc ?_ _) | (with_reducible refine Kd.C_drewN ?_ _) | (with_reducible refine Kd.C_drew ?_)))
       (case side2 => exact (Kd.R_reads' HO_175002.out).2.1)
       (case side3 => repeat (first | exact (Kd.R_reads' HO190.out).2.2 | (with_reducible refine Kd.C_alloc ?_ _) | (with_reducible refine Kd.C_drewN ?_ _) | (with_reducible refine Kd.C_drew ?_)))
       (case side4 => exact (Kd.R_reads' HO190.out).2.1)
       rintro e w204 ⟨rfl, hb⟩
       refine ⟨_, rfl, ?_⟩
       have n0_ := Aside0.mk (Kd.R_below (by (with_reducible repeat (first | apply Kd.R_alloc | apply Kd.R_drewN | apply Kd.R_drew)); exact HO_9.out) hb)
       have n1_ := Aside0.mk (Kd.R_below (by (with_reducible repeat (first | apply Kd.R_alloc | apply Kd.R_drewN | apply Kd.R_drew)); exact HO_169002.out) hb)
       have n2_ := Aside0.mk (Kd.R_below (by (with_reducible repeat (first | apply Kd.R_alloc | apply Kd.R_drewN | apply Kd.R_drew)); exact HO_175002.out) hb)
       have n3_ := Aside0.mk (Kd.R_below (by (with_reducible repeat (first | apply Kd.R_alloc | apply Kd.R_drewN | apply Kd.R_drew)); exact HO_185002.out) hb)
       have n4_ := Aside0.mk (Kd.R_below (by (with_reducible repeat (first | apply Kd.R_alloc | apply Kd.R_drewN | apply Kd.R_drew)); exact HO190.out) hb)
       have n5_ := Aside0.mk (blk_below (g := gb152) (o := .cells #[.int .i64 a0_0, .int .i64 a0_1, .slice A0_2 l0_2.length c0_2] 24 (0, 0)) (by (with_reducible repeat (first | refine blk_drewN ?_ _ | refine blk_drew ?_ | refine blk_alloc ?_ _)); exact BK152.out) hb)
       have n6_ := Aside0.mk (blk_below (g := gb168) (o := .cells #[.int .i64 t162, .int .i64 t163, .slice Ao29 t164.length co29] 26 (0, 0)) (by (with_reducible repeat (first | refine blk_drewN ?_ _ | refine blk_drew ?_ | refine blk_alloc ?_ _)); exact BK168.out) hb)
       have n7_ := Aside0.mk (blk_below (g := gb174) (o := .cells #[.int .i64 t169, .int .i64 t170, .slice Ao36 t171.length co36] 26 (0, 0)) (by (with_reducible repeat (first | refine blk_drewN ?_ _ | refine blk_drew ?_ | refine blk_alloc ?_ _)); exact BK174.out) hb)
       have n8_ := Aside0.mk (blk_below (g := gb184) (o := .cells #[.int .i64 t178, .int .i64 t179, .slice Ao46 t180.length co46] 26 (0, 0)) (by (with_reducible repeat (first | refine blk_drewN ?_ _ | refine blk_drew ?_ | refine blk_alloc ?_ _)); exact BK184.out) hb)
       have n9_ := Aside0.mk (below_step (by repeat (first | (with_reducible first | exact HB.out | apply below_alloc | apply pw_below_drewN | apply below_drew1 | refine below_set ?_ GE152.out | refine below_set ?_ GE168.out | refine below_set ?_ GE174.out | refine below_set ?_ GE184.out) | exact HB.out)) hb)
       clear HO_9
       clear HO_169002
       clear HO_175002
       clear HO_185002
       clear HO190
       clear BK152
       clear BK168
       clear BK174
       clear BK184
       clear HB
       have HO_9 := n0_
       have HO_169002 := n1_
       have HO_175002 := n2_
       have HO_185002 := n3_
       have HO190 := n4_
       have BK152 := n5_
       have BK168 := n6_
       have BK174 := n7_
       have BK184 := n8_
       have HB := n9_
       clear n0_ n1_ n2_ n3_ n4_ n5_ n6_ n7_ n8_ n9_
       (try clear hb)
       (try clear hb2)
       (try clear hk)
       (try clear hi)
       refine hK.out _ _ ⟨(blk_cell BK174.out 0).trans rfl, (blk_cell BK174.out 1).trans rfl, (blk_cell BK174.out 2).trans rfl, (blk_cell BK152.out 0).trans rfl, (blk_cell BK152.out 1).trans rfl, (blk_cell BK152.out 2).trans rfl⟩ (fun hHeld => ?_)
       clear hK K
       refine norm_ (a' := ?_) ?_ ?_
       (rotate_left; ·(show Act.put _ (some 55) _ = _; simp only [Act.put, pq_z3]; rfl))
       refine pu_z3 4 (some 56) ?_ #[true, true, true, true, true] rfl rfl (by kernel_rfl) (fun _ _ _ h => h) (Or.inl ⟨by rfl, ?_⟩) ?_ ?_ ?_
       (rotate_left; ·(intro w'; go_simp; with_reducible rfl)); (rotate_left; ·(simp only [Act.put, pq_z3]; rfl))
       refine done_ (by kernel_rfl) ?_
       try go_wp2
       go_ret
       exact ⟨by first | rfl | (simp [errW_none, errW_some] <;> rfl) | (simp [*, errW_none, errW_some] <;> rfl), by repeat (first | (with_reducible first | exact HB.out | apply below_alloc | apply pw_below_drewN | apply below_drew1 | refine below_set ?_ GE152.out | refine below_set ?_ GE168.out | refine below_set ?_ GE174.out | refine below_set ?_ GE184.out) | exact HB.out)⟩

end Go.Proofs.Ytgpakhlnjgehhaa.Q
