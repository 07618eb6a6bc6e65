/- Walks of the Go functions that the laws call: each returns what a plain Lean function says. Written by a program for these claims. -/
import Derived.Test.YtkadeelplnkpgaaQ0
import Derived.Test.YtkadeelplnkpgaaOTreeC
import Derived.Test.YtkadeelplnkpgaaQf13
import Derived.Test.YtkadeelplnkpgaaQf15
import Derived.Test.YtkadeelplnkpgaaQf17
import Derived.Test.YtkadeelplnkpgaaQf22
import Derived.Test.YtkadeelplnkpgaaQf23
namespace Go.Proofs.Ytkadeelplnkpgaa.Q
open Go.RowKit Go.Proofs.YtkadeelplnkpgaaW.PrintWords Go.Proofs.YtkadeelplnkpgaaW.PrintLast Go.Proofs.YtkadeelplnkpgaaW.PrintMore
attribute [local go_sem] max2_int min2_int max_two min_two max_three min_three max_four min_four   -- for this text's walks alone
set_option linter.unusedVariables false
set_option linter.unusedSimpArgs false

/-! ### laws_FnExactWeightOf: function 5 -/
def laws_FnExactWeightOf.j0 : Nat → Bool → List (S110) → List (S106) → List (S50) → List (S108) → Option (Bool)
  | 0, _, _, _, _, _ => none
  | k + 1, x38, x430000, x430001, x446000, x446001 => if x38 = true then (some false) else ((laws_toTree.f k x430000 x430001).bind fun bt448 => ((laws_eqTree.f k x446000 x446001 bt448.1 bt448.2).bind fun t454 => (if t454 = true then (some true) else (some false))))
def laws_FnExactWeightOf.f (k : Nat) (l0_0 : List (S110)) (l0_1 : List (S106)) (a1 : Int) : Option (Bool) := (laws_szTree.f k l0_0 l0_1 1048576).bind fun t430 => (if t430 < 0 then (some true) else ((laws_toTree.f k l0_0 l0_1).bind fun bt431 => ((spec_WeightOf.f k bt431.1 bt431.2 a1).bind fun bt437 => ((laws_toTree.f k l0_0 l0_1).bind fun bt439 => ((impl_WeightOf.f k bt439.1 bt439.2 a1).bind fun bt446 => (if bt446.1 = bt437.1 then (laws_FnExactWeightOf.j0 k (bt446.2 != bt437.2) l0_0 l0_1 bt439.1 bt439.2) else (laws_FnExactWeightOf.j0 k true l0_0 l0_1 bt439.1 bt439.2)))))))
theorem pu_z5 {P : Program} {ops : Array Oper} {Q : Exit → Act → World → Prop} {md : Region.Mode} {S : World → Prop} {ds : List Nat} {oi : Oper} {fuel : Nat} {l : Array Bool} {a : Act} {w : World} (i : Nat) (N : Option Tmp) (v : Value) (l' : Array Bool) (hi : ops[i]? = some oi) (hN : oi.dst = N) (hc : anyB md ops l l' i = true)
    (hQ : ∀ c a w, Q (.panic c) (a.put oi.dst v) w → Q (.panic c) a w) (hy : Yields P ops oi v a) (a' : Act) (ha : a.put N v = a')
    (h : wpAnyLast P md ops Q S ds fuel l' a' w) : wpAnyLast P md ops Q S ds (fuel + 1) l a w := pure_ l' hi hN hc hQ hy ha h
theorem pq_z5 : (∀ (l : List Value) (i : Nat) (v : Value), l.toArray.setIfInBounds i v = (l.set i v).toArray) ∧ (∀ (x v : Value) (xs : List Value), (x :: xs).set 0 v = v :: xs) ∧ (∀ (x v : Value) (xs : List Value) (n : Nat), (x :: xs).set (n + 1) v = x :: xs.set n v) ∧ (∀ n : Int, IntKind.i64.wrap n = Go.RowKit.wrap64 n) ∧ (∀ n : Int, IntKind.i32.wrap n = Go.RowKit.wrap32 n) :=
  ⟨fun l i v => List.setIfInBounds_toArray l i v, fun _ _ _ => rfl, fun _ _ _ _ => rfl, i64_w, i32_w⟩
set_option maxHeartbeats 8000000 in
set_option maxRecDepth 100000 in
theorem laws_FnExactWeightOf.calls (k : Nat) (A0_0 : Option Addr) (c0_0 : Nat) (l0_0 : List (S110)) (A0_1 : Option Addr) (c0_1 : Nat) (l0_1 : List (S106)) (a1 : Int) (r : Bool) (w : World) (hr0_0 : Kd.C k110 w A0_0 l0_0.length l0_0) (hc0_0 : l0_0.length ≤ c0_0) (hr0_1 : Kd.C k106 w A0_1 l0_1.length l0_1) (hc0_1 : l0_1.length ≤ c0_1) (h : laws_FnExactWeightOf.f k l0_0 l0_1 a1 = some r) :
  Calls Try.prog 5 #[.agg #[.slice A0_0 l0_0.length c0_0, .slice A0_1 l0_1.length c0_1], .int .i64 a1] w fun e w' => e = .returned (.bool r) ∧ Below w.heap.size w w' := by
  have HA0 := Aside0.mk hr0_0
  have HA1 := Aside0.mk hr0_1
  have HC0 := Aside0.mk hc0_0
  have HC1 := Aside0.mk hc0_1
  have H0 := Aside0.mk h
  clear hr0_0 hr0_1 hc0_0 hc0_1 h
  unfold laws_FnExactWeightOf.f at H0
  go_enter Try.func5, Try.ntmps5
  go_wp2_with fail
  have BA := Aside0.mk (blk_new w (.cells #[.slice A0_0 l0_0.length c0_0, .slice A0_1 l0_1.length c0_1] 25))
  have HB := Aside0.mk (below_alloc (Below.refl w.heap.size w) (.cells #[.slice A0_0 l0_0.length c0_0, .slice A0_1 l0_1.length c0_1] 25))
  generalize (w.alloc (.cells #[.slice A0_0 l0_0.length c0_0, .slice A0_1 l0_1.length c0_1] 25)) = w1 at BA HB ⊢
  obtain ⟨t1, E1, H1⟩ := Option.bind_eq_some_iff.1 H0.out
  replace E1 := Aside0.mk E1
  replace H1 := Aside0.mk H1
  clear H0
  (with_reducible refine (laws_szTree.calls k A0_0 c0_0 l0_0 A0_1 c0_1 l0_1 1048576 t1 _ (Kd.C_below HA0.out HB.out) HC0.out (Kd.C_below HA1.out HB.out) HC1.out E1.out).mono ?_)
  rintro e w2 ⟨rfl, hb⟩
  replace BA := Aside0.mk (blk_below BA.out hb)
  replace HB := Aside0.mk (below_step HB.out hb)
  clear hb
  have hBA0 := (blk_cell BA.out 0).trans rfl
  have hBA1 := (blk_cell BA.out 1).trans rfl
  by_cases d1 : t1 < 0
  case pos =>
    have HF := Aside0.mk (show r = true from by have := H1.out; rw [if_pos d1] at this; exact (Option.some.inj this).symm)
    have db := decide_eq_true d1
    clear d1
    go_wp2_with fail
    go_ret
    exact ⟨by rw [HF.out]; rfl, HB.out⟩
  replace H1 := Aside0.mk (by have := H1.out; rwa [if_neg d1] at this)
  have db1 := decide_eq_false d1
  clear d1
  go_wp2_with fail
  clear db1
  obtain ⟨⟨D2, B2⟩, E2, H2⟩ := Option.bind_eq_some_iff.1 H1.out
  replace E2 := Aside0.mk E2
  replace H2 := Aside0.mk H2
  clear H1
  (with_reducible refine (toTreeC.calls k A0_0 c0_0 l0_0 A0_1 c0_1 l0_1 D2 B2 _ (Kd.C_below HA0.out HB.out) HC0.out (Kd.C_below HA1.out HB.out) HC1.out E2.out).mono ?_)
  rintro e w12 ⟨P0, p0, P1, p1, rfl, TP, hb⟩
  clear hBA0 hBA1
  replace BA := Aside0.mk (blk_below BA.out hb)
  replace HB := Aside0.mk (below_step HB.out hb)
  clear hb
  have hBA0 := (blk_cell BA.out 0).trans rfl
  have hBA1 := (blk_cell BA.out 1).trans rfl
  replace TP := Aside0.mk TP
  go_wp2_with fail
  obtain ⟨⟨s, s2⟩, E3, H3⟩ := Option.bind_eq_some_iff.1 H2.out
  replace E3 := Aside0.mk E3
  replace H3 := Aside0.mk H3
  clear H2
  (with_reducible refine (spec_WeightOf.calls k P0 p0 D2 P1 p1 B2 a1 s s2 _ TP.out.d TP.out.hd TP.out.b TP.out.hb E3.out).mono ?_)
  rintro e w13 ⟨rfl, hb⟩
  clear hBA0 hBA1
  replace BA := Aside0.mk (blk_below BA.out hb)
  replace HB := Aside0.mk (below_step HB.out hb)
  replace TP := Aside0.mk (TP.out.below hb)
  clear hb
  have hBA0 := (blk_cell BA.out 0).trans rfl
  have hBA1 := (blk_cell BA.out 1).trans rfl
  go_wp2_with fail
  clear TP
  obtain ⟨⟨D4, B4⟩, E4, H4⟩ := Option.bind_eq_some_iff.1 H3.out
  replace E4 := Aside0.mk E4
  replace H4 := Aside0.mk H4
  clear H3
  (with_reducible refine (toTreeC.calls k A0_0 c0_0 l0_0 A0_1 c0_1 l0_1 D4 B4 _ (Kd.C_below HA0.out HB.out) HC0.out (Kd.C_below HA1.out HB.out) HC1.out E4.out).mono ?_)
  rintro e w14 ⟨X0, x0, X1, x1, rfl, TX, hb⟩
  clear hBA0 hBA1
  replace BA := Aside0.mk (blk_below BA.out hb)
  replace HB := Aside0.mk (below_step HB.out hb)
  clear hb
  have hBA0a := fun o => (blk_cell (blk_alloc BA.out o) 0).trans rfl
  have hBA1a := fun o => (blk_cell (blk_alloc BA.out o) 1).trans rfl
  have hBA0 := (blk_cell BA.out 0).trans rfl
  have hBA1 := (blk_cell BA.out 1).trans rfl
  replace TX := Aside0.mk TX
  go_wp2_with fail
  have hb := below_alloc (Below.refl w14.heap.size w14) (.cells #[.slice X0 D4.length x0, .slice X1 B4.length x1] 31)
  have BX := Aside0.mk (blk_new w14 (.cells #[.slice X0 D4.length x0, .slice X1 B4.length x1] 31))
  clear hBA0 hBA1
  clear hBA0a hBA1a
  replace BA := Aside0.mk (blk_below BA.out hb)
  replace HB := Aside0.mk (below_step HB.out hb)
  replace TX := Aside0.mk (TX.out.below hb)
  clear hb
  generalize (w14.alloc (.cells #[.slice X0 D4.length x0, .slice X1 B4.length x1] 31)) = wx at BA HB TX BX ⊢
  generalize w14.heap.size = gx at BX ⊢
  have hBA0 := (blk_cell BA.out 0).trans rfl
  have hBA1 := (blk_cell BA.out 1).trans rfl
  have hBX0 := (blk_cell BX.out 0).trans rfl
  have hBX1 := (blk_cell BX.out 1).trans rfl
  obtain ⟨⟨v, v2⟩, E5, H5⟩ := Option.bind_eq_some_iff.1 H4.out
  replace E5 := Aside0.mk E5
  replace H5 := Aside0.mk H5
  clear H4
  (with_reducible refine (impl_WeightOf.calls k X0 x0 D4 X1 x1 B4 a1 v v2 _ TX.out.d TX.out.hd TX.out.b TX.out.hb E5.out).mono ?_)
  rintro e w15 ⟨rfl, hb⟩
  clear hBA0 hBA1 hBX0 hBX1
  replace BA := Aside0.mk (blk_below BA.out hb)
  replace HB := Aside0.mk (below_step HB.out hb)
  replace TX := Aside0.mk (TX.out.below hb)
  replace BX := Aside0.mk (blk_below BX.out hb)
  clear hb
  have hBA0 := (blk_cell BA.out 0).trans rfl
  have hBA1 := (blk_cell BA.out 1).trans rfl
  have hBX0 := (blk_cell BX.out 0).trans rfl
  have hBX1 := (blk_cell BX.out 1).trans rfl
  cases k with
  | zero =>
    exact absurd H5.out (by simp [laws_FnExactWeightOf.j0])
  | succ k0 =>
  by_cases dv : v = s
  case neg =>
    have HF := Aside0.mk (show r = false from by have := H5.out; rw [if_neg dv] at this; simpa [laws_FnExactWeightOf.j0] using this.symm)
    have dv1 : (v == s) = false := by simpa using dv
    have dv2 : (v != s) = true := by simpa using dv
    clear dv
    go_wp2_with fail
    go_ret
    exact ⟨by rw [HF.out]; rfl, HB.out⟩
  subst dv
  by_cases dw : v2 = s2
  case neg =>
    have HF := Aside0.mk (show r = false from by have := H5.out; rw [if_pos rfl] at this; simpa [laws_FnExactWeightOf.j0, dw] using this.symm)
    have dw1 : (v2 == s2) = false := by simpa using dw
    have dw2 : (v2 != s2) = true := by simpa using dw
    clear dw
    go_wp2_with fail
    go_ret
    exact ⟨by rw [HF.out]; rfl, HB.out⟩
  subst dw
  replace H5 := Aside0.mk (by have := H5.out; simpa only [laws_FnExactWeightOf.j0, if_true, bne_self_eq_false, Bool.false_eq_true, if_false] using this)
  go_wp2_with fail
  obtain ⟨⟨D6, B6⟩, E6, H6⟩ := Option.bind_eq_some_iff.1 H5.out
  replace E6 := Aside0.mk E6
  replace H6 := Aside0.mk H6
  clear H5
  obtain ⟨qt, E7, H7⟩ := Option.bind_eq_some_iff.1 H6.out
  replace E7 := Aside0.mk E7
  replace H7 := Aside0.mk H7
  clear H6
  have HK := Aside0.mk (show ∀ w', Below w15.heap.size w15 w' → (fun w' => w'.cell? ⟨w.heap.size, 0, none⟩ = some (.slice A0_0 l0_0.length c0_0) ∧ w'.cell? ⟨w.heap.size, 1, none⟩ = some (.slice A0_1 l0_1.length c0_1) ∧ w'.cell? ⟨gx, 0, none⟩ = some (.slice X0 D4.length x0) ∧ w'.cell? ⟨gx, 1, none⟩ = some (.slice X1 B4.length x1) ∧ Below w15.heap.size w15 w') w' from fun w' h => ⟨(h.cell (blk_lt BA.out)).trans hBA0, (h.cell (blk_lt BA.out)).trans hBA1, (h.cell (blk_lt BX.out)).trans hBX0, (h.cell (blk_lt BX.out)).trans hBX1, h⟩)
  go_region_held3 (fun w' => w'.cell? ⟨w.heap.size, 0, none⟩ = some (.slice A0_0 l0_0.length c0_0) ∧ w'.cell? ⟨w.heap.size, 1, none⟩ = some (.slice A0_1 l0_1.length c0_1) ∧ w'.cell? ⟨gx, 0, none⟩ = some (.slice X0 D4.length x0) ∧ w'.cell? ⟨gx, 1, none⟩ = some (.slice X1 B4.length x1) ∧ Below w15.heap.size w15 w') (first | exact HK.out _ hbb | exact HK.out _ (below_drew1 (Below.refl _ _)) | exact HK.out _ (Below.refl _ _)) (first | (go_at_call 15; go_split_ands; (with_reducible refine (toTreeC.calls k0 A0_0 c0_0 l0_0 A0_1 c0_1 l0_1 D6 B6 _ (Kd.C_below HA0.out (below_step HB.out (show Below w15.heap.size w15 _ by assumption))) HC0.out (Kd.C_below HA1.out (below_step HB.out (show Below w15.heap.size w15 _ by assumption))) HC1.out E6.out).mono ?_); rintro e wz ⟨Z0, z0, Z1, z1, rfl, TZ, hb⟩; have hbb : Below w15.heap.size w15 _ := below_step (by assumption) hb) | (go_at_call 17; go_split_ands; (with_reducible refine (laws_eqTree.calls k0 X0 x0 D4 X1 x1 B4 Z0 z0 D6 Z1 z1 B6 qt _ (TX.out.below (show Below w15.heap.size w15 _ by assumption)).d TX.out.hd (TX.out.below (show Below w15.heap.size w15 _ by assumption)).b TX.out.hb TZ.d TZ.hd TZ.b TZ.hb E7.out).mono ?_); rintro e wy ⟨rfl, hb⟩; have hbb : Below w15.heap.size w15 _ := below_step (by assumption) hb))
  have hb := hbb
  clear hBA0 hBA1 hBX0 hBX1
  replace BA := Aside0.mk (blk_below BA.out hb)
  replace HB := Aside0.mk (below_step HB.out hb)
  replace TX := Aside0.mk (TX.out.below hb)
  replace BX := Aside0.mk (blk_below BX.out hb)
  clear hb HK
  clear TZ
  have hBA0 := (blk_cell BA.out 0).trans rfl
  have hBA1 := (blk_cell BA.out 1).trans rfl
  have hBX0 := (blk_cell BX.out 0).trans rfl
  have hBX1 := (blk_cell BX.out 1).trans rfl
  cases qt with
  | false =>
    have HF := Aside0.mk (show r = false from by have := H7.out; rw [if_neg (by decide)] at this; exact (Option.some.inj this).symm)
    go_wp2_with fail
    go_ret
    exact ⟨by rw [HF.out]; rfl, HB.out⟩
  | true =>
  have HF := Aside0.mk (show r = true from by have := H7.out; rw [if_pos rfl] at this; exact (Option.some.inj this).symm)
  go_wp2_with fail
  go_ret
  exact ⟨by rw [HF.out]; rfl, HB.out⟩
end Go.Proofs.Ytkadeelplnkpgaa.Q
