/- Walks and plain laws of one claim, several texts in one. -/
import Derived.Test.YtkadeelplnkpgaaQ0
import Derived.Test.YtkadeelplnkpgaaOTreeC
import Derived.Test.YtkadeelplnkpgaaQf13
import Derived.Test.YtkadeelplnkpgaaQf15
import Derived.Test.YtkadeelplnkpgaaQf17
import Derived.Test.YtkadeelplnkpgaaQf18
import Derived.Test.YtkadeelplnkpgaaQf19
import Derived.Test.YtkadeelplnkpgaaQf20
import Derived.Test.YtkadeelplnkpgaaQf21
import Derived.Test.YtkadeelplnkpgaaWBMore
import Derived.Test.YtkadeelplnkpgaaOTypes
import Derived.Test.YtkadeelplnkpgaaQf54
import Derived.Test.YtkadeelplnkpgaaQf62
import Derived.Test.YtkadeelplnkpgaaQf83
import Derived.Test.YtkadeelplnkpgaaQf58
import Derived.Test.YtkadeelplnkpgaaQf50
import Derived.Test.YtkadeelplnkpgaaQf125
import Derived.Test.YtkadeelplnkpgaaQf105
import Derived.Test.YtkadeelplnkpgaaQf81
import Derived.Test.YtkadeelplnkpgaaQf61
-- text Qf4
namespace Go.Proofs.Ytkadeelplnkpgaa.Q
open Go.RowKit Go.Proofs.YtkadeelplnkpgaaW.PrintWords Go.Proofs.YtkadeelplnkpgaaW.PrintLast Go.Proofs.YtkadeelplnkpgaaW.PrintMore
attribute [local go_sem] max2_int min2_int max_two min_two max_three min_three max_four min_four   -- for this text's walks alone
set_option linter.unusedVariables false
set_option linter.unusedSimpArgs false

/-! ### laws_FnExactApart: function 4 -/
def laws_FnExactApart.f (k : Nat) (l0_0 : List (S110)) (l0_1 : List (S106)) (a1 : Int) (l2 : List Int) : Option (Bool) := if (l2.length : Int) > 1048576 then (some true) else ((laws_szTree.f k l0_0 l0_1 1048576).bind fun t331 => (if t331 < 0 then (some true) else ((laws_toTree.f k l0_0 l0_1).bind fun bt332 => ((laws_toInt64S.f k l2).bind fun t338 => ((spec_Apart.f k bt332.1 bt332.2 a1 t338).bind fun t341 => ((laws_toTree.f k l0_0 l0_1).bind fun bt342 => ((laws_toInt64S.f k l2).bind fun t349 => ((impl_Apart.f k bt342.1 bt342.2 a1 t349).bind fun t352 => (if (t352 != t341) = true then (some false) else ((laws_toTree.f k l0_0 l0_1).bind fun bt353 => ((laws_eqTree.f k bt342.1 bt342.2 bt353.1 bt353.2).bind fun t359 => (if t359 = true then ((laws_toInt64S.f k l2).bind fun t360 => ((laws_eqInt64S.f k t349 t360).bind fun t363 => (if t363 = true then (some true) else (some false)))) else (some false)))))))))))))
theorem pu_z4 {P : Program} {ops : Array Oper} {Q : Exit → Act → World → Prop} {md : Region.Mode} {S : World → Prop} {ds : List Nat} {oi : Oper} {fuel : Nat} {l : Array Bool} {a : Act} {w : World} (i : Nat) (N : Option Tmp) (v : Value) (l' : Array Bool) (hi : ops[i]? = some oi) (hN : oi.dst = N) (hc : anyB md ops l l' i = true)
    (hQ : ∀ c a w, Q (.panic c) (a.put oi.dst v) w → Q (.panic c) a w) (hy : Yields P ops oi v a) (a' : Act) (ha : a.put N v = a')
    (h : wpAnyLast P md ops Q S ds fuel l' a' w) : wpAnyLast P md ops Q S ds (fuel + 1) l a w := pure_ l' hi hN hc hQ hy ha h
theorem pq_z4 : (∀ (l : List Value) (i : Nat) (v : Value), l.toArray.setIfInBounds i v = (l.set i v).toArray) ∧ (∀ (x v : Value) (xs : List Value), (x :: xs).set 0 v = v :: xs) ∧ (∀ (x v : Value) (xs : List Value) (n : Nat), (x :: xs).set (n + 1) v = x :: xs.set n v) ∧ (∀ n : Int, IntKind.i64.wrap n = Go.RowKit.wrap64 n) ∧ (∀ n : Int, IntKind.i32.wrap n = Go.RowKit.wrap32 n) :=
  ⟨fun l i v => List.setIfInBounds_toArray l i v, fun _ _ _ => rfl, fun _ _ _ _ => rfl, i64_w, i32_w⟩
set_option maxHeartbeats 8000000 in
set_option maxRecDepth 100000 in
theorem laws_FnExactApart.calls (k : Nat) (A0_0 : Option Addr) (c0_0 : Nat) (l0_0 : List (S110)) (A0_1 : Option Addr) (c0_1 : Nat) (l0_1 : List (S106)) (a1 : Int) (A2 : Option Addr) (c2 : Nat) (l2 : List Int) (r : Bool) (w : World) (hr0_0 : Kd.C k110 w A0_0 l0_0.length l0_0) (hc0_0 : l0_0.length ≤ c0_0) (hr0_1 : Kd.C k106 w A0_1 l0_1.length l0_1) (hc0_1 : l0_1.length ≤ c0_1) (hr2 : Kd.C (Kd.int .i64) w A2 l2.length l2) (hc2 : l2.length ≤ c2) (h : laws_FnExactApart.f k l0_0 l0_1 a1 l2 = some r) :
  Calls Try.prog 4 #[.agg #[.slice A0_0 l0_0.length c0_0, .slice A0_1 l0_1.length c0_1], .int .i64 a1, .slice A2 l2.length c2] w fun e w' => e = .returned (.bool r) ∧ Below w.heap.size w w' := by
  have HA0 := Aside0.mk hr0_0
  have HA1 := Aside0.mk hr0_1
  have HC0 := Aside0.mk hc0_0
  have HC1 := Aside0.mk hc0_1
  have H0 := Aside0.mk h
  clear hr0_0 hr0_1 hc0_0 hc0_1 h
  have HL2 := Aside0.mk hr2
  have HD2 := Aside0.mk hc2
  clear hr2 hc2
  unfold laws_FnExactApart.f at H0
  by_cases cl2 : (l2.length : Int) > 1048576
  case pos =>
    have HF := Aside0.mk (show r = true from by have := H0.out; rw [if_pos cl2] at this; exact (Option.some.inj this).symm)
    have cb := decide_eq_true (show 1048576 < (l2.length : Int) by omega)
    have cn := decide_eq_true (show 1048576 < l2.length by omega)
    clear cl2
    go_enter Try.func4, Try.ntmps4
    go_wp2_with fail
    go_ret
    exact ⟨by rw [HF.out]; rfl, below_alloc (Below.refl _ _) _⟩
  replace H0 := Aside0.mk (by have := H0.out; rwa [if_neg cl2] at this)
  have cb2 := decide_eq_false (show ¬ 1048576 < (l2.length : Int) by omega)
  have cn2 := decide_eq_false (show ¬ 1048576 < l2.length by omega)
  clear cl2
  go_enter Try.func4, Try.ntmps4
  go_wp2_with fail
  clear cb2 cn2
  have BA := Aside0.mk (blk_new w (.cells #[.slice A0_0 l0_0.length c0_0, .slice A0_1 l0_1.length c0_1] 25))
  have HB := Aside0.mk (below_alloc (Below.refl w.heap.size w) (.cells #[.slice A0_0 l0_0.length c0_0, .slice A0_1 l0_1.length c0_1] 25))
  generalize (w.alloc (.cells #[.slice A0_0 l0_0.length c0_0, .slice A0_1 l0_1.length c0_1] 25)) = w1 at BA HB ⊢
  obtain ⟨t1, E1, H1⟩ := Option.bind_eq_some_iff.1 H0.out
  replace E1 := Aside0.mk E1
  replace H1 := Aside0.mk H1
  clear H0
  (with_reducible refine (laws_szTree.calls k A0_0 c0_0 l0_0 A0_1 c0_1 l0_1 1048576 t1 _ (Kd.C_below HA0.out HB.out) HC0.out (Kd.C_below HA1.out HB.out) HC1.out E1.out).mono ?_)
  rintro e w2 ⟨rfl, hb⟩
  replace BA := Aside0.mk (blk_below BA.out hb)
  replace HB := Aside0.mk (below_step HB.out hb)
  clear hb
  have hBA0 := (blk_cell BA.out 0).trans rfl
  have hBA1 := (blk_cell BA.out 1).trans rfl
  by_cases d1 : t1 < 0
  case pos =>
    have HF := Aside0.mk (show r = true from by have := H1.out; rw [if_pos d1] at this; exact (Option.some.inj this).symm)
    have db := decide_eq_true d1
    clear d1
    go_wp2_with fail
    go_ret
    exact ⟨by rw [HF.out]; rfl, HB.out⟩
  replace H1 := Aside0.mk (by have := H1.out; rwa [if_neg d1] at this)
  have db1 := decide_eq_false d1
  clear d1
  go_wp2_with fail
  clear db1
  obtain ⟨⟨D2, B2⟩, E2, H2⟩ := Option.bind_eq_some_iff.1 H1.out
  replace E2 := Aside0.mk E2
  replace H2 := Aside0.mk H2
  clear H1
  (with_reducible refine (toTreeC.calls k A0_0 c0_0 l0_0 A0_1 c0_1 l0_1 D2 B2 _ (Kd.C_below HA0.out HB.out) HC0.out (Kd.C_below HA1.out HB.out) HC1.out E2.out).mono ?_)
  rintro e w12 ⟨P0, p0, P1, p1, rfl, TP, hb⟩
  clear hBA0 hBA1
  replace BA := Aside0.mk (blk_below BA.out hb)
  replace HB := Aside0.mk (below_step HB.out hb)
  clear hb
  have hBA0 := (blk_cell BA.out 0).trans rfl
  have hBA1 := (blk_cell BA.out 1).trans rfl
  replace TP := Aside0.mk TP
  go_wp2_with fail
  obtain ⟨s2, E3, H3⟩ := Option.bind_eq_some_iff.1 H2.out
  replace E3 := Aside0.mk E3
  replace H3 := Aside0.mk H3
  clear H2
  (with_reducible refine (toIntsC.calls k A2 c2 l2 s2 _ (Kd.C_below HL2.out HB.out) HD2.out E3.out).mono ?_)
  rintro e w13 ⟨Ps2, ps2, rfl, Ts2, hb⟩
  clear hBA0 hBA1
  replace BA := Aside0.mk (blk_below BA.out hb)
  replace HB := Aside0.mk (below_step HB.out hb)
  replace TP := Aside0.mk (TP.out.below hb)
  clear hb
  have hBA0 := (blk_cell BA.out 0).trans rfl
  have hBA1 := (blk_cell BA.out 1).trans rfl
  replace Ts2 := Aside0.mk Ts2
  go_wp2_with fail
  obtain ⟨s, E4, H4⟩ := Option.bind_eq_some_iff.1 H3.out
  replace E4 := Aside0.mk E4
  replace H4 := Aside0.mk H4
  clear H3
  (with_reducible refine (spec_Apart.calls k P0 p0 D2 P1 p1 B2 a1 Ps2 ps2 s2 s _ TP.out.d TP.out.hd TP.out.b TP.out.hb Ts2.out.r Ts2.out.h E4.out).mono ?_)
  rintro e w14 ⟨rfl, hb⟩
  clear hBA0 hBA1
  replace BA := Aside0.mk (blk_below BA.out hb)
  replace HB := Aside0.mk (below_step HB.out hb)
  replace TP := Aside0.mk (TP.out.below hb)
  replace Ts2 := Aside0.mk (Ts2.out.below hb)
  clear hb
  have hBA0 := (blk_cell BA.out 0).trans rfl
  have hBA1 := (blk_cell BA.out 1).trans rfl
  go_wp2_with fail
  clear TP
  clear Ts2
  obtain ⟨⟨D5, B5⟩, E5, H5⟩ := Option.bind_eq_some_iff.1 H4.out
  replace E5 := Aside0.mk E5
  replace H5 := Aside0.mk H5
  clear H4
  (with_reducible refine (toTreeC.calls k A0_0 c0_0 l0_0 A0_1 c0_1 l0_1 D5 B5 _ (Kd.C_below HA0.out HB.out) HC0.out (Kd.C_below HA1.out HB.out) HC1.out E5.out).mono ?_)
  rintro e w15 ⟨X0, x0, X1, x1, rfl, TX, hb⟩
  clear hBA0 hBA1
  replace BA := Aside0.mk (blk_below BA.out hb)
  replace HB := Aside0.mk (below_step HB.out hb)
  clear hb
  have hBA0a := fun o => (blk_cell (blk_alloc BA.out o) 0).trans rfl
  have hBA1a := fun o => (blk_cell (blk_alloc BA.out o) 1).trans rfl
  have hBA0 := (blk_cell BA.out 0).trans rfl
  have hBA1 := (blk_cell BA.out 1).trans rfl
  replace TX := Aside0.mk TX
  go_wp2_with fail
  have hb := below_alloc (Below.refl w15.heap.size w15) (.cells #[.slice X0 D5.length x0, .slice X1 B5.length x1] 31)
  have BX := Aside0.mk (blk_new w15 (.cells #[.slice X0 D5.length x0, .slice X1 B5.length x1] 31))
  clear hBA0 hBA1
  clear hBA0a hBA1a
  replace BA := Aside0.mk (blk_below BA.out hb)
  replace HB := Aside0.mk (below_step HB.out hb)
  replace TX := Aside0.mk (TX.out.below hb)
  clear hb
  generalize (w15.alloc (.cells #[.slice X0 D5.length x0, .slice X1 B5.length x1] 31)) = wx at BA HB TX BX ⊢
  generalize w15.heap.size = gx at BX ⊢
  have hBA0 := (blk_cell BA.out 0).trans rfl
  have hBA1 := (blk_cell BA.out 1).trans rfl
  have hBX0 := (blk_cell BX.out 0).trans rfl
  have hBX1 := (blk_cell BX.out 1).trans rfl
  obtain ⟨v2, E6, H6⟩ := Option.bind_eq_some_iff.1 H5.out
  replace E6 := Aside0.mk E6
  replace H6 := Aside0.mk H6
  clear H5
  (with_reducible refine (toIntsC.calls k A2 c2 l2 v2 _ (Kd.C_below HL2.out HB.out) HD2.out E6.out).mono ?_)
  rintro e w16 ⟨Pv2, pv2, rfl, Tv2, hb⟩
  clear hBA0 hBA1 hBX0 hBX1
  replace BA := Aside0.mk (blk_below BA.out hb)
  replace HB := Aside0.mk (below_step HB.out hb)
  replace TX := Aside0.mk (TX.out.below hb)
  replace BX := Aside0.mk (blk_below BX.out hb)
  clear hb
  have hBA0 := (blk_cell BA.out 0).trans rfl
  have hBA1 := (blk_cell BA.out 1).trans rfl
  have hBX0 := (blk_cell BX.out 0).trans rfl
  have hBX1 := (blk_cell BX.out 1).trans rfl
  replace Tv2 := Aside0.mk Tv2
  go_wp2_with fail
  obtain ⟨v, E7, H7⟩ := Option.bind_eq_some_iff.1 H6.out
  replace E7 := Aside0.mk E7
  replace H7 := Aside0.mk H7
  clear H6
  (with_reducible refine (impl_Apart.calls k X0 x0 D5 X1 x1 B5 a1 Pv2 pv2 v2 v _ TX.out.d TX.out.hd TX.out.b TX.out.hb Tv2.out.r Tv2.out.h E7.out).mono ?_)
  rintro e w17 ⟨rfl, hb⟩
  clear hBA0 hBA1 hBX0 hBX1
  replace BA := Aside0.mk (blk_below BA.out hb)
  replace HB := Aside0.mk (below_step HB.out hb)
  replace TX := Aside0.mk (TX.out.below hb)
  replace BX := Aside0.mk (blk_below BX.out hb)
  replace Tv2 := Aside0.mk (Tv2.out.below hb)
  clear hb
  have hBA0 := (blk_cell BA.out 0).trans rfl
  have hBA1 := (blk_cell BA.out 1).trans rfl
  have hBX0 := (blk_cell BX.out 0).trans rfl
  have hBX1 := (blk_cell BX.out 1).trans rfl
  by_cases dv : v = s
  case neg =>
    have HF := Aside0.mk (show r = false from by have := H7.out; rw [if_pos (by simpa using dv)] at this; exact (Option.some.inj this).symm)
    cases v <;> cases s <;> first | exact absurd rfl dv | (go_wp2_with fail; go_ret; exact ⟨by rw [HF.out]; rfl, HB.out⟩)
  subst dv
  replace H7 := Aside0.mk (by have := H7.out; rwa [if_neg (by simp)] at this)
  go_wp2_with fail
  obtain ⟨⟨D8, B8⟩, E8, H8⟩ := Option.bind_eq_some_iff.1 H7.out
  replace E8 := Aside0.mk E8
  replace H8 := Aside0.mk H8
  clear H7
  obtain ⟨qt, E9, H9⟩ := Option.bind_eq_some_iff.1 H8.out
  replace E9 := Aside0.mk E9
  replace H9 := Aside0.mk H9
  clear H8
  have HK := Aside0.mk (show ∀ w', Below w17.heap.size w17 w' → (fun w' => w'.cell? ⟨w.heap.size, 0, none⟩ = some (.slice A0_0 l0_0.length c0_0) ∧ w'.cell? ⟨w.heap.size, 1, none⟩ = some (.slice A0_1 l0_1.length c0_1) ∧ w'.cell? ⟨gx, 0, none⟩ = some (.slice X0 D5.length x0) ∧ w'.cell? ⟨gx, 1, none⟩ = some (.slice X1 B5.length x1) ∧ Below w17.heap.size w17 w') w' from fun w' h => ⟨(h.cell (blk_lt BA.out)).trans hBA0, (h.cell (blk_lt BA.out)).trans hBA1, (h.cell (blk_lt BX.out)).trans hBX0, (h.cell (blk_lt BX.out)).trans hBX1, h⟩)
  go_region_held3 (fun w' => w'.cell? ⟨w.heap.size, 0, none⟩ = some (.slice A0_0 l0_0.length c0_0) ∧ w'.cell? ⟨w.heap.size, 1, none⟩ = some (.slice A0_1 l0_1.length c0_1) ∧ w'.cell? ⟨gx, 0, none⟩ = some (.slice X0 D5.length x0) ∧ w'.cell? ⟨gx, 1, none⟩ = some (.slice X1 B5.length x1) ∧ Below w17.heap.size w17 w') (first | exact HK.out _ hbb | exact HK.out _ (below_drew1 (Below.refl _ _)) | exact HK.out _ (Below.refl _ _)) (first | (go_at_call 15; go_split_ands; (with_reducible refine (toTreeC.calls k A0_0 c0_0 l0_0 A0_1 c0_1 l0_1 D8 B8 _ (Kd.C_below HA0.out (below_step HB.out (show Below w17.heap.size w17 _ by assumption))) HC0.out (Kd.C_below HA1.out (below_step HB.out (show Below w17.heap.size w17 _ by assumption))) HC1.out E8.out).mono ?_); rintro e wz ⟨Z0, z0, Z1, z1, rfl, TZ, hb⟩; have hbb : Below w17.heap.size w17 _ := below_step (by assumption) hb) | (go_at_call 17; go_split_ands; (with_reducible refine (laws_eqTree.calls k X0 x0 D5 X1 x1 B5 Z0 z0 D8 Z1 z1 B8 qt _ (TX.out.below (show Below w17.heap.size w17 _ by assumption)).d TX.out.hd (TX.out.below (show Below w17.heap.size w17 _ by assumption)).b TX.out.hb TZ.d TZ.hd TZ.b TZ.hb E9.out).mono ?_); rintro e wy ⟨rfl, hb⟩; have hbb : Below w17.heap.size w17 _ := below_step (by assumption) hb))
  have hb := hbb
  clear hBA0 hBA1 hBX0 hBX1
  replace BA := Aside0.mk (blk_below BA.out hb)
  replace HB := Aside0.mk (below_step HB.out hb)
  replace TX := Aside0.mk (TX.out.below hb)
  replace BX := Aside0.mk (blk_below BX.out hb)
  replace Tv2 := Aside0.mk (Tv2.out.below hb)
  clear hb HK
  clear TZ
  have hBA0 := (blk_cell BA.out 0).trans rfl
  have hBA1 := (blk_cell BA.out 1).trans rfl
  have hBX0 := (blk_cell BX.out 0).trans rfl
  have hBX1 := (blk_cell BX.out 1).trans rfl
  cases qt with
  | false =>
    have HF := Aside0.mk (show r = false from by have := H9.out; rw [if_neg (by decide)] at this; exact (Option.some.inj this).symm)
    go_wp2_with fail
    go_ret
    exact ⟨by rw [HF.out]; rfl, HB.out⟩
  | true =>
  replace H9 := Aside0.mk (by have := H9.out; rwa [if_pos rfl] at this)
  go_wp2_with fail
  obtain ⟨u2, E10, H10⟩ := Option.bind_eq_some_iff.1 H9.out
  replace E10 := Aside0.mk E10
  replace H10 := Aside0.mk H10
  clear H9
  (with_reducible refine (toIntsC.calls k A2 c2 l2 u2 _ (Kd.C_below HL2.out HB.out) HD2.out E10.out).mono ?_)
  rintro e w20 ⟨Pu2, pu2, rfl, Tu2, hb⟩
  clear hBA0 hBA1 hBX0 hBX1
  replace BA := Aside0.mk (blk_below BA.out hb)
  replace HB := Aside0.mk (below_step HB.out hb)
  replace TX := Aside0.mk (TX.out.below hb)
  replace BX := Aside0.mk (blk_below BX.out hb)
  replace Tv2 := Aside0.mk (Tv2.out.below hb)
  clear hb
  have hBA0 := (blk_cell BA.out 0).trans rfl
  have hBA1 := (blk_cell BA.out 1).trans rfl
  have hBX0 := (blk_cell BX.out 0).trans rfl
  have hBX1 := (blk_cell BX.out 1).trans rfl
  replace Tu2 := Aside0.mk Tu2
  go_wp2_with fail
  obtain ⟨qi2, E11, H11⟩ := Option.bind_eq_some_iff.1 H10.out
  replace E11 := Aside0.mk E11
  replace H11 := Aside0.mk H11
  clear H10
  (with_reducible refine (laws_eqInt64S.calls k Pv2 pv2 v2 Pu2 pu2 u2 qi2 _ Tv2.out.r Tv2.out.h Tu2.out.r Tu2.out.h E11.out).mono ?_)
  rintro e w21 ⟨rfl, hd⟩
  have hb := hd.below
  clear hd
  clear hBA0 hBA1 hBX0 hBX1
  replace BA := Aside0.mk (blk_below BA.out hb)
  replace HB := Aside0.mk (below_step HB.out hb)
  replace TX := Aside0.mk (TX.out.below hb)
  replace BX := Aside0.mk (blk_below BX.out hb)
  replace Tv2 := Aside0.mk (Tv2.out.below hb)
  replace Tu2 := Aside0.mk (Tu2.out.below hb)
  clear hb
  have hBA0 := (blk_cell BA.out 0).trans rfl
  have hBA1 := (blk_cell BA.out 1).trans rfl
  have hBX0 := (blk_cell BX.out 0).trans rfl
  have hBX1 := (blk_cell BX.out 1).trans rfl
  cases qi2 with
  | false =>
    have HF := Aside0.mk (show r = false from by have := H11.out; rw [if_neg (by decide)] at this; exact (Option.some.inj this).symm)
    go_wp2_with fail
    go_ret
    exact ⟨by rw [HF.out]; rfl, HB.out⟩
  | true =>
  have HF := Aside0.mk (show r = true from by have := H11.out; rw [if_pos rfl] at this; exact (Option.some.inj this).symm)
  go_wp2_with fail
  go_ret
  exact ⟨by rw [HF.out]; rfl, HB.out⟩
end Go.Proofs.Ytkadeelplnkpgaa.Q

-- text OLoop
namespace Go.Proofs.Ytkadeelplnkpgaa.Pure
open Go.RowKit Go.Proofs.YtkadeelplnkpgaaW.PrintWords Go.Proofs.YtkadeelplnkpgaaW.PrintLast Go.Proofs.YtkadeelplnkpgaaW.PrintMore
set_option linter.unusedVariables false
set_option linter.unusedSimpArgs false

theorem up64 (i n : Nat) (h : i < n) (hn : n ≤ 9223372036854775807) : wrap64 ((i : Int) + 1) = ((i + 1 : Nat) : Int) := by unfold wrap64; omega
/-- A loop over i from 0 to n: an invariant, and what is known of the answer. -/
theorem loop_from {σ ρ : Type} (n : Nat) (L : Nat → σ → Int → Option ρ) (I : Nat → σ → Prop) (Post : ρ → Prop)
    (hs : ∀ (i : Nat) s, i < n → I i s → (∃ r, Post r ∧ Ev (fun k => L k s (i : Int)) r) ∨ ∃ s', I (i + 1) s' ∧ ∀ r, Ev (fun k => L k s' ((i + 1 : Nat) : Int)) r → Ev (fun k => L k s (i : Int)) r)
    (he : ∀ s, I n s → ∃ r, Post r ∧ Ev (fun k => L k s (n : Int)) r) : ∀ (d i : Nat) s, i + d = n → I i s → ∃ r, Post r ∧ Ev (fun k => L k s (i : Int)) r
  | 0, i, s, hd, hI => by
    obtain rfl : i = n := by omega
    exact he s hI
  | d + 1, i, s, hd, hI => by
    rcases hs i s (by omega) hI with h | ⟨s', hI', h⟩
    · exact h
    · obtain ⟨r, hr, hE⟩ := loop_from n L I Post hs he d (i + 1) s' (by omega) hI'
      exact ⟨r, hr, h r hE⟩
theorem loop_up {σ ρ : Type} (n : Nat) (L : Nat → σ → Int → Option ρ) (I : Nat → σ → Prop) (Post : ρ → Prop)
    (hs : ∀ (i : Nat) s, i < n → I i s → (∃ r, Post r ∧ Ev (fun k => L k s (i : Int)) r) ∨ ∃ s', I (i + 1) s' ∧ ∀ r, Ev (fun k => L k s' ((i + 1 : Nat) : Int)) r → Ev (fun k => L k s (i : Int)) r)
    (he : ∀ s, I n s → ∃ r, Post r ∧ Ev (fun k => L k s (n : Int)) r) (s : σ) (h0 : I 0 s) : ∃ r, Post r ∧ Ev (fun k => L k s 0) r :=
  loop_from n L I Post hs he n 0 s (by omega) h0
/-- The same where one answer is told. -/
theorem loop_is {σ ρ : Type} (n : Nat) (L : Nat → σ → Int → Option ρ) (I : Nat → σ → Prop) (a : ρ)
    (hs : ∀ (i : Nat) s, i < n → I i s → Ev (fun k => L k s (i : Int)) a ∨ ∃ s', I (i + 1) s' ∧ ∀ r, Ev (fun k => L k s' ((i + 1 : Nat) : Int)) r → Ev (fun k => L k s (i : Int)) r)
    (he : ∀ s, I n s → Ev (fun k => L k s (n : Int)) a) (s : σ) (h0 : I 0 s) : Ev (fun k => L k s 0) a := by
  obtain ⟨r, hr, hE⟩ := loop_up n L I (· = a) (fun i s hi hI => (hs i s hi hI).imp (fun h => ⟨a, rfl, h⟩) id) (fun s hI => ⟨a, rfl, he s hI⟩) s h0
  exact hr ▸ hE
theorem ev_some {α : Type} {g : Nat → Option α} {r : α} (h : ∀ k, g k = some r) : Ev g r := ⟨0, fun k _ => h k⟩
theorem ev_next {α : Type} {g f : Nat → Option α} (h : ∀ k, g (k + 1) = f k) : ∀ r, Ev f r → Ev g r := fun _ k => Ev.step h k
theorem ev_end {α : Type} {g : Nat → Option α} {r : α} (h : ∀ k, g (k + 1) = some r) : Ev g r := Ev.step h (Ev.now r)
theorem ev_of {α : Type} {g : Nat → Option α} {r : α} {K : Nat} (h : ∀ k, K ≤ k → g k = some r) : Ev g r := ⟨K, h⟩
theorem ev_then1 {α : Type} {g : Nat → Option α} {r : α} (h : Ev g r) : Ev (fun k => (g k).bind fun t => some t) r := Ev.bind h (Ev.now r)
/-- what is bound comes to the same -/
theorem ev_bind_some {α β : Type} {a : α} {f : Nat → α → Option β} {r : β} (k : Ev (fun n => f n a) r) : Ev (fun n => (some a).bind (f n)) r := k

theorem take_set {α : Type} (l y : List α) (i : Nat) (v : α) (hl : y.length = l.length) (hi : i < l.length) (hv : v = l[i]) (h : y.take i = l.take i) : (y.set i v).take (i + 1) = l.take (i + 1) := by
  rw [List.take_succ_eq_append_getElem (by rw [List.length_set]; omega), List.take_succ_eq_append_getElem hi]
  congr 1
  · rw [List.take_set_of_le (by omega)]; exact h
  · simp [hv]
theorem take_all {α : Type} (l y : List α) (n : Nat) (hl : y.length = n) (hn : l.length = n) (h : y.take n = l.take n) : y = l := by
  rw [List.take_of_length_le (by omega), List.take_of_length_le (by omega)] at h
  exact h
theorem getD_get {α : Type} (l : List α) (i : Nat) (z : α) (h : i < l.length) : l.getD i z = l[i] := by
  rw [List.getD_eq_getElem?_getD, List.getElem?_eq_getElem h]; rfl
theorem map_loop {α β : Type} (L : Nat → List β → Int → Option (List β)) (l : List α) (c : α → β)
    (hs : ∀ (i : Nat) (h : i < l.length) y, y.length = l.length → ∀ r, Ev (fun k => L k (y.set i (c l[i])) ((i + 1 : Nat) : Int)) r → Ev (fun k => L k y (i : Int)) r)
    (he : ∀ k y, L (k + 1) y (l.length : Int) = some y) (y : List β) (hy : y.length = l.length) : Ev (fun k => L k y 0) (l.map c) := by
  refine loop_is l.length L (fun i y => y.length = l.length ∧ y.take i = (l.map c).take i) _ ?_ ?_ y ⟨hy, by simp⟩
  · intro i s hi ⟨h1, h2⟩
    exact .inr ⟨s.set i (c l[i]), ⟨by rw [List.length_set]; exact h1, take_set (l.map c) s i _ (by simpa using h1) (by simpa using hi) (by simp) h2⟩, hs i hi s h1⟩
  · intro s ⟨h1, h2⟩
    have e := take_all (l.map c) s l.length h1 (by simp) h2
    exact e ▸ ev_end (fun k => he k s)
theorem eq_loop (n : Nat) (L : Nat → Int → Option Bool) (hs : ∀ i : Nat, i < n → ∀ r, Ev (fun k => L k ((i + 1 : Nat) : Int)) r → Ev (fun k => L k (i : Int)) r) (he : ∀ k, L (k + 1) (n : Int) = some true) : Ev (fun k => L k 0) true :=
  loop_is n (fun k (_ : Unit) i => L k i) (fun _ _ => True) true (fun i _ hi _ => .inr ⟨(), trivial, hs i hi⟩) (fun _ _ => ev_end he) () trivial
theorem same_loop {α : Type} [DecidableEq α] (a b : List α) (hl : a.length = b.length) (L : Nat → Int → Option Bool)
    (hs : ∀ k (i : Nat) (h : i < a.length) (h' : i < b.length), L (k + 1) (i : Int) = if a[i] = b[i] then L k ((i + 1 : Nat) : Int) else some false) (he : ∀ k, L (k + 1) (a.length : Int) = some true) : Ev (fun k => L k 0) (decide (a = b)) := by
  refine loop_is a.length (fun k (_ : Unit) i => L k i) (fun i _ => a.take i = b.take i) _ ?_ ?_ () (by simp)
  · intro i _ hi hI
    have hi' : i < b.length := by omega
    by_cases c : a[i] = b[i]
    · refine .inr ⟨(), ?_, ev_next (fun k => ?_)⟩
      · rw [List.take_succ_eq_append_getElem hi, List.take_succ_eq_append_getElem hi', hI, c]
      · rw [hs k i hi hi', if_pos c]
    · left
      rw [decide_eq_false (fun e => c (by subst e; rfl))]
      exact ev_end (fun k => by rw [hs k i hi hi', if_neg c])
  · intro _ hI
    rw [List.take_length, hl, List.take_length] at hI
    rw [decide_eq_true hI]
    exact ev_end he
/-- numbers from c on -/
def cnt (c n : Nat) : List Int := (List.range n).map fun j => ((c + j : Nat) : Int)
theorem cnt_length (c n : Nat) : (cnt c n).length = n := by simp [cnt]
theorem cnt_get (c n i : Nat) (h : i < (cnt c n).length) : (cnt c n)[i] = ((c + i : Nat) : Int) := by simp [cnt]
theorem mark_loop (n c : Nat) (hc : c + n ≤ 4611686018427387904) (L : Nat → List Int × Int → Int → Option (Int × List Int))
    (hs : ∀ k (i : Nat) x (m : Nat), i < n → x.length = n → m ≤ 4611686018427387904 → L (k + 1) (x, (m : Int)) (i : Int) = L k (x.set i (m : Int), ((m + 1 : Nat) : Int)) ((i + 1 : Nat) : Int))
    (he : ∀ k x m, x.length = n → L (k + 1) (x, m) (n : Int) = some (m, x)) (x : List Int) (hx : x.length = n) : Ev (fun k => L k (x, (c : Int)) 0) (((c + n : Nat) : Int), cnt c n) := by
  refine loop_is n L (fun i s => s.1.length = n ∧ s.2 = ((c + i : Nat) : Int) ∧ s.1.take i = (cnt c n).take i) _ ?_ ?_ (x, (c : Int)) ⟨hx, by simp, by simp⟩
  · rintro i ⟨x, m⟩ hi ⟨h1, h2, h3⟩
    simp only at h1 h2 h3
    subst h2
    exact .inr ⟨(x.set i ((c + i : Nat) : Int), ((c + i + 1 : Nat) : Int)), ⟨by simpa using h1, rfl, take_set (cnt c n) x i _ (by rw [cnt_length]; exact h1) (by rw [cnt_length]; exact hi) (by rw [cnt_get]) h3⟩, ev_next (fun k => hs k i x (c + i) hi h1 (by omega))⟩
  · rintro ⟨x, m⟩ ⟨h1, h2, h3⟩
    simp only at h1 h2 h3
    have e := take_all (cnt c n) x n h1 (cnt_length c n) h3
    subst h2 e
    exact ev_end (fun k => he k _ _ h1)
theorem held_loop (n c : Nat) (hc : c + n ≤ 4611686018427387904) (L : Nat → Int → Int → Option Int)
    (hs : ∀ k (i : Nat), i < n → L (k + 1) ((c + i : Nat) : Int) (i : Int) = L k ((c + i + 1 : Nat) : Int) ((i + 1 : Nat) : Int))
    (he : ∀ k m, L (k + 1) m (n : Int) = some m) : Ev (fun k => L k (c : Int) 0) ((c + n : Nat) : Int) := by
  refine loop_is n L (fun i s => s = ((c + i : Nat) : Int)) _ ?_ ?_ (c : Int) (by simp)
  · rintro i _ hi rfl
    exact .inr ⟨((c + i + 1 : Nat) : Int), rfl, ev_next (fun k => hs k i hi)⟩
  · rintro _ rfl
    exact ev_end (fun k => he k _)
/-- marking rows of several numbers: how far it counts -/
theorem count_loop {α : Type} (n c w : Nat) (L : Nat → List α × Int → Int → Option (Int × List α))
    (hs : ∀ (i : Nat) x (m : Nat), i < n → x.length = n → m ≤ c + w * n → ∃ x' : List α, x'.length = n ∧ ∀ k, L (k + 1) (x, (m : Int)) (i : Int) = L k (x', ((m + w : Nat) : Int)) ((i + 1 : Nat) : Int))
    (he : ∀ k x m, x.length = n → L (k + 1) (x, m) (n : Int) = some (m, x)) (x : List α) (hx : x.length = n) : ∃ x', Ev (fun k => L k (x, (c : Int)) 0) (((c + w * n : Nat) : Int), x') := by
  obtain ⟨r, hr, hE⟩ := loop_up n L (fun i s => s.1.length = n ∧ s.2 = ((c + w * i : Nat) : Int)) (fun r : Int × List α => r.1 = ((c + w * n : Nat) : Int)) (by
    rintro i ⟨x, m⟩ hi ⟨h1, h2⟩
    simp only at h1 h2
    subst h2
    have hle : w * i ≤ w * n := Nat.mul_le_mul_left _ (by omega)
    obtain ⟨x', g1, g2⟩ := hs i x (c + w * i) hi h1 (by omega)
    exact .inr ⟨(x', ((c + w * i + w : Nat) : Int)), ⟨g1, by simp only [Nat.mul_add, Nat.mul_one, Nat.add_assoc]⟩, ev_next g2⟩) (by
    rintro ⟨x, m⟩ ⟨h1, h2⟩
    simp only at h1 h2
    subst h2
    exact ⟨_, rfl, ev_end (fun k => he k _ _ h1)⟩) (x, (c : Int)) ⟨hx, by simp⟩
  obtain ⟨a, b⟩ := r
  simp only at hr
  subst hr
  exact ⟨b, hE⟩

end Go.Proofs.Ytkadeelplnkpgaa.Pure

-- text OLInt
namespace Go.Proofs.Ytkadeelplnkpgaa.Pure
open Go.RowKit Go.Proofs.Ytkadeelplnkpgaa.Q Go.Proofs.YtkadeelplnkpgaaW.PrintWords Go.Proofs.YtkadeelplnkpgaaW.PrintLast Go.Proofs.YtkadeelplnkpgaaW.PrintMore
set_option linter.unusedVariables false
set_option linter.unusedSimpArgs false

theorem rd_get (l : List Int) (i : Nat) (h : i < l.length) : rd l (i : Int) = l[i] := by
  unfold rd
  rw [Int.toNat_natCast, getD_get l i 0 h]
theorem toInt64S_ev (l : List Int) (hl : l.length ≤ 1048576) : Ev (fun k => laws_toInt64S.f k l) l := by
  have h := map_loop (fun k y i => laws_toInt64S.l0 k l y i) l id (fun i hi y hy => ev_next (fun k => by
    simp only [laws_toInt64S.l0]
    rw [if_pos (by omega), if_pos (by omega), if_pos (by omega), up64 i l.length hi (by omega), Int.toNat_natCast, rd_get l i hi]
    rfl)) (fun k y => by simp only [laws_toInt64S.l0]; rw [if_neg (by omega)]) (List.replicate ((l.length : Int) : Int).toNat 0) (by simp)
  rw [List.map_id] at h
  refine Ev.congr (fun k => ?_) h
  unfold laws_toInt64S.f
  rw [if_pos (by omega), if_pos (by omega)]
theorem eqInt64S_ev (l : List Int) (hl : l.length ≤ 9223372036854775807) : Ev (fun k => laws_eqInt64S.f k l l) true := by
  refine Ev.congr (fun k => ?_) (eq_loop l.length (fun k i => laws_eqInt64S.l0 k l l i) (fun i hi => ev_next (fun k => by
    simp only [laws_eqInt64S.l0]
    rw [if_pos (by omega), if_pos (by omega), if_pos (by omega), if_pos trivial, up64 i l.length hi hl])) (fun k => by simp only [laws_eqInt64S.l0]; rw [if_neg (by omega)]))
  unfold laws_eqInt64S.f
  rw [if_pos rfl]

end Go.Proofs.Ytkadeelplnkpgaa.Pure

-- text OLTree
namespace Go.Proofs.Ytkadeelplnkpgaa.Pure
open Go.RowKit Go.Proofs.Ytkadeelplnkpgaa.Q Go.Proofs.Ytkadeelplnkpgaa.Opens Go.Proofs.YtkadeelplnkpgaaW.PrintWords Go.Proofs.YtkadeelplnkpgaaW.PrintLast Go.Proofs.YtkadeelplnkpgaaW.PrintMore
set_option linter.unusedVariables false
set_option linter.unusedSimpArgs false

def devOf (x : S110) : S50 := ⟨x.f0, x.f1⟩
def bktOf (x : S106) : S108 := ⟨x.f0, x.f1, x.f2⟩
theorem rd_devL (l : List S110) (i : Nat) (h : i < l.length) : rd_T110 l (i : Int) = l[i] := by
  unfold rd_T110
  rw [Int.toNat_natCast, getD_get l i _ h]
theorem rd_dev (l : List S50) (i : Nat) (h : i < l.length) : rd_T50 l (i : Int) = l[i] := by
  unfold rd_T50
  rw [Int.toNat_natCast, getD_get l i _ h]
theorem rd_bktL (l : List S106) (i : Nat) (h : i < l.length) : rd_T106 l (i : Int) = l[i] := by
  unfold rd_T106
  rw [Int.toNat_natCast, getD_get l i _ h]
theorem rd_bkt (l : List S108) (i : Nat) (h : i < l.length) : rd_T108 l (i : Int) = l[i] := by
  unfold rd_T108
  rw [Int.toNat_natCast, getD_get l i _ h]
theorem toDeviceS_ev (l : List S110) (hl : l.length ≤ 1048576) : Ev (fun k => laws_toDeviceS.f k l) (l.map devOf) := by
  have h := map_loop (fun k y i => laws_toDeviceS.l0 k l y i) l devOf (fun i hi y hy => ev_next (fun k => by
    simp only [laws_toDeviceS.l0, laws_toDevice.f, Option.bind_some]
    rw [if_pos (by omega), if_pos (by omega), if_pos (by omega), up64 i l.length hi (by omega), Int.toNat_natCast, rd_devL l i hi]
    all_goals exact rfl)) (fun k y => by simp only [laws_toDeviceS.l0]; rw [if_neg (by omega)]) (List.replicate ((l.length : Int) : Int).toNat z50) (by simp)
  refine Ev.congr (fun k => ?_) h
  unfold laws_toDeviceS.f
  rw [if_pos (by omega), if_pos (by omega)]
theorem toBucketS_ev (l : List S106) (hl : l.length ≤ 1048576) (hb : ∀ x ∈ l, x.f2.length ≤ 1048576) : Ev (fun k => laws_toBucketS.f k l) (l.map bktOf) := by
  have h := map_loop (fun k y i => laws_toBucketS.l0 k l y i) l bktOf (fun i hi y hy => fun r hr => by
    refine Ev.step (f := ?f) (fun k => ?_) ?_
    rotate_left
    · simp only [laws_toBucketS.l0]
      rw [if_pos (by omega), if_pos (by omega), rd_bktL l i hi, up64 i l.length hi (by omega), Int.toNat_natCast]
      all_goals exact rfl
    · refine Ev.bind (a := (l[i].f0, l[i].f1, l[i].f2)) ?_ ?_
      · unfold laws_toBucket.f
        exact Ev.bind (toInt64S_ev _ (hb _ (List.getElem_mem hi))) (Ev.now _)
      · refine Ev.congr (fun k => ?_) hr
        rw [if_pos (by omega)]
        rfl) (fun k y => by simp only [laws_toBucketS.l0]; rw [if_neg (by omega)]) (List.replicate ((l.length : Int) : Int).toNat z108) (by simp)
  refine Ev.congr (fun k => ?_) h
  unfold laws_toBucketS.f
  rw [if_pos (by omega), if_pos (by omega)]
theorem eqDeviceS_ev (l : List S50) (hl : l.length ≤ 9223372036854775807) : Ev (fun k => laws_eqDeviceS.f k l l) true := by
  refine Ev.congr (fun k => ?_) (eq_loop l.length (fun k i => laws_eqDeviceS.l0 k l l i) (fun i hi => ev_next (fun k => by
    simp only [laws_eqDeviceS.l0, laws_eqDevice.f, Option.bind_some, if_true]
    rw [if_pos (by omega), if_pos (by omega), if_pos (by omega), up64 i l.length hi hl])) (fun k => by simp only [laws_eqDeviceS.l0]; rw [if_neg (by omega)]))
  unfold laws_eqDeviceS.f
  rw [if_pos rfl]
theorem eqBucketS_ev (l : List S108) (hl : l.length ≤ 9223372036854775807) (hb : ∀ x ∈ l, x.f2.length ≤ 9223372036854775807) : Ev (fun k => laws_eqBucketS.f k l l) true := by
  refine Ev.congr (fun k => ?_) (eq_loop l.length (fun k i => laws_eqBucketS.l0 k l l i) (fun i hi => fun r hr => by
    refine Ev.step (f := ?f) (fun k => ?_) ?_
    rotate_left
    · simp only [laws_eqBucketS.l0]
      rw [if_pos (by omega), if_pos (by omega), if_pos (by omega), up64 i l.length hi hl, rd_bkt l i hi]
      all_goals exact rfl
    · refine Ev.bind (a := true) ?_ (Ev.congr (fun k => if_pos rfl) hr)
      unfold laws_eqBucket.f
      simp only [if_true]
      exact Ev.bind (eqInt64S_ev _ (hb _ (List.getElem_mem hi))) (ev_some fun k => if_pos rfl)) (fun k => by simp only [laws_eqBucketS.l0]; rw [if_neg (by omega)]))
  unfold laws_eqBucketS.f
  rw [if_pos rfl]
theorem szInt64S_left (l : List Int) (left : Int) (hl : l.length ≤ 9223372036854775807) (h0 : 0 ≤ left) (h1 : left ≤ 1048576) : laws_szInt64S.f l left = some (if (l.length : Int) ≤ left then left - (l.length : Int) else -1) := by
  have e : wrap64 (left - (l.length : Int)) = left - (l.length : Int) := by unfold wrap64; omega
  unfold laws_szInt64S.f
  rw [e]
  by_cases h : (l.length : Int) ≤ left
  · rw [if_neg (by omega), if_pos h]
  · rw [if_pos (by omega), if_neg h]
theorem szDeviceS_left (l : List S110) (left : Int) (hl : l.length ≤ 9223372036854775807) (h0 : 0 ≤ left) (h1 : left ≤ 1048576) : laws_szDeviceS.f l left = some (if (l.length : Int) ≤ left then left - (l.length : Int) else -1) := by
  have e : wrap64 (left - (l.length : Int)) = left - (l.length : Int) := by unfold wrap64; omega
  unfold laws_szDeviceS.f
  rw [e]
  by_cases h : (l.length : Int) ≤ left
  · rw [if_neg (by omega), if_pos h]
  · rw [if_pos (by omega), if_neg h]
/-- the sizes are small -/
def Small (d : List S110) (b : List S106) : Prop := d.length ≤ 1048576 ∧ b.length ≤ 1048576 ∧ ∀ x ∈ b, x.f2.length ≤ 1048576
theorem szBucketS_ev (l : List S106) (left : Int) (hl : l.length ≤ 9223372036854775807) (hb : ∀ x ∈ l, x.f2.length ≤ 9223372036854775807) (h0 : 0 ≤ left) (h1 : left ≤ 1048576) :
    ∃ t, (0 ≤ t → t ≤ 1048576 ∧ l.length ≤ 1048576 ∧ ∀ x ∈ l, x.f2.length ≤ 1048576) ∧ Ev (fun k => laws_szBucketS.f k l left) t := by
  have e : wrap64 (left - (l.length : Int)) = left - (l.length : Int) := by unfold wrap64; omega
  unfold laws_szBucketS.f
  simp only [e]
  by_cases h : (left - (l.length : Int)) < 0
  · simp only [if_pos h]
    exact ⟨-1, by omega, Ev.now _⟩
  · simp only [if_neg h]
    refine loop_up l.length (fun k s i => laws_szBucketS.l0 k l s i) (fun i s => 0 ≤ s ∧ s ≤ 1048576 ∧ ∀ x ∈ l.take i, x.f2.length ≤ 1048576) _ ?_ ?_ _ ⟨by omega, by omega, by simp⟩
    · intro i s hi ⟨g0, g1, g2⟩
      have hsz := hb l[i] (List.getElem_mem hi)
      have hz := szInt64S_left l[i].f2 s hsz g0 g1
      have hu : ∀ k, laws_szBucketS.l0 (k + 1) l s i = (laws_szBucket.f l[i].f0 l[i].f1 l[i].f2 s).bind fun t => if t < 0 then some (-1) else laws_szBucketS.l0 k l t ((i + 1 : Nat) : Int) := fun k => by
        simp only [laws_szBucketS.l0]
        rw [if_pos (by omega), if_pos (by omega), rd_bktL l i hi, up64 i l.length hi hl]
      unfold laws_szBucket.f at hu
      by_cases c : (l[i].f2.length : Int) ≤ s
      · refine .inr ⟨s - (l[i].f2.length : Int), ⟨by omega, by omega, fun x hx => ?_⟩, ev_next (fun k => ?_)⟩
        · rw [List.take_succ_eq_append_getElem hi] at hx
          rcases List.mem_append.1 hx with hx | hx
          · exact g2 x hx
          · simp only [List.mem_singleton] at hx
            subst hx
            omega
        · rw [hu k, hz, if_pos c]
          simp only [Option.bind_some]
          rw [if_neg (by omega), Option.bind_some, if_neg (by omega)]
      · refine .inl ⟨-1, by omega, ev_end (fun k => ?_)⟩
        rw [hu k, hz, if_neg c]
        simp
    · intro s ⟨g0, g1, g2⟩
      rw [List.take_length] at g2
      refine ⟨s, fun _ => ⟨by omega, by omega, g2⟩, ev_end (fun k => ?_)⟩
      simp only [laws_szBucketS.l0]
      rw [if_neg (by omega)]
theorem szTree_ev (d : List S110) (b : List S106) (left : Int) (hd : d.length ≤ 9223372036854775807) (hl : b.length ≤ 9223372036854775807) (hb : ∀ x ∈ b, x.f2.length ≤ 9223372036854775807) (h0 : 0 ≤ left) (h1 : left ≤ 1048576) :
    ∃ t, (0 ≤ t → t ≤ 1048576 ∧ Small d b) ∧ Ev (fun k => laws_szTree.f k d b left) t := by
  unfold laws_szTree.f
  simp only [szDeviceS_left d left hd h0 h1, Option.bind_some]
  by_cases c : (d.length : Int) ≤ left
  · simp only [if_pos c, show ¬ (left - (d.length : Int) < 0) by omega, if_false]
    obtain ⟨t, ht, hE⟩ := szBucketS_ev b (left - (d.length : Int)) hl hb (by omega) (by omega)
    by_cases c2 : t < 0
    · exact ⟨-1, by omega, Ev.bind hE (ev_some fun k => if_pos c2)⟩
    · have := ht (by omega)
      exact ⟨t, fun _ => ⟨this.1, by omega, this.2.1, this.2.2⟩, Ev.bind hE (ev_some fun k => if_neg c2)⟩
  · simp only [if_neg c]
    exact ⟨-1, by omega, ev_some fun k => by simp⟩
theorem toTree_ev (d : List S110) (b : List S106) (h : Small d b) : Ev (fun k => laws_toTree.f k d b) (d.map devOf, b.map bktOf) := by
  unfold laws_toTree.f
  exact Ev.bind (toDeviceS_ev d h.1) (Ev.bind (toBucketS_ev b h.2.1 h.2.2) (Ev.now _))
theorem eqTree_ev (d : List S110) (b : List S106) (h : Small d b) : Ev (fun k => laws_eqTree.f k (d.map devOf) (b.map bktOf) (d.map devOf) (b.map bktOf)) true := by
  obtain ⟨h1, h2, h3⟩ := h
  unfold laws_eqTree.f
  refine Ev.bind (eqDeviceS_ev _ (by rw [List.length_map]; omega)) ?_
  simp only [if_true]
  refine Ev.bind (eqBucketS_ev _ (by rw [List.length_map]; omega) (fun x hx => ?_)) (ev_some fun k => if_pos rfl)
  obtain ⟨y, hy, rfl⟩ := List.mem_map.1 hx
  have := h3 y hy
  show y.f2.length ≤ _
  omega
/-- the numbers of a law's topology are of their kind -/
theorem wf_of_good (d : List S110) (b : List S106) (hd : good_t22 d) (hb : good_t23 b) : wfTree (d.map devOf) (b.map bktOf) = true := by
  unfold wfTree
  rw [Bool.and_eq_true, List.all_eq_true, List.all_eq_true]
  constructor
  · intro x hx
    obtain ⟨y, hy, rfl⟩ := List.mem_map.1 hx
    have := hd.2 y hy
    rw [Bool.and_eq_true]
    exact ⟨wf_wfI this.1, wf_wfI this.2⟩
  · intro x hx
    obtain ⟨y, hy, rfl⟩ := List.mem_map.1 hx
    have := hb.2 y hy
    rw [Bool.and_eq_true, Bool.and_eq_true]
    refine ⟨⟨wf_wfI this.1, wf_wfI this.2.1⟩, ?_⟩
    rw [List.all_eq_true]
    intro z hz
    exact wf_wfI (this.2.2.2 z hz)
theorem small_of_good (d : List S110) (b : List S106) (hd : good_t22 d) (hb : good_t23 b) : d.length ≤ 9223372036854775807 ∧ b.length ≤ 9223372036854775807 ∧ ∀ x ∈ b, x.f2.length ≤ 9223372036854775807 :=
  ⟨hd.1, hb.1, fun x hx => (hb.2 x hx).2.2.1⟩

end Go.Proofs.Ytkadeelplnkpgaa.Pure

-- text OTree
namespace Go.Proofs.Ytkadeelplnkpgaa.Pure
open Go.RowKit Go.Proofs.Ytkadeelplnkpgaa.Q Go.Proofs.YtkadeelplnkpgaaW.PrintWords Go.Proofs.YtkadeelplnkpgaaW.PrintLast Go.Proofs.YtkadeelplnkpgaaW.PrintMore
set_option linter.unusedVariables false
set_option linter.unusedSimpArgs false

theorem in_inB (a b c : Int) : spec_l00In.f a b c = some (inB a b c) := between_inB a b c
/-- a loop that asks each place in turn -/
theorem all_loop (n : Nat) (L : Nat → Int → Option Bool) (c : Nat → Bool) (ht : ∀ i : Nat, i < n → c i = true → ∀ r, Ev (fun k => L k ((i + 1 : Nat) : Int)) r → Ev (fun k => L k (i : Int)) r)
    (hf : ∀ i : Nat, i < n → c i = false → Ev (fun k => L k (i : Int)) false) (he : ∀ k, L (k + 1) (n : Int) = some true) : Ev (fun k => L k 0) ((List.range n).all c) := by
  refine loop_is n (fun k (_ : Unit) i => L k i) (fun i _ => ∀ j, j < i → c j = true) _ ?_ ?_ () (fun j hj => absurd hj (Nat.not_lt_zero j))
  · intro i _ hi hI
    cases hc : c i with
    | true =>
      refine .inr ⟨(), fun j hj => ?_, ht i hi hc⟩
      rcases Nat.lt_succ_iff_lt_or_eq.1 hj with h | h
      · exact hI j h
      · rw [h]; exact hc
    | false =>
      left
      have e : (List.range n).all c = false := by
        rw [List.all_eq_false]
        exact ⟨i, by simpa using hi, by simp [hc]⟩
      rw [e]
      exact hf i hi hc
  · intro _ hI
    have e : (List.range n).all c = true := by
      rw [List.all_eq_true]
      intro j hj
      exact hI j (by simpa using hj)
    rw [e]
    exact ev_end he
theorem has_ev (l : List Int) (x : Int) (hl : l.length ≤ 9223372036854775807) : Ev (fun k => spec_l00Has.f k l x) (l.any fun y => y == x) := by
  refine loop_is l.length (fun k (_ : Unit) i => spec_l00Has.l0 k l x i) (fun i _ => (l.take i).any (fun y => y == x) = false) _ ?_ ?_ () (by simp)
  · intro i _ hi hI
    have hu : ∀ k, spec_l00Has.l0 (k + 1) l x i = if l[i] = x then some true else spec_l00Has.l0 k l x ((i + 1 : Nat) : Int) := fun k => by
      simp only [spec_l00Has.l0]
      rw [if_pos (by omega), if_pos (by omega), rd_get l i hi, up64 i l.length hi hl]
    by_cases c : l[i] = x
    · left
      have e : l.any (fun y => y == x) = true := by
        rw [List.any_eq_true]
        exact ⟨l[i], List.getElem_mem hi, by simpa using c⟩
      rw [e]
      exact ev_end (fun k => by rw [hu k, if_pos c])
    · refine .inr ⟨(), ?_, ev_next (fun k => by rw [hu k, if_neg c])⟩
      rw [List.take_succ_eq_append_getElem hi, List.any_append, hI]
      simpa using c
  · intro _ hI
    rw [List.take_length] at hI
    rw [hI]
    exact ev_end (fun k => by simp only [spec_l00Has.l0]; rw [if_neg (by omega)])
/-- the index of a device -/
def devAt (D : List S50) (id : Int) : Int := idxFrom (fun x : S50 => x.f0 == id) D 0
theorem idx_step {α : Type} (p : α → Bool) (l : List α) (i : Nat) (hi : i < l.length) : idxFrom p (l.drop i) i = if p l[i] = true then (i : Int) else idxFrom p (l.drop (i + 1)) ((i + 1 : Nat) : Int) := by
  rw [List.drop_eq_getElem_cons hi]
  rfl
theorem specDevice_ev (D : List S50) (B : List S108) (id : Int) (hD : D.length ≤ 9223372036854775807) : Ev (fun k => spec_l06Device.f k D B id) (devAt D id) := by
  refine loop_is D.length (fun k (_ : Unit) i => spec_l06Device.l0 k id i D B) (fun i _ => devAt D id = idxFrom (fun x : S50 => x.f0 == id) (D.drop i) i) _ ?_ ?_ () rfl
  · intro i _ hi hI
    have hu : ∀ k, spec_l06Device.l0 (k + 1) id i D B = if D[i].f0 = id then some (i : Int) else spec_l06Device.l0 k id ((i + 1 : Nat) : Int) D B := fun k => by
      simp only [spec_l06Device.l0]
      rw [if_pos (by omega), if_pos (by omega), rd_dev D i hi, up64 i D.length hi hD]
    rw [idx_step _ D i hi] at hI
    by_cases c : D[i].f0 = id
    · left
      rw [if_pos (by simpa using c)] at hI
      rw [hI]
      exact ev_end (fun k => by rw [hu k, if_pos c])
    · rw [if_neg (by simpa using c)] at hI
      exact .inr ⟨(), hI, ev_next (fun k => by rw [hu k, if_neg c])⟩
  · intro _ hI
    rw [List.drop_length] at hI
    rw [hI]
    exact ev_end (fun k => by simp only [spec_l06Device.l0]; rw [if_neg (by omega)]; rfl)
theorem specBucket_ev (D : List S50) (B : List S108) (id : Int) (hB : B.length ≤ 9223372036854775807) : Ev (fun k => spec_l06Bucket.f k D B id) (bucketAt B id) := by
  refine loop_is B.length (fun k (_ : Unit) i => spec_l06Bucket.l0 k id i D B) (fun i _ => bucketAt B id = idxFrom (fun x : S108 => x.f0 == id) (B.drop i) i) _ ?_ ?_ () rfl
  · intro i _ hi hI
    have hu : ∀ k, spec_l06Bucket.l0 (k + 1) id i D B = if B[i].f0 = id then some (i : Int) else spec_l06Bucket.l0 k id ((i + 1 : Nat) : Int) D B := fun k => by
      simp only [spec_l06Bucket.l0]
      rw [if_pos (by omega), if_pos (by omega), rd_bkt B i hi, up64 i B.length hi hB]
    rw [idx_step _ B i hi] at hI
    by_cases c : B[i].f0 = id
    · left
      rw [if_pos (by simpa using c)] at hI
      rw [hI]
      exact ev_end (fun k => by rw [hu k, if_pos c])
    · rw [if_neg (by simpa using c)] at hI
      exact .inr ⟨(), hI, ev_next (fun k => by rw [hu k, if_neg c])⟩
  · intro _ hI
    rw [List.drop_length] at hI
    rw [hI]
    exact ev_end (fun k => by simp only [spec_l06Bucket.l0]; rw [if_neg (by omega)]; rfl)
theorem specKind_ev (D : List S50) (B : List S108) (id : Int) (hD : D.length ≤ 9223372036854775807) (hB : B.length ≤ 9223372036854775807) : Ev (fun k => spec_l06Kind.f k D B id) (kindAt D B id) := by
  unfold spec_l06Kind.f
  have hk : kindAt D B id = if 0 ≤ devAt D id then 0 else if bucketAt B id < 0 then -1 else (rd_T108 B (bucketAt B id)).f1 := rfl
  refine Ev.bind (specDevice_ev D B id hD) ?_
  by_cases c : 0 ≤ devAt D id
  · rw [hk, if_pos c]
    simp only [show devAt D id ≥ 0 from c, if_true]
    exact Ev.now _
  · rw [hk, if_neg c]
    simp only [show ¬ (devAt D id ≥ 0) from c, if_false]
    refine Ev.bind (specBucket_ev D B id hB) ?_
    by_cases c2 : bucketAt B id < 0
    · rw [if_pos c2]
      simp only [show ¬ (bucketAt B id ≥ 0) by omega, if_false]
      exact Ev.now _
    · rw [if_neg c2]
      have := bucketAt_lt B id (by omega)
      simp only [show bucketAt B id ≥ 0 by omega, show 0 ≤ bucketAt B id by omega, this, if_true]
      exact Ev.now _
/-! numbers, each once -/
theorem mem_addOnce (acc : List Int) (x y : Int) : y ∈ addOnce acc x ↔ y ∈ acc ∨ y = x := by
  unfold addOnce
  split
  · rename_i h
    rw [List.any_eq_true] at h
    obtain ⟨z, hz, he⟩ := h
    have : z = x := by simpa using he
    subst this
    constructor
    · exact .inl
    · rintro (h | rfl)
      · exact h
      · exact hz
  · simp
theorem mem_fold_once : ∀ (S acc : List Int) (y : Int), y ∈ S.foldl addOnce acc ↔ y ∈ acc ∨ y ∈ S
  | [], acc, y => by simp
  | x :: S, acc, y => by
    rw [List.foldl_cons, mem_fold_once S, mem_addOnce]
    simp only [List.mem_cons]
    constructor
    · rintro ((h | h) | h)
      · exact .inl h
      · exact .inr (.inl h)
      · exact .inr (.inr h)
    · rintro (h | h | h)
      · exact .inl (.inl h)
      · exact .inl (.inr h)
      · exact .inr h
theorem nodup_addOnce (acc : List Int) (x : Int) (h : acc.Nodup) : (addOnce acc x).Nodup := by
  unfold addOnce
  split
  · exact h
  · rename_i hn
    rw [List.nodup_append]
    refine ⟨h, by simp, fun a ha b hb => ?_⟩
    simp only [List.mem_singleton] at hb
    subst hb
    intro e
    subst e
    exact hn (by rw [List.any_eq_true]; exact ⟨a, ha, by simp⟩)
theorem nodup_fold_once : ∀ (S acc : List Int), acc.Nodup → (S.foldl addOnce acc).Nodup
  | [], _, h => h
  | x :: S, acc, h => nodup_fold_once S _ (nodup_addOnce acc x h)
theorem mem_once (S : List Int) (y : Int) : y ∈ onceOf S ↔ y ∈ S := by
  unfold onceOf
  rw [mem_fold_once]
  simp
theorem nodup_once (S : List Int) : (onceOf S).Nodup := nodup_fold_once S [] List.nodup_nil
theorem once_one (S : List Int) : (onceOf S).length ≤ 1 ↔ ∀ x ∈ S, ∀ y ∈ S, x = y := by
  have hm := mem_once S
  have hn := nodup_once S
  generalize onceOf S = T at hm hn
  constructor
  · intro h x hx y hy
    match T, h with
    | [], _ => have := (hm x).2 hx; simp at this
    | [z], _ =>
      have h1 := (hm x).2 hx
      have h2 := (hm y).2 hy
      simp only [List.mem_singleton] at h1 h2
      rw [h1, h2]
  · intro h
    match T, hn with
    | [], _ => simp
    | [z], _ => simp
    | z :: z' :: T', hn =>
      have h1 := (hm z).1 (by simp)
      have h2 := (hm z').1 (by simp)
      have e := h z h1 z' h2
      subst e
      simp at hn

end Go.Proofs.Ytkadeelplnkpgaa.Pure

-- text OTreeOk
namespace Go.Proofs.Ytkadeelplnkpgaa.Pure
open Go.RowKit Go.Proofs.Ytkadeelplnkpgaa.Q Go.Proofs.YtkadeelplnkpgaaW.PrintWords Go.Proofs.YtkadeelplnkpgaaW.PrintLast Go.Proofs.YtkadeelplnkpgaaW.PrintMore
set_option linter.unusedVariables false
set_option linter.unusedSimpArgs false

/-! devices -/
def devStep (D : List S50) (i : Nat) : Bool := inB (rd_T50 D i).f0 0 15 && inB (rd_T50 D i).f1 0 8 && !(decide (0 < i) && decide ((rd_T50 D i).f0 ≤ (rd_T50 D ((i : Int) - 1)).f0))
def devsB (D : List S50) : Bool := (List.range D.length).all (devStep D) && decide (D.length ≤ 16)
theorem wrap_down (i : Nat) (h : 0 < i) (hn : i ≤ 9223372036854775807) : wrap64 ((i : Int) - 1) = (i : Int) - 1 := by unfold wrap64; omega
theorem spec_devs_ev (D : List S50) (B : List S108) : Ev (fun k => spec_l06Devices.f k D B) (devsB D) := by
  unfold spec_l06Devices.f devsB
  by_cases h : (D.length : Int) > 16
  · simp only [if_pos h, decide_eq_false (show ¬ (D.length ≤ 16) by omega), Bool.and_false]
    exact Ev.now _
  · simp only [if_neg h, decide_eq_true (show D.length ≤ 16 by omega), Bool.and_true]
    have hu : ∀ (i : Nat), i < D.length → ∀ k, spec_l06Devices.l0 (k + 1) i D B = if devStep D i = true then spec_l06Devices.l0 k ((i + 1 : Nat) : Int) D B else some false := fun i hi k => by
      simp only [spec_l06Devices.l0]
      rw [if_pos (by omega), if_pos (by omega), in_inB, in_inB, up64 i D.length hi (by omega)]
      simp only [Option.bind_some]
      unfold devStep
      cases inB (rd_T50 D i).f0 0 15 with
      | false => simp
      | true =>
        cases inB (rd_T50 D i).f1 0 8 with
        | false => simp
        | true =>
          by_cases c : 0 < i
          · rw [if_pos rfl, if_pos rfl, if_pos (by omega), wrap_down i c (by omega), if_pos (by omega), if_pos (by omega)]
            by_cases c2 : (rd_T50 D i).f0 ≤ (rd_T50 D ((i : Int) - 1)).f0 <;> simp [c, c2]
          · rw [if_pos rfl, if_pos rfl, if_neg (by omega)]
            simp [c]
    exact all_loop D.length (fun k i => spec_l06Devices.l0 k i D B) (devStep D) (fun i hi hc => ev_next (fun k => by rw [hu i hi k, if_pos hc])) (fun i hi hc => ev_end (fun k => by rw [hu i hi k, if_neg (by rw [hc]; decide)])) (fun k => by simp only [spec_l06Devices.l0]; rw [if_neg (by omega)])
theorem isNode_inB (a : Int) : impl_isNode.f a = some (inB a 0 15) := by
  unfold impl_isNode.f
  rw [between_inB]; rfl
theorem impl_devs_ev (D : List S50) (B : List S108) (hD : D.length ≤ 9223372036854775807) : Ev (fun k => impl_Tree_devicesOk.f k D B) (devsB D) := by
  have hu : ∀ (i : Nat), i < D.length → ∀ k, impl_Tree_devicesOk.l0 (k + 1) D D.length i D B = if devStep D i = true then impl_Tree_devicesOk.l0 k D D.length ((i + 1 : Nat) : Int) D B else some false := fun i hi k => by
    simp only [impl_Tree_devicesOk.l0]
    rw [if_pos (by omega), if_pos (by omega), if_pos (by omega), isNode_inB, up64 i D.length hi hD]
    simp only [Option.bind_some, between_inB]
    unfold devStep
    cases inB (rd_T50 D i).f0 0 15 with
    | false => simp
    | true =>
      by_cases c : 0 < i
      · rw [if_pos rfl, if_pos (by omega), wrap_down i c (by omega), if_pos (by omega), if_pos (by omega)]
        by_cases c2 : (rd_T50 D i).f0 ≤ (rd_T50 D ((i : Int) - 1)).f0
        · simp [c, c2]
        · cases inB (rd_T50 D i).f1 0 8 <;> simp [c, c2]
      · rw [if_pos rfl, if_neg (by omega)]
        cases inB (rd_T50 D i).f1 0 8 <;> simp [c]
  refine loop_is D.length (fun k (_ : Unit) i => impl_Tree_devicesOk.l0 k D D.length i D B) (fun i _ => ∀ j, j < i → devStep D j = true) _ ?_ ?_ () (fun j hj => absurd hj (Nat.not_lt_zero j))
  · intro i _ hi hI
    cases hc : devStep D i with
    | true =>
      refine .inr ⟨(), fun j hj => ?_, ev_next (fun k => by rw [hu i hi k, if_pos hc])⟩
      rcases Nat.lt_succ_iff_lt_or_eq.1 hj with h | h
      · exact hI j h
      · rw [h]; exact hc
    | false =>
      left
      have e : devsB D = false := by
        unfold devsB
        have : (List.range D.length).all (devStep D) = false := by
          rw [List.all_eq_false]
          exact ⟨i, by simpa using hi, by simp [hc]⟩
        rw [this, Bool.false_and]
      rw [e]
      exact ev_end (fun k => by rw [hu i hi k, if_neg (by rw [hc]; decide)])
  · intro _ hI
    have e : devsB D = decide ((D.length : Int) ≤ 16) := by
      unfold devsB
      have : (List.range D.length).all (devStep D) = true := by
        rw [List.all_eq_true]
        intro j hj
        exact hI j (by simpa using hj)
      rw [this, Bool.true_and]
      exact decide_eq_decide.2 (by omega)
    rw [e]
    exact ev_end (fun k => by simp only [impl_Tree_devicesOk.l0]; rw [if_neg (by omega)])
/-! buckets -/
def bktStep (B : List S108) (i : Nat) : Bool := inB (rd_T108 B i).f0 (-12) (-1) && inB (rd_T108 B i).f1 1 3 && decide ((rd_T108 B i).f2.length ≤ 8) && !(decide (0 < i) && decide ((rd_T108 B ((i : Int) - 1)).f0 ≤ (rd_T108 B i).f0))
def bktsB (B : List S108) : Bool := (List.range B.length).all (bktStep B) && decide (B.length ≤ 12)
theorem spec_bkts_ev (D : List S50) (B : List S108) : Ev (fun k => spec_l06Buckets.f k D B) (bktsB B) := by
  unfold spec_l06Buckets.f bktsB
  by_cases h : (B.length : Int) > 12
  · simp only [if_pos h, decide_eq_false (show ¬ (B.length ≤ 12) by omega), Bool.and_false]
    exact Ev.now _
  · simp only [if_neg h, decide_eq_true (show B.length ≤ 12 by omega), Bool.and_true]
    have hu : ∀ (i : Nat), i < B.length → ∀ k, spec_l06Buckets.l0 (k + 1) i D B = if bktStep B i = true then spec_l06Buckets.l0 k ((i + 1 : Nat) : Int) D B else some false := fun i hi k => by
      simp only [spec_l06Buckets.l0]
      rw [if_pos (by omega), if_pos (by omega), in_inB, in_inB, up64 i B.length hi (by omega)]
      simp only [Option.bind_some]
      unfold bktStep
      cases inB (rd_T108 B i).f0 (-12) (-1) with
      | false => simp
      | true =>
        cases inB (rd_T108 B i).f1 1 3 with
        | false => simp
        | true =>
          rw [if_pos rfl, if_pos rfl]
          by_cases c8 : (rd_T108 B i).f2.length ≤ 8
          · rw [if_neg (by omega)]
            by_cases c : 0 < i
            · rw [if_pos (by omega), wrap_down i c (by omega), if_pos (by omega), if_pos (by omega)]
              by_cases c2 : (rd_T108 B ((i : Int) - 1)).f0 ≤ (rd_T108 B i).f0 <;> simp [c, c2, c8]
            · rw [if_neg (by omega)]
              simp [c, c8]
          · rw [if_pos (by omega)]
            simp [c8]
    exact all_loop B.length (fun k i => spec_l06Buckets.l0 k i D B) (bktStep B) (fun i hi hc => ev_next (fun k => by rw [hu i hi k, if_pos hc])) (fun i hi hc => ev_end (fun k => by rw [hu i hi k, if_neg (by rw [hc]; decide)])) (fun k => by simp only [spec_l06Buckets.l0]; rw [if_neg (by omega)])
/-! nothing twice -/
def onceGo (B : List S108) : Nat → Int → List Int → Bool
  | 0, _, _ => true
  | d + 1, i, u => match useGo u (rd_T108 B i).f2 with | some u' => onceGo B d (i + 1) u' | none => false
def onceTail (B : List S108) (d : Nat) (i : Int) (u items : List Int) : Bool := match useGo u items with | some u' => onceGo B d (i + 1) u' | none => false
def onceB (B : List S108) : Bool := onceGo B B.length 0 []
theorem useGo_cons (u : List Int) (x : Int) (xs : List Int) : useGo u (x :: xs) = if (u.any fun y => y == x) = true then none else useGo (u ++ [x]) xs := rfl
theorem useGo_length : ∀ (items u u' : List Int), useGo u items = some u' → u' = u ++ items
  | [], u, u', h => by simp only [useGo, Option.some.injEq] at h; simp [h]
  | x :: xs, u, u', h => by
    unfold useGo at h
    split at h
    · cases h
    · rw [useGo_length xs _ _ h]; simp
theorem spec_once_ev (D : List S50) (B : List S108) (hB : B.length ≤ 12) (hI : ∀ x ∈ B, x.f2.length ≤ 8) : Ev (fun k => spec_l06Once.f k D B) (onceB B) := by
  refine loop_is B.length (fun k (u : List Int) i => spec_l06Once.l0 k u i D B) (fun i u => u.length ≤ 8 * i ∧ onceB B = onceGo B (B.length - i) i u) _ ?_ ?_ [] ⟨by simp, rfl⟩
  · rintro i u hi ⟨hu, hT⟩
    have hx := hI B[i] (List.getElem_mem hi)
    have hT1 : onceB B = onceTail B (B.length - (i + 1)) i u B[i].f2 := by
      rw [hT, show B.length - i = (B.length - (i + 1)) + 1 from by omega]
      unfold onceTail
      rw [← rd_bkt B i hi]
      rfl
    -- the inner loop
    have hinner : ∀ (r : Bool), (∀ u', useGo u B[i].f2 = some u' → Ev (fun k => spec_l06Once.l0 k u' ((i + 1 : Nat) : Int) D B) r) → (useGo u B[i].f2 = none → r = false) → Ev (fun k => spec_l06Once.l1 k u i 0 D B) r := by
      intro r hgood hbad
      refine loop_is B[i].f2.length (fun k (v : List Int) j => spec_l06Once.l1 k v i j D B) (fun j v => v.length = u.length + j ∧ useGo u B[i].f2 = useGo v (B[i].f2.drop j)) _ ?_ ?_ u ⟨by simp, by simp⟩
      · rintro j v hj ⟨hv, hG⟩
        have hd : B[i].f2.drop j = B[i].f2[j] :: B[i].f2.drop (j + 1) := List.drop_eq_getElem_cons hj
        have hstep : ∀ q, Ev (fun k => if (v.any fun y => y == B[i].f2[j]) = true then some false else (if v.length < 17592186044416 then spec_l06Once.l1 k (v ++ [B[i].f2[j]]) i ((j + 1 : Nat) : Int) D B else none)) q → Ev (fun k => spec_l06Once.l1 k v i j D B) q := fun q hq => by
          refine Ev.step (f := ?f) (fun k => ?_) ?_
          rotate_left
          · simp only [spec_l06Once.l1]
            rw [if_pos (by omega), if_pos (by omega), rd_bkt B i hi, if_pos (by omega), if_pos (by omega), rd_get _ j hj, up64 j B[i].f2.length hj (by omega)]
            all_goals exact rfl
          · exact Ev.bind (has_ev v _ (by omega)) hq
        rw [hd] at hG
        rw [useGo_cons] at hG
        by_cases c : (v.any fun y => y == B[i].f2[j]) = true
        · left
          rw [if_pos c] at hG
          rw [hbad hG]
          exact hstep _ (ev_some fun k => if_pos c)
        · rw [if_neg c] at hG
          exact .inr ⟨v ++ [B[i].f2[j]], ⟨by simp; omega, hG⟩, fun q hq => hstep q (Ev.congr (fun k => by rw [if_neg c, if_pos (by omega)]) hq)⟩
      · rintro v ⟨hv, hG⟩
        rw [List.drop_length] at hG
        refine Ev.step (fun k => ?_) (hgood v hG)
        simp only [spec_l06Once.l1]
        rw [if_pos (by omega), if_pos (by omega), rd_bkt B i hi, if_neg (by omega), up64 i B.length hi (by omega)]
    have hout : ∀ q, Ev (fun k => spec_l06Once.l1 k u i 0 D B) q → Ev (fun k => spec_l06Once.l0 k u i D B) q := fun q hq => Ev.step (fun k => by
      simp only [spec_l06Once.l0]
      rw [if_pos (by omega)]) hq
    cases hc : useGo u B[i].f2 with
    | none =>
      left
      have e : onceB B = false := by rw [hT1]; unfold onceTail; rw [hc]
      rw [e]
      refine hout _ (hinner false (fun u' h => ?_) (fun _ => rfl))
      rw [hc] at h; cases h
    | some u' =>
      have hl := useGo_length _ _ _ hc
      refine .inr ⟨u', ⟨by rw [hl, List.length_append]; omega, ?_⟩, fun q hq => hout q (hinner q (fun v h => ?_) (fun h => ?_))⟩
      · rw [hT1]; unfold onceTail; rw [hc]; rfl
      · rw [hc] at h
        obtain rfl := Option.some.inj h
        exact hq
      · rw [hc] at h; cases h
  · rintro u ⟨hu, hT⟩
    rw [hT, Nat.sub_self]
    exact ev_end (fun k => by simp only [spec_l06Once.l0]; rw [if_neg (by omega)]; rfl)

/-! what lies in a bucket -/
def fitOne (D : List S50) (B : List S108) (kd : Int) (items : List Int) (x : Int) : Bool := if kd < 3 then kindAt D B x == kd - 1 else kindAt D B x == kindAt D B (rd items 0) && (kindAt D B x == 1 || kindAt D B x == 2)
def fitsB (D : List S50) (B : List S108) (kd : Int) (items : List Int) : Bool := (List.range items.length).all fun j => fitOne D B kd items (rd items j)
theorem spec_fits_ev (D : List S50) (B : List S108) (hD : D.length ≤ 9223372036854775807) (hB : B.length ≤ 9223372036854775807) (id kd : Int) (items : List Int) (h1 : 1 ≤ kd) (h3 : kd ≤ 3) (hl : items.length ≤ 9223372036854775807) : Ev (fun k => spec_l06Fits.f k D B id kd items) (fitsB D B kd items) := by
  have hmain : ∀ (j : Nat), j < items.length → ∀ r, (fitOne D B kd items (rd items j) = true → Ev (fun k => spec_l06Fits.l0 k ((j + 1 : Nat) : Int) D B id kd items) r) → (fitOne D B kd items (rd items j) = false → r = false) → Ev (fun k => spec_l06Fits.l0 k j D B id kd items) r := by
    intro j hj r hgood hbad
    have hw : wrap64 (kd - 1) = kd - 1 := by unfold wrap64; omega
    refine Ev.step (f := ?f) (fun k => ?_) ?_
    rotate_left
    · simp only [spec_l06Fits.l0]
      rw [if_pos (by omega), if_pos (by omega)]
      all_goals exact rfl
    · refine Ev.bind (specKind_ev D B _ hD hB) ?_
      by_cases ck : kd < 3
      · simp only [if_pos ck, hw]
        refine Ev.step (f := ?g) (fun k => ?_) ?_
        rotate_left
        · simp only [spec_l06Fits.j1]
          exact rfl
        · unfold fitOne at hgood hbad
          rw [if_pos ck] at hgood hbad
          by_cases c : kindAt D B (rd items j) = kd - 1
          · refine Ev.congr (fun k => ?_) (hgood (by simpa using c))
            rw [if_neg (by simp [c]), if_neg (by omega), up64 j items.length hj hl]
          · have e := hbad (by simpa using c)
            subst e
            refine ev_some (fun k => ?_)
            rw [if_pos (by simpa using c)]
      · simp only [if_neg ck]
        refine Ev.step (f := ?g2) (fun k => ?_) ?_
        rotate_left
        · simp only [spec_l06Fits.j1]
          exact rfl
        · simp only [Bool.false_eq_true, if_false, show kd = 3 by omega, if_true, show (0 : Int) < (items.length : Int) by omega]
          unfold fitOne at hgood hbad
          rw [if_neg ck] at hgood hbad
          refine Ev.bind (specKind_ev D B _ hD hB) ?_
          by_cases c0 : kindAt D B (rd items j) = kindAt D B (rd items 0)
          · by_cases c1 : kindAt D B (rd items j) = 1
            · refine Ev.congr (fun k => ?_) (hgood (by simp [← c0, c1]))
              rw [if_pos c0, if_pos c1, up64 j items.length hj hl, show kd = 3 by omega]
            · by_cases c2 : kindAt D B (rd items j) = 2
              · refine Ev.congr (fun k => ?_) (hgood (by simp [← c0, c2]))
                rw [if_pos c0, if_neg c1, if_pos c2, up64 j items.length hj hl, show kd = 3 by omega]
              · have e := hbad (by simp [c1, c2])
                subst e
                exact ev_some fun k => by rw [if_pos c0, if_neg c1, if_neg c2]
          · have e := hbad (by simp [c0])
            subst e
            exact ev_some fun k => by rw [if_neg c0]
  exact all_loop items.length (fun k j => spec_l06Fits.l0 k j D B id kd items) (fun j => fitOne D B kd items (rd items j)) (fun j hj hc r hr => hmain j hj r (fun _ => hr) (fun h => by rw [hc] at h; cases h)) (fun j hj hc => hmain j hj false (fun h => by rw [hc] at h; cases h) (fun _ => rfl)) (fun k => by simp only [spec_l06Fits.l0]; rw [if_neg (by omega)])
theorem range_all (items : List Int) (p : Int → Bool) : ((List.range items.length).all fun j => p (rd items j)) = items.all p := by
  rw [Bool.eq_iff_iff, List.all_eq_true, List.all_eq_true]
  constructor
  · intro h x hx
    obtain ⟨j, hj, rfl⟩ := List.mem_iff_getElem.1 hx
    have := h j (by simpa using hj)
    rwa [rd_get items j hj] at this
  · intro h j hj
    have hj' : j < items.length := by simpa using hj
    rw [rd_get items j hj']
    exact h _ (List.getElem_mem hj')
theorem fits_items (D : List S50) (B : List S108) (kd : Int) (items : List Int) (h1 : 1 ≤ kd) (h3 : kd ≤ 3) : fitsB D B kd items = itemsOkB D B kd items := by
  unfold fitsB itemsOkB
  rw [range_all items (fitOne D B kd items)]
  have hw : wrap64 (kd - 1) = kd - 1 := by unfold wrap64; omega
  rw [hw]
  match items with
  | [] => simp
  | x :: xs =>
    rw [if_neg (by simp)]
    have ho := once_one ((x :: xs).map (kindAt D B))
    have hhead : rd (x :: xs) 0 = x := rfl
    unfold fitOne
    rw [hhead]
    have hm : ∀ y, y ∈ (x :: xs).map (kindAt D B) ↔ ∃ z ∈ x :: xs, kindAt D B z = y := fun y => List.mem_map
    generalize hS : (x :: xs).map (kindAt D B) = S at ho hm
    by_cases c1 : 1 < (onceOf S).length
    · rw [if_pos c1]
      rw [Bool.eq_false_iff]
      intro hall
      rw [List.all_eq_true] at hall
      refine absurd (ho.2 ?_) (by omega)
      intro a ha b hb
      obtain ⟨p, hp, rfl⟩ := (hm a).1 ha
      obtain ⟨q, hq, rfl⟩ := (hm b).1 hb
      have h1 := hall p hp
      have h2 := hall q hq
      by_cases ck : kd < 3
      · rw [if_pos ck] at h1 h2
        rw [eq_of_beq h1, eq_of_beq h2]
      · rw [if_neg ck, Bool.and_eq_true] at h1 h2
        rw [eq_of_beq h1.1, eq_of_beq h2.1]
    · rw [if_neg c1]
      have hsame := ho.1 (by omega)
      have hx : kindAt D B x ∈ S := (hm _).2 ⟨x, by simp, rfl⟩
      have hall : ∀ z ∈ x :: xs, kindAt D B z = kindAt D B x := fun z hz => hsame _ ((hm _).2 ⟨z, hz, rfl⟩) _ hx
      have hany : ∀ v : Int, (S.any fun y => y == v) = (kindAt D B x == v) := fun v => by
        rw [Bool.eq_iff_iff, List.any_eq_true]
        constructor
        · rintro ⟨y, hy, e⟩
          rw [hsame _ hx y hy]; exact e
        · intro e
          exact ⟨_, hx, e⟩
      rw [hany, hany, hany]
      by_cases ck : kd < 3
      · rw [if_neg (show ¬ kd = 3 by omega), Bool.eq_iff_iff, List.all_eq_true]
        constructor
        · intro h
          have := h x (by simp)
          rwa [if_pos ck] at this
        · intro h z hz
          rw [if_pos ck, hall z hz]; exact h
      · rw [if_pos (show kd = 3 by omega), Bool.eq_iff_iff, List.all_eq_true]
        constructor
        · intro h
          have := h x (by simp)
          rw [if_neg ck, Bool.and_eq_true] at this
          exact this.2
        · intro h z hz
          rw [if_neg ck, hall z hz, Bool.and_eq_true]
          exact ⟨by simp, h⟩
/-! the whole -/
def allB (D : List S50) (B : List S108) : Nat → Int → Bool
  | 0, _ => true
  | d + 1, i => bktB D B i && allB D B d (i + 1)
theorem treeGo_parts (D : List S50) (B : List S108) : ∀ (d : Nat) (i : Int) (u : List Int), treeGo D B d i u = (allB D B d i && onceGo B d i u)
  | 0, _, _ => rfl
  | d + 1, i, u => by
    have ht : treeGo D B (d + 1) i u = if bktB D B i = true then (match useGo u (rd_T108 B i).f2 with | some u' => treeGo D B d (i + 1) u' | none => false) else false := rfl
    have ho : onceGo B (d + 1) i u = match useGo u (rd_T108 B i).f2 with | some u' => onceGo B d (i + 1) u' | none => false := rfl
    have ha : allB D B (d + 1) i = (bktB D B i && allB D B d (i + 1)) := rfl
    rw [ht, ho, ha]
    cases bktB D B i with
    | false => rfl
    | true =>
      cases useGo u (rd_T108 B i).f2 with
      | none => simp
      | some u' => simp [treeGo_parts D B d (i + 1) u']
theorem allB_all (D : List S50) (B : List S108) : ∀ (d i : Nat), allB D B d i = true ↔ ∀ j, i ≤ j → j < i + d → bktB D B j = true
  | 0, i => by simp [allB]; intro j h1 h2; omega
  | d + 1, i => by
    have ha : allB D B (d + 1) i = (bktB D B i && allB D B d ((i + 1 : Nat) : Int)) := rfl
    rw [ha, Bool.and_eq_true, allB_all D B d (i + 1)]
    constructor
    · rintro ⟨h1, h2⟩ j hj1 hj2
      by_cases e : j = i
      · subst e; exact h1
      · exact h2 j (by omega) (by omega)
    · intro h
      exact ⟨h i (by omega) (by omega), fun j h1 h2 => h j (by omega) (by omega)⟩
theorem bktB_parts (D : List S50) (B : List S108) (i : Nat) : bktB D B i = (bktStep B i && itemsOkB D B (rd_T108 B i).f1 (rd_T108 B i).f2) := by
  unfold bktB bktStep
  have e : decide ((0 : Int) < (i : Int)) = decide (0 < i) := decide_eq_decide.2 (by omega)
  rw [e]
  cases inB (rd_T108 B i).f0 (-12) (-1) <;> cases inB (rd_T108 B i).f1 1 3 <;> cases decide (0 < i) <;> cases decide ((rd_T108 B ((i : Int) - 1)).f0 ≤ (rd_T108 B i).f0) <;> cases decide ((rd_T108 B i).f2.length ≤ 8) <;> rfl
/-- is a topology valid? -/
def treeOkB (D : List S50) (B : List S108) : Bool := devsB D && (decide (B.length ≤ 12) && treeB D B)
theorem fits_all_ev (D : List S50) (B : List S108) (hD : D.length ≤ 16) (hB : B.length ≤ 12) (hS : ∀ j, j < B.length → bktStep B j = true) : Ev (fun k => spec_l06OK.l0 k 0 D B) ((List.range B.length).all fun i => fitsB D B (rd_T108 B i).f1 (rd_T108 B i).f2) := by
  have hst : ∀ (i : Nat), i < B.length → (1 ≤ (rd_T108 B i).f1 ∧ (rd_T108 B i).f1 ≤ 3) ∧ (rd_T108 B i).f2.length ≤ 8 := fun i hi => by
    have := hS i hi
    unfold bktStep inB at this
    simp only [Bool.and_eq_true, decide_eq_true_eq] at this
    exact ⟨this.1.1.2, this.1.2⟩
  have hu : ∀ (i : Nat), i < B.length → ∀ r, Ev (fun k => if fitsB D B (rd_T108 B i).f1 (rd_T108 B i).f2 = true then spec_l06OK.l0 k ((i + 1 : Nat) : Int) D B else some false) r → Ev (fun k => spec_l06OK.l0 k i D B) r := fun i hi r hr => by
    obtain ⟨⟨h1, h3⟩, h8⟩ := hst i hi
    refine Ev.step (f := ?f) (fun k => ?_) ?_
    rotate_left
    · simp only [spec_l06OK.l0]
      rw [if_pos (by omega), if_pos (by omega), up64 i B.length hi (by omega)]
      all_goals exact rfl
    · exact Ev.bind (spec_fits_ev D B (by omega) (by omega) _ _ _ h1 h3 (by omega)) hr
  exact all_loop B.length (fun k i => spec_l06OK.l0 k i D B) _ (fun i hi hc r hr => hu i hi r (Ev.congr (fun k => by rw [if_pos hc]) hr)) (fun i hi hc => hu i hi false (ev_some fun k => by rw [if_neg (by rw [hc]; decide)])) (fun k => by simp only [spec_l06OK.l0]; rw [if_neg (by omega)])
theorem spec_ok_ev (D : List S50) (B : List S108) : Ev (fun k => spec_l06OK.f k D B) (treeOkB D B) := by
  unfold spec_l06OK.f
  refine Ev.bind (spec_devs_ev D B) ?_
  have hj : ∀ r, r = false → Ev (fun k => spec_l06OK.j0 k true D B) r := fun r hr => by
    subst hr
    exact ev_end fun k => by simp only [spec_l06OK.j0]; rw [if_pos trivial]
  unfold treeOkB
  cases hd : devsB D with
  | false =>
    simp only [Bool.false_eq_true, if_false, Bool.false_and]
    exact hj _ rfl
  | true =>
    simp only [if_true, Bool.true_and]
    refine Ev.bind (spec_bkts_ev D B) ?_
    have hparts : treeB D B = (allB D B B.length 0 && onceB B) := treeGo_parts D B B.length 0 []
    have hall := allB_all D B B.length 0
    rw [show ((0 : Nat) : Int) = 0 from rfl] at hall
    have hD : D.length ≤ 16 := by
      unfold devsB at hd
      rw [Bool.and_eq_true] at hd
      exact of_decide_eq_true hd.2
    cases hb : bktsB B with
    | false =>
      simp only [Bool.false_eq_true, if_false]
      refine hj _ ?_
      by_cases c : B.length ≤ 12
      · have : allB D B B.length 0 = false := by
          rw [Bool.eq_false_iff]
          intro h
          have h2 := hall.1 h
          have : bktsB B = true := by
            unfold bktsB
            rw [decide_eq_true c, Bool.and_true, List.all_eq_true]
            intro j hj
            have := h2 j (by omega) (by simpa using hj)
            rw [bktB_parts, Bool.and_eq_true] at this
            exact this.1
          rw [this] at hb; cases hb
        rw [hparts, this]; simp
      · rw [decide_eq_false c, Bool.false_and]
    | true =>
      unfold bktsB at hb
      rw [Bool.and_eq_true, List.all_eq_true] at hb
      have h12 := of_decide_eq_true hb.2
      have hS : ∀ j, j < B.length → bktStep B j = true := fun j hj => hb.1 j (by simpa using hj)
      have h8 : ∀ x ∈ B, x.f2.length ≤ 8 := fun x hx => by
        obtain ⟨j, hj, rfl⟩ := List.mem_iff_getElem.1 hx
        have := hS j hj
        unfold bktStep at this
        simp only [Bool.and_eq_true, decide_eq_true_eq] at this
        rw [rd_bkt B j hj] at this
        exact this.1.2
      simp only [if_true]
      refine Ev.bind (spec_once_ev D B h12 h8) ?_
      rw [decide_eq_true h12, Bool.true_and, hparts]
      cases onceB B with
      | false =>
        rw [Bool.and_false]
        exact hj _ rfl
      | true =>
        rw [Bool.and_true]
        refine Ev.step (f := ?f) (fun k => ?_) ?_
        rotate_left
        · simp only [spec_l06OK.j0]
          exact rfl
        · simp only [Bool.not_true, Bool.false_eq_true, if_false]
          have hf := fits_all_ev D B hD h12 hS
          have e : ((List.range B.length).all fun i => fitsB D B (rd_T108 B i).f1 (rd_T108 B i).f2) = allB D B B.length 0 := by
            rw [Bool.eq_iff_iff, hall, List.all_eq_true]
            have hk : ∀ j, j < B.length → (fitsB D B (rd_T108 B j).f1 (rd_T108 B j).f2 = true ↔ bktB D B j = true) := fun j hj => by
              have hs := hS j hj
              rw [bktB_parts, hs, Bool.true_and]
              unfold bktStep inB at hs
              simp only [Bool.and_eq_true, decide_eq_true_eq] at hs
              rw [fits_items D B _ _ hs.1.1.2.1 hs.1.1.2.2]
            constructor
            · intro h j _ hj
              exact (hk j (by omega)).1 (h j (by simp; omega))
            · intro h j hj
              have hj' : j < B.length := by simpa using hj
              exact (hk j hj').2 (h j (by omega) (by omega))
          rw [e] at hf
          exact hf
theorem impl_ok_ev (D : List S50) (B : List S108) (hD : D.length ≤ 9223372036854775807) (hw : wfTree D B = true) : Ev (fun k => impl_TreeOk.f k D B) (treeOkB D B) := by
  unfold impl_TreeOk.f treeOkB
  simp only [if_pos hw]
  refine Ev.bind (impl_devs_ev D B hD) ?_
  cases devsB D <;> simp <;> first | exact Ev.now _ | exact ev_some fun k => rfl

end Go.Proofs.Ytkadeelplnkpgaa.Pure

-- text OValid
namespace Go.Proofs.Ytkadeelplnkpgaa.Pure
open Go.RowKit Go.Proofs.Ytkadeelplnkpgaa.Q Go.Proofs.YtkadeelplnkpgaaW.PrintWords Go.Proofs.YtkadeelplnkpgaaW.PrintLast Go.Proofs.YtkadeelplnkpgaaW.PrintMore
set_option linter.unusedVariables false
set_option linter.unusedSimpArgs false

/-- what a valid topology holds -/
structure Valid (D : List S50) (B : List S108) : Prop where
  dev : D.length ≤ 16
  bkt : B.length ≤ 12
  devs : ∀ i (h : i < D.length), 0 ≤ D[i].f0 ∧ D[i].f0 ≤ 15 ∧ 0 ≤ D[i].f1 ∧ D[i].f1 ≤ 8
  bkts : ∀ i (h : i < B.length), (-12 ≤ B[i].f0 ∧ B[i].f0 ≤ -1) ∧ (1 ≤ B[i].f1 ∧ B[i].f1 ≤ 3) ∧ B[i].f2.length ≤ 8
  down : ∀ i (h : i + 1 < B.length), B[i + 1].f0 < B[i].f0
  up : ∀ i (h : i + 1 < D.length), D[i].f0 < D[i + 1].f0
  fits : ∀ i (h : i < B.length), ∀ x ∈ B[i].f2, fitOne D B B[i].f1 B[i].f2 x = true
  once : onceB B = true
theorem valid_of (D : List S50) (B : List S108) (h : treeOkB D B = true) : Valid D B := by
  unfold treeOkB at h
  rw [Bool.and_eq_true, Bool.and_eq_true] at h
  obtain ⟨hd, h12, ht⟩ := h
  have h12 := of_decide_eq_true h12
  unfold devsB at hd
  rw [Bool.and_eq_true, List.all_eq_true] at hd
  have h16 := of_decide_eq_true hd.2
  have hparts : treeB D B = (allB D B B.length 0 && onceB B) := treeGo_parts D B B.length 0 []
  rw [hparts, Bool.and_eq_true] at ht
  have hall := (allB_all D B B.length 0).1 ht.1
  have hS : ∀ j, j < B.length → bktStep B j = true ∧ itemsOkB D B (rd_T108 B j).f1 (rd_T108 B j).f2 = true := fun j hj => by
    have := hall j (by omega) (by omega)
    rw [bktB_parts, Bool.and_eq_true] at this
    exact this
  have hdv : ∀ j, j < D.length → devStep D j = true := fun j hj => hd.1 j (by simpa using hj)
  have hk : ∀ i (h : i < B.length), (-12 ≤ B[i].f0 ∧ B[i].f0 ≤ -1) ∧ (1 ≤ B[i].f1 ∧ B[i].f1 ≤ 3) ∧ B[i].f2.length ≤ 8 := fun i h => by
    have := (hS i h).1
    unfold bktStep inB at this
    simp only [Bool.and_eq_true, decide_eq_true_eq] at this
    rw [rd_bkt B i h] at this
    exact ⟨this.1.1.1, this.1.1.2, this.1.2⟩
  refine ⟨h16, h12, ?_, hk, ?_, ?_, ?_, ht.2⟩
  · intro i h
    have := hdv i h
    unfold devStep inB at this
    simp only [Bool.and_eq_true, decide_eq_true_eq] at this
    rw [rd_dev D i h] at this
    exact ⟨this.1.1.1, this.1.1.2, this.1.2.1, this.1.2.2⟩
  · intro i h
    have := (hS (i + 1) h).1
    unfold bktStep at this
    rw [show (((i + 1 : Nat) : Int) - 1) = (i : Int) from by omega, rd_bkt B i (by omega), rd_bkt B (i + 1) h] at this
    simp at this
    omega
  · intro i h
    have := hdv (i + 1) h
    unfold devStep at this
    rw [show (((i + 1 : Nat) : Int) - 1) = (i : Int) from by omega, rd_dev D i (by omega), rd_dev D (i + 1) h] at this
    simp at this
    omega
  · intro i h x hx
    have h2 := (hS i h).2
    rw [rd_bkt B i h] at h2
    have hb := (hk i h).2.1
    rw [← fits_items D B _ _ hb.1 hb.2] at h2
    unfold fitsB at h2
    rw [range_all B[i].f2 (fitOne D B B[i].f1 B[i].f2), List.all_eq_true] at h2
    exact h2 x hx
theorem idx_none {α : Type} (p : α → Bool) (l : List α) (h : ∀ x ∈ l, p x = false) : ∀ (d i : Nat), i + d = l.length → idxFrom p (l.drop i) i = -1
  | 0, i, hd => by
    rw [List.drop_of_length_le (by omega)]; rfl
  | d + 1, i, hd => by
    rw [idx_step p l i (by omega), if_neg (by rw [h _ (List.getElem_mem (by omega))]; decide)]
    exact idx_none p l h d (i + 1) (by omega)
theorem idx_first {α : Type} (p : α → Bool) (l : List α) (n : Nat) (hn : n < l.length) (hp : p l[n] = true) (hb : ∀ j (h : j < n), p l[j] = false) : ∀ (d i : Nat), i + d = n → idxFrom p (l.drop i) i = (n : Int)
  | 0, i, hd => by
    obtain rfl : i = n := by omega
    rw [idx_step p l i hn, if_pos hp]
  | d + 1, i, hd => by
    rw [idx_step p l i (by omega), if_neg (by rw [hb i (by omega)]; decide)]
    exact idx_first p l n hn hp hb d (i + 1) (by omega)
/-- the index found is one that answers -/
theorem idx_hit {α : Type} (p : α → Bool) (l : List α) : ∀ (d i : Nat), i + d = l.length → idxFrom p (l.drop i) i = -1 ∨ ∃ n, ∃ (h : n < l.length), idxFrom p (l.drop i) i = (n : Int) ∧ p l[n] = true
  | 0, i, hd => by
    left
    rw [List.drop_of_length_le (by omega)]; rfl
  | d + 1, i, hd => by
    rw [idx_step p l i (by omega)]
    by_cases c : p (l[i]'(by omega)) = true
    · rw [if_pos c]
      exact .inr ⟨i, by omega, rfl, c⟩
    · rw [if_neg c]
      exact idx_hit p l d (i + 1) (by omega)
theorem bucketAt_hit (B : List S108) (id : Int) : bucketAt B id = -1 ∨ ∃ n, ∃ (h : n < B.length), bucketAt B id = (n : Int) ∧ B[n].f0 = id := by
  rcases idx_hit (fun x : S108 => x.f0 == id) B B.length 0 (by omega) with h | ⟨n, hn, h1, h2⟩
  · exact .inl h
  · exact .inr ⟨n, hn, h1, by simpa using h2⟩
theorem devAt_hit (D : List S50) (id : Int) : devAt D id = -1 ∨ ∃ n, ∃ (h : n < D.length), devAt D id = (n : Int) ∧ D[n].f0 = id := by
  rcases idx_hit (fun x : S50 => x.f0 == id) D D.length 0 (by omega) with h | ⟨n, hn, h1, h2⟩
  · exact .inl h
  · exact .inr ⟨n, hn, h1, by simpa using h2⟩
theorem down_lt {D : List S50} {B : List S108} (V : Valid D B) : ∀ (d i : Nat) (h : i + d + 1 < B.length), B[i + d + 1].f0 < B[i].f0
  | 0, i, h => V.down i h
  | d + 1, i, h => by
    have h1 := down_lt V d i (by omega)
    have h2 := V.down (i + d + 1) h
    exact Int.lt_trans h2 h1
theorem down_of {D : List S50} {B : List S108} (V : Valid D B) (i j : Nat) (hij : i < j) (h : j < B.length) : B[j].f0 < B[i].f0 := by
  obtain ⟨d, rfl⟩ : ∃ d, j = i + d + 1 := ⟨j - i - 1, by omega⟩
  exact down_lt V d i h
theorem bucketAt_own {D : List S50} {B : List S108} (V : Valid D B) (n : Nat) (hn : n < B.length) : bucketAt B B[n].f0 = (n : Int) :=
  idx_first (fun x : S108 => x.f0 == B[n].f0) B n hn (by simp) (fun j hj => by
    have := down_of V j n hj hn
    have : ¬ B[j].f0 = B[n].f0 := by omega
    simpa using this) n 0 (by omega)
theorem devAt_none {D : List S50} {B : List S108} (V : Valid D B) (id : Int) (h : id < 0) : devAt D id = -1 := by
  rcases devAt_hit D id with e | ⟨n, hn, _, e⟩
  · exact e
  · have := V.devs n hn
    omega
theorem kindAt_own {D : List S50} {B : List S108} (V : Valid D B) (n : Nat) (hn : n < B.length) : kindAt D B B[n].f0 = B[n].f1 := by
  have hk : kindAt D B B[n].f0 = if 0 ≤ devAt D B[n].f0 then 0 else if bucketAt B B[n].f0 < 0 then -1 else (rd_T108 B (bucketAt B B[n].f0)).f1 := rfl
  rw [hk, devAt_none V _ (by have := V.bkts n hn; omega), bucketAt_own V n hn, if_neg (by omega), if_neg (by omega), rd_bkt B n hn]
theorem kindAt_le {D : List S50} {B : List S108} (V : Valid D B) (id : Int) : -1 ≤ kindAt D B id ∧ kindAt D B id ≤ 3 := by
  have hk : kindAt D B id = if 0 ≤ devAt D id then 0 else if bucketAt B id < 0 then -1 else (rd_T108 B (bucketAt B id)).f1 := rfl
  rw [hk]
  split
  · omega
  · split
    · omega
    · rcases bucketAt_hit B id with e | ⟨n, hn, e, _⟩
      · omega
      · rw [e, rd_bkt B n hn]
        have := V.bkts n hn
        omega
/-- a kind of a bucket is a bucket's -/
theorem kindAt_bucket {D : List S50} {B : List S108} (V : Valid D B) (id : Int) (h : 1 ≤ kindAt D B id) : ∃ n, ∃ (h : n < B.length), bucketAt B id = (n : Int) ∧ B[n].f0 = id ∧ id < 0 ∧ kindAt D B id = B[n].f1 := by
  have hk : kindAt D B id = if 0 ≤ devAt D id then 0 else if bucketAt B id < 0 then -1 else (rd_T108 B (bucketAt B id)).f1 := rfl
  rw [hk] at h
  split at h
  · omega
  · split at h
    · omega
    · rcases bucketAt_hit B id with e | ⟨n, hn, e, e2⟩
      · omega
      · refine ⟨n, hn, e, e2, ?_, ?_⟩
        · have := V.bkts n hn; omega
        · rw [← e2]; exact kindAt_own V n hn
/-- what lies in a bucket is of a lower kind -/
theorem item_kind {D : List S50} {B : List S108} (V : Valid D B) (n : Nat) (hn : n < B.length) (x : Int) (hx : x ∈ B[n].f2) : 0 ≤ kindAt D B x ∧ kindAt D B x < B[n].f1 := by
  have h := V.fits n hn x hx
  have hb := (V.bkts n hn).2.1
  unfold fitOne at h
  by_cases c : B[n].f1 < 3
  · rw [if_pos c] at h
    have := eq_of_beq h
    omega
  · rw [if_neg c, Bool.and_eq_true, Bool.or_eq_true] at h
    rcases h.2 with h | h
    · have := eq_of_beq h; omega
    · have := eq_of_beq h; omega
end Go.Proofs.Ytkadeelplnkpgaa.Pure

-- text OAbove
namespace Go.Proofs.Ytkadeelplnkpgaa.Pure
open Go.RowKit Go.Proofs.Ytkadeelplnkpgaa.Q Go.Proofs.YtkadeelplnkpgaaW.PrintWords Go.Proofs.YtkadeelplnkpgaaW.PrintLast Go.Proofs.YtkadeelplnkpgaaW.PrintMore
set_option linter.unusedVariables false
set_option linter.unusedSimpArgs false

/-- the first place that answers -/
def firstR {ρ : Type} (c : Nat → Bool) (g : Nat → ρ) (z : ρ) : Nat → Nat → ρ
  | 0, _ => z
  | d + 1, i => if c i = true then g i else firstR c g z d (i + 1)
theorem first_loop {ρ : Type} (n : Nat) (L : Nat → Int → Option ρ) (c : Nat → Bool) (g : Nat → ρ) (z : ρ) (ht : ∀ i : Nat, i < n → c i = true → Ev (fun k => L k (i : Int)) (g i))
    (hf : ∀ i : Nat, i < n → c i = false → ∀ r, Ev (fun k => L k ((i + 1 : Nat) : Int)) r → Ev (fun k => L k (i : Int)) r) (he : ∀ k, L (k + 1) (n : Int) = some z) : Ev (fun k => L k 0) (firstR c g z n 0) := by
  refine loop_is n (fun k (_ : Unit) i => L k i) (fun i _ => firstR c g z n 0 = firstR c g z (n - i) i) _ ?_ ?_ () rfl
  · intro i _ hi hI
    have hs : firstR c g z (n - i) i = if c i = true then g i else firstR c g z (n - (i + 1)) (i + 1) := by
      rw [show n - i = (n - (i + 1)) + 1 from by omega]; rfl
    rw [hs] at hI
    cases hc : c i with
    | true =>
      left
      rw [hc, if_pos rfl] at hI
      rw [hI]
      exact ht i hi hc
    | false =>
      rw [hc, if_neg (by decide)] at hI
      exact .inr ⟨(), hI, hf i hi hc⟩
  · intro _ hI
    rw [hI, Nat.sub_self]
    exact ev_end he
theorem idx64_ev (l : List Int) (x : Int) (hl : l.length ≤ 9223372036854775807) : Ev (fun k => slices_Contains_int64_int64.f k l x) (l.any fun y => y == x) := by
  have h : ∃ r, (decide (r ≥ 0) = l.any fun y => y == x) ∧ Ev (fun k => slices_Index_int64_int64.l0 k l x l.length 0) r := by
    refine loop_up l.length (fun k (_ : Unit) i => slices_Index_int64_int64.l0 k l x l.length i) (fun i _ => (l.take i).any (fun y => y == x) = false) (fun r => decide (r ≥ 0) = l.any fun y => y == x) ?_ ?_ () (by simp)
    · intro i _ hi hI
      have hu : ∀ k, slices_Index_int64_int64.l0 (k + 1) l x l.length i = if x = l[i] then some (i : Int) else slices_Index_int64_int64.l0 k l x l.length ((i + 1 : Nat) : Int) := fun k => by
        simp only [slices_Index_int64_int64.l0]
        rw [if_pos (by omega), if_pos (by omega), if_pos (by omega), rd_get l i hi, up64 i l.length hi hl]
      by_cases c : x = l[i]
      · refine .inl ⟨(i : Int), ?_, ev_end (fun k => by rw [hu k, if_pos c])⟩
        have e : l.any (fun y => y == x) = true := by
          rw [List.any_eq_true]
          exact ⟨l[i], List.getElem_mem hi, by simpa using c.symm⟩
        rw [e]; simp
      · refine .inr ⟨(), ?_, ev_next (fun k => by rw [hu k, if_neg c])⟩
        rw [List.take_succ_eq_append_getElem hi, List.any_append, hI]
        simpa using fun e => c e.symm
    · intro _ hI
      rw [List.take_length] at hI
      exact ⟨-1, by rw [hI]; rfl, ev_end (fun k => by simp only [slices_Index_int64_int64.l0]; rw [if_neg (by omega)])⟩
  obtain ⟨r, hr, hE⟩ := h
  unfold slices_Contains_int64_int64.f slices_Index_int64_int64.f
  rw [← hr]
  exact Ev.bind hE (Ev.now _)
/-- the bucket of a kind above -/
def aboveN (B : List S108) : Nat → Int → Int → Int
  | 0, _, _ => 0
  | n + 1, id, kd => firstR (fun i => (rd_T108 B i).f2.any fun y => y == id) (fun i => if (rd_T108 B i).f1 = kd then (rd_T108 B i).f0 else aboveN B n (rd_T108 B i).f0 kd) 0 B.length 0
theorem above_kind {D : List S50} {B : List S108} (V : Valid D B) (i : Nat) (hi : i < B.length) (id : Int) (hc : ((rd_T108 B i).f2.any fun y => y == id) = true) : kindAt D B id < kindAt D B B[i].f0 := by
  rw [rd_bkt B i hi, List.any_eq_true] at hc
  obtain ⟨x, hx, e⟩ := hc
  obtain rfl := eq_of_beq e
  rw [kindAt_own V i hi]
  exact (item_kind V i hi x hx).2
theorem spec_above_ev {D : List S50} {B : List S108} (V : Valid D B) (kd : Int) : ∀ (n : Nat) (id : Int), 3 < kindAt D B id + n → Ev (fun k => spec_l06Above.f k D B id kd) (aboveN B n id kd)
  | 0, id, h => by have := kindAt_le V id; omega
  | n + 1, id, h => by
    have hB := V.bkt
    refine Ev.step (f := fun k => spec_l06Above.l0 k id kd 0 D B) (fun k => rfl) ?_
    have hu : ∀ (i : Nat), i < B.length → ∀ r, Ev (fun k => if ((rd_T108 B i).f2.any fun y => y == id) = true then (if (rd_T108 B i).f1 = kd then some (rd_T108 B i).f0 else ((spec_l06Above.f k D B (rd_T108 B i).f0 kd).bind fun t => some t)) else spec_l06Above.l0 k id kd ((i + 1 : Nat) : Int) D B) r → Ev (fun k => spec_l06Above.l0 k id kd i D B) r := fun i hi r hr => by
      refine Ev.step (f := ?f) (fun k => ?_) ?_
      rotate_left
      · simp only [spec_l06Above.l0]
        rw [if_pos (by omega), if_pos (by omega), up64 i B.length hi (by omega)]
        all_goals exact rfl
      · refine Ev.bind (has_ev _ id ?_) hr
        rw [rd_bkt B i hi]
        have := V.bkts i hi
        omega
    refine first_loop B.length (fun k i => spec_l06Above.l0 k id kd i D B) _ _ 0 (fun i hi hc => hu i hi _ ?_) (fun i hi hc r hr => hu i hi _ (Ev.congr (fun k => by rw [if_neg (by rw [hc]; decide)]) hr)) (fun k => by simp only [spec_l06Above.l0]; rw [if_neg (by omega)])
    simp only [if_pos hc]
    by_cases c : (rd_T108 B i).f1 = kd
    · simp only [if_pos c]
      exact Ev.now _
    · simp only [if_neg c]
      refine ev_then1 (spec_above_ev V kd n _ ?_)
      have := above_kind V i hi id hc
      rw [rd_bkt B i hi]
      omega
theorem impl_above_ev {D : List S50} {B : List S108} (V : Valid D B) (kd : Int) : ∀ (n : Nat) (id : Int), 3 < kindAt D B id + n → Ev (fun k => impl_Tree_above.f k D B id kd) (aboveN B n id kd)
  | 0, id, h => by have := kindAt_le V id; omega
  | n + 1, id, h => by
    have hB := V.bkt
    refine Ev.step (f := fun k => impl_Tree_above.l0 k id kd B B.length 0 D B) (fun k => rfl) ?_
    have hu : ∀ (i : Nat), i < B.length → ∀ r, Ev (fun k => if ((rd_T108 B i).f2.any fun y => y == id) = true then (if (rd_T108 B i).f1 = kd then some (rd_T108 B i).f0 else ((impl_Tree_above.f k D B (rd_T108 B i).f0 kd).bind fun t => some t)) else impl_Tree_above.l0 k id kd B B.length ((i + 1 : Nat) : Int) D B) r → Ev (fun k => impl_Tree_above.l0 k id kd B B.length i D B) r := fun i hi r hr => by
      refine Ev.step (f := ?f) (fun k => ?_) ?_
      rotate_left
      · simp only [impl_Tree_above.l0]
        rw [if_pos (by omega), if_pos (by omega), if_pos (by omega), up64 i B.length hi (by omega)]
        all_goals exact rfl
      · refine Ev.bind (idx64_ev _ id ?_) hr
        rw [rd_bkt B i hi]
        have := V.bkts i hi
        omega
    refine first_loop B.length (fun k i => impl_Tree_above.l0 k id kd B B.length i D B) _ _ 0 (fun i hi hc => hu i hi _ ?_) (fun i hi hc r hr => hu i hi _ (Ev.congr (fun k => by rw [if_neg (by rw [hc]; decide)]) hr)) (fun k => by simp only [impl_Tree_above.l0]; rw [if_neg (by omega)])
    simp only [if_pos hc]
    by_cases c : (rd_T108 B i).f1 = kd
    · simp only [if_pos c]
      exact Ev.now _
    · simp only [if_neg c]
      refine ev_then1 (impl_above_ev V kd n _ ?_)
      have := above_kind V i hi id hc
      rw [rd_bkt B i hi]
      omega
def aboveB (B : List S108) (id kd : Int) : Int := aboveN B 5 id kd
theorem spec_above {D : List S50} {B : List S108} (V : Valid D B) (id kd : Int) : Ev (fun k => spec_l06Above.f k D B id kd) (aboveB B id kd) := spec_above_ev V kd 5 id (by have := kindAt_le V id; omega)
theorem impl_above {D : List S50} {B : List S108} (V : Valid D B) (id kd : Int) : Ev (fun k => impl_Tree_above.f k D B id kd) (aboveB B id kd) := impl_above_ev V kd 5 id (by have := kindAt_le V id; omega)

end Go.Proofs.Ytkadeelplnkpgaa.Pure

-- text ODom
namespace Go.Proofs.Ytkadeelplnkpgaa.Pure
open Go.RowKit Go.Proofs.Ytkadeelplnkpgaa.Q Go.Proofs.YtkadeelplnkpgaaW.PrintWords Go.Proofs.YtkadeelplnkpgaaW.PrintLast Go.Proofs.YtkadeelplnkpgaaW.PrintMore
set_option linter.unusedVariables false
set_option linter.unusedSimpArgs false

/-- the domain of a device; 0: none -/
def domN (B : List S108) (kd id : Int) : Int := if kd = 0 then id else aboveB B id kd
theorem spec_domain {D : List S50} {B : List S108} (V : Valid D B) (kd id : Int) : Ev (fun k => spec_l08Domain.f k D B kd id) (domN B kd id) := by
  unfold spec_l08Domain.f domN
  by_cases c : kd = 0
  · simp only [if_pos c]
    exact Ev.now _
  · simp only [if_neg c]
    exact ev_then1 (spec_above V id kd)
/-- the domain and whether there is one, as the program tells it -/
def domP (D : List S50) (B : List S108) (kd id : Int) : Int × Bool := if devAt D id < 0 then (0, false) else if kd = 0 then (id, true) else (aboveB B id kd, (aboveB B id kd != 0))
theorem impl_domain {D : List S50} {B : List S108} (V : Valid D B) (kd id : Int) : Ev (fun k => impl_Tree_domain.f k D B kd id) (domP D B kd id) := by
  unfold impl_Tree_domain.f impl_Tree_device.f domP
  simp only [Option.bind_some]
  have e : idxFrom (fun x : S50 => x.f0 == id) D 0 = devAt D id := rfl
  rw [e]
  by_cases c : devAt D id < 0
  · simp only [if_pos c]
    exact Ev.now _
  · simp only [if_neg c]
    by_cases c2 : kd = 0
    · simp only [if_pos c2]
      exact Ev.now _
    · simp only [if_neg c2]
      exact Ev.bind (impl_above V id kd) (Ev.now _)
theorem firstR_prop {ρ : Type} (P : ρ → Prop) (c : Nat → Bool) (g : Nat → ρ) (z : ρ) (N : Nat) (hz : P z) (hg : ∀ i, i < N → c i = true → P (g i)) : ∀ d i, i + d ≤ N → P (firstR c g z d i)
  | 0, i, _ => hz
  | d + 1, i, h => by
    unfold firstR
    cases e : c i with
    | true => rw [if_pos rfl]; exact hg i (by omega) e
    | false => rw [if_neg (by decide)]; exact firstR_prop P c g z N hz hg d (i + 1) (by omega)
theorem aboveN_range {D : List S50} {B : List S108} (V : Valid D B) (kd : Int) : ∀ (n : Nat) (id : Int), -12 ≤ aboveN B n id kd ∧ aboveN B n id kd ≤ 0
  | 0, id => by simp [aboveN]
  | n + 1, id => by
    unfold aboveN
    refine firstR_prop (fun x : Int => -12 ≤ x ∧ x ≤ 0) _ _ 0 B.length (by omega) (fun i hi _ => ?_) B.length 0 (by omega)
    by_cases c : (rd_T108 B i).f1 = kd
    · rw [if_pos c, rd_bkt B i hi]
      have := V.bkts i hi
      omega
    · rw [if_neg c]
      exact aboveN_range V kd n _
theorem aboveB_range {D : List S50} {B : List S108} (V : Valid D B) (kd id : Int) : -12 ≤ aboveB B id kd ∧ aboveB B id kd ≤ 0 := aboveN_range V kd 5 id
/-- what is found is a device: its Id -/
theorem dev_range {D : List S50} {B : List S108} (V : Valid D B) (id : Int) (h : ¬ devAt D id < 0) : 0 ≤ id ∧ id ≤ 15 := by
  rcases devAt_hit D id with e | ⟨n, hn, e, e2⟩
  · omega
  · have := V.devs n hn
    omega
theorem domP_range {D : List S50} {B : List S108} (V : Valid D B) (kd id : Int) : -12 ≤ (domP D B kd id).1 ∧ (domP D B kd id).1 ≤ 15 := by
  unfold domP
  split
  · simp
  · rename_i c
    have := dev_range V id c
    have := aboveB_range V kd id
    split <;> simp only <;> omega
theorem domP_wf {D : List S50} {B : List S108} (V : Valid D B) (kd id : Int) : wfI (domP D B kd id).1 = true := by
  have := domP_range V kd id
  unfold wfI
  exact decide_eq_true (by omega)
theorem domP_ok {D : List S50} {B : List S108} (V : Valid D B) (kd id : Int) (h : (domP D B kd id).2 = true) : 0 ≤ id ∧ (domP D B kd id).1 = domN B kd id ∧ ¬ devAt D id < 0 := by
  unfold domP at h ⊢
  by_cases c : devAt D id < 0
  · rw [if_pos c] at h; cases h
  · have := dev_range V id c
    refine ⟨this.1, ?_, c⟩
    rw [if_neg c]
    unfold domN
    split <;> rfl
end Go.Proofs.Ytkadeelplnkpgaa.Pure

-- text OApart
namespace Go.Proofs.Ytkadeelplnkpgaa.Pure
open Go.RowKit Go.Proofs.Ytkadeelplnkpgaa.Q Go.Proofs.YtkadeelplnkpgaaW.PrintWords Go.Proofs.YtkadeelplnkpgaaW.PrintLast Go.Proofs.YtkadeelplnkpgaaW.PrintMore
set_option linter.unusedVariables false
set_option linter.unusedSimpArgs false

def apartW (D : List S50) (B : List S108) (kd : Int) : List Int → List Int → Bool
  | _, [] => true
  | u, x :: xs => if x = -1 then apartW D B kd u xs else if (domP D B kd x).2 = true then (if (u.any fun y => y == (domP D B kd x).1) = true then false else apartW D B kd (u ++ [(domP D B kd x).1]) xs) else false
theorem apartGo_ev {D : List S50} {B : List S108} (V : Valid D B) (kd : Int) : ∀ l u, Ev (fun k => apartGo (fun x => impl_Tree_domain.f k D B kd x) u l) (apartW D B kd u l)
  | [], u => Ev.now _
  | x :: xs, u => by
    unfold apartGo apartW
    by_cases c : x = -1
    · simp only [if_pos c]
      exact apartGo_ev V kd xs u
    · simp only [if_neg c]
      refine Ev.bind (impl_domain V kd x) ?_
      cases h2 : (domP D B kd x).2 with
      | false => simp only [Bool.false_eq_true, if_false]; exact Ev.now _
      | true =>
        simp only [if_true, domP_wf V kd x]
        cases h3 : u.any fun y => y == (domP D B kd x).1 with
        | true => simp only [if_true]; exact Ev.now _
        | false => simp only [Bool.false_eq_true, if_false]; exact apartGo_ev V kd xs _
theorem apartW_iff (D : List S50) (B : List S108) (kd : Int) : ∀ l u, apartW D B kd u l = true ↔ (∀ x ∈ l, x ≠ -1 → (domP D B kd x).2 = true ∧ (domP D B kd x).1 ∉ u) ∧ l.Pairwise fun x y => x ≠ -1 → y ≠ -1 → (domP D B kd x).1 ≠ (domP D B kd y).1
  | [], u => by simp [apartW]
  | x :: xs, u => by
    unfold apartW
    by_cases c : x = -1
    · rw [if_pos c, apartW_iff D B kd xs u, List.pairwise_cons]
      constructor
      · rintro ⟨h1, h2⟩
        refine ⟨fun y hy hn => ?_, fun y hy hx => absurd c hx, h2⟩
        rcases List.mem_cons.1 hy with rfl | hy
        · exact absurd c hn
        · exact h1 y hy hn
      · rintro ⟨h1, _, h2⟩
        exact ⟨fun y hy => h1 y (List.mem_cons_of_mem _ hy), h2⟩
    · rw [if_neg c]
      by_cases c2 : (domP D B kd x).2 = true
      · rw [if_pos c2]
        by_cases c3 : (u.any fun y => y == (domP D B kd x).1) = true
        · rw [if_pos c3]
          constructor
          · intro h; cases h
          · rintro ⟨h1, _⟩
            have := (h1 x (by simp) c).2
            rw [List.any_eq_true] at c3
            obtain ⟨y, hy, e⟩ := c3
            obtain rfl := eq_of_beq e
            exact absurd hy this
        · rw [if_neg c3, apartW_iff D B kd xs _, List.pairwise_cons]
          have hnu : (domP D B kd x).1 ∉ u := fun h => c3 (List.any_eq_true.2 ⟨_, h, by simp⟩)
          constructor
          · rintro ⟨h1, h2⟩
            refine ⟨fun y hy hn => ?_, fun y hy _ hn e => ?_, h2⟩
            · rcases List.mem_cons.1 hy with rfl | hy
              · exact ⟨c2, hnu⟩
              · exact ⟨(h1 y hy hn).1, fun h => (h1 y hy hn).2 (List.mem_append_left _ h)⟩
            · exact (h1 y hy hn).2 (List.mem_append_right _ (by simp [e]))
          · rintro ⟨h1, h2, h3⟩
            refine ⟨fun y hy hn => ⟨(h1 y (List.mem_cons_of_mem _ hy) hn).1, fun h => ?_⟩, h3⟩
            rcases List.mem_append.1 h with h | h
            · exact (h1 y (List.mem_cons_of_mem _ hy) hn).2 h
            · exact h2 y hy c hn (show (domP D B kd y).1 = (domP D B kd x).1 from by simpa using h).symm
      · rw [if_neg c2]
        constructor
        · intro h; cases h
        · rintro ⟨h1, _⟩
          exact absurd (h1 x (by simp) c).1 c2
/-- does nothing else stand in the domain of the thing at a place? -/
def freeB (B : List S108) (kd : Int) (l : List Int) (i : Int) (x : Int) (j : Nat) : Bool := decide ((j : Int) = i) || (!decide (rd l j ≥ 0) || (!decide (rd l j = x) && !decide (domN B kd (rd l j) = domN B kd x)))
theorem spec_free_ev {D : List S50} {B : List S108} (V : Valid D B) (kd : Int) (l : List Int) (hl : l.length ≤ 9223372036854775807) (i x : Int) : Ev (fun k => spec_l08Free.f k D B kd l i x) ((List.range l.length).all (freeB B kd l i x)) := by
  unfold spec_l08Free.f
  have hu : ∀ (j : Nat), j < l.length → ∀ r, Ev (fun k => if (j : Int) = i then spec_l08Free.l0 k kd l i x ((j + 1 : Nat) : Int) D B else (if rd l j ≥ 0 then (if rd l j = x then some false else ((spec_l08Domain.f k D B kd (rd l j)).bind fun a => ((spec_l08Domain.f k D B kd x).bind fun b => if a = b then some false else spec_l08Free.l0 k kd l i x ((j + 1 : Nat) : Int) D B))) else spec_l08Free.l0 k kd l i x ((j + 1 : Nat) : Int) D B)) r → Ev (fun k => spec_l08Free.l0 k kd l i x j D B) r := fun j hj r hr => by
    refine Ev.step (fun k => ?_) hr
    simp only [spec_l08Free.l0]
    rw [if_pos (by omega), up64 j l.length hj hl]
    simp only [show (0 : Int) ≤ (j : Int) by omega, if_true]
  refine all_loop l.length (fun k j => spec_l08Free.l0 k kd l i x j D B) _ (fun j hj hc r hr => hu j hj r ?_) (fun j hj hc => hu j hj _ ?_) (fun k => by simp only [spec_l08Free.l0]; rw [if_neg (by omega)])
  · by_cases c : (j : Int) = i
    · simp only [if_pos c]; exact hr
    · simp only [if_neg c]
      by_cases c2 : rd l j ≥ 0
      · simp only [if_pos c2]
        unfold freeB at hc
        simp only [c, c2, decide_true, decide_false, Bool.not_true, Bool.false_or, Bool.and_eq_true, Bool.not_eq_true', decide_eq_false_iff_not] at hc
        simp only [if_neg hc.1]
        refine Ev.bind (spec_domain V kd _) (Ev.bind (spec_domain V kd _) ?_)
        simp only [if_neg hc.2]
        exact hr
      · simp only [if_neg c2]; exact hr
  · unfold freeB at hc
    simp only [Bool.or_eq_false_iff, decide_eq_false_iff_not, Bool.not_eq_false', decide_eq_true_eq, Bool.and_eq_false_iff] at hc
    obtain ⟨c, c2, h3⟩ := hc
    simp only [if_neg c, if_pos c2]
    by_cases c3 : rd l j = x
    · simp only [if_pos c3]; exact Ev.now _
    · simp only [if_neg c3]
      refine Ev.bind (spec_domain V kd _) (Ev.bind (spec_domain V kd _) ?_)
      rcases h3 with h3 | h3
      · exact absurd h3 c3
      · simp only [if_pos h3]; exact Ev.now _
def specOne (D : List S50) (B : List S108) (kd : Int) (l : List Int) (i : Nat) : Bool := decide (rd l i = -1) || ((domP D B kd (rd l i)).2 && (List.range l.length).all (freeB B kd l i (rd l i)))
theorem spec_one {D : List S50} {B : List S108} (V : Valid D B) (kd : Int) (hk : 0 ≤ kd) (l : List Int) (hl : l.length ≤ 9223372036854775807) : Ev (fun k => spec_l08Apart.f k D B kd l) ((List.range l.length).all (specOne D B kd l)) := by
  have hD : D.length ≤ 9223372036854775807 := by have := V.dev; omega
  unfold spec_l08Apart.f
  have hu : ∀ (i : Nat), i < l.length → ∀ r, ((rd l i = -1 → Ev (fun k => spec_l08Apart.l0 k kd l ((i + 1 : Nat) : Int) D B) r) ∧ (rd l i ≠ -1 → ((domP D B kd (rd l i)).2 = false → r = false) ∧ ((domP D B kd (rd l i)).2 = true → (((List.range l.length).all (freeB B kd l i (rd l i)) = false → r = false) ∧ ((List.range l.length).all (freeB B kd l i (rd l i)) = true → Ev (fun k => spec_l08Apart.l0 k kd l ((i + 1 : Nat) : Int) D B) r))))) → Ev (fun k => spec_l08Apart.l0 k kd l i D B) r := fun i hi r ⟨h1, h2⟩ => by
    refine Ev.step (f := fun k => if rd l i = -1 then spec_l08Apart.l0 k kd l ((i + 1 : Nat) : Int) D B else ((spec_l06Device.f k D B (rd l i)).bind fun a => (if a < 0 then some false else (if kd > 0 then ((spec_l08Domain.f k D B kd (rd l i)).bind fun b => (if b = 0 then some false else ((spec_l08Free.f k D B kd l i (rd l i)).bind fun c => (if c = true then spec_l08Apart.l0 k kd l ((i + 1 : Nat) : Int) D B else some false)))) else ((spec_l08Free.f k D B kd l i (rd l i)).bind fun c => (if c = true then spec_l08Apart.l0 k kd l ((i + 1 : Nat) : Int) D B else some false)))))) (fun k => ?_) ?_
    · simp only [spec_l08Apart.l0]
      rw [if_pos (by omega), if_pos (by omega), up64 i l.length hi hl]
    · by_cases c : rd l i = -1
      · simp only [if_pos c]; exact h1 c
      · simp only [if_neg c]
        obtain ⟨h3, h4⟩ := h2 c
        refine Ev.bind (specDevice_ev D B (rd l i) hD) ?_
        by_cases c2 : devAt D (rd l i) < 0
        · simp only [if_pos c2]
          have e : (domP D B kd (rd l i)).2 = false := by unfold domP; rw [if_pos c2]
          rw [h3 e]
          exact Ev.now _
        · simp only [if_neg c2]
          have hfin : (domP D B kd (rd l i)).2 = true → Ev (fun k => (spec_l08Free.f k D B kd l i (rd l i)).bind fun c => (if c = true then spec_l08Apart.l0 k kd l ((i + 1 : Nat) : Int) D B else some false)) r := fun e => by
            obtain ⟨h5, h6⟩ := h4 e
            refine Ev.bind (spec_free_ev V kd l hl i (rd l i)) ?_
            cases hf : (List.range l.length).all (freeB B kd l i (rd l i)) with
            | false => rw [h5 hf]; exact Ev.now _
            | true => exact h6 hf
          by_cases c3 : kd > 0
          · simp only [if_pos c3]
            refine Ev.bind (spec_domain V kd (rd l i)) ?_
            have e0 : domN B kd (rd l i) = aboveB B (rd l i) kd := by unfold domN; rw [if_neg (by omega)]
            by_cases c4 : domN B kd (rd l i) = 0
            · simp only [if_pos c4]
              have e : (domP D B kd (rd l i)).2 = false := by unfold domP; rw [if_neg c2, if_neg (by omega)]; simp [← e0, c4]
              rw [h3 e]
              exact Ev.now _
            · simp only [if_neg c4]
              exact hfin (by unfold domP; rw [if_neg c2, if_neg (by omega)]; simp [← e0, c4])
          · simp only [if_neg c3]
            exact hfin (by unfold domP; rw [if_neg c2, if_pos (by omega)])
  refine all_loop l.length (fun k i => spec_l08Apart.l0 k kd l i D B) _ (fun i hi hc r hr => hu i hi r ?_) (fun i hi hc => hu i hi _ ?_) (fun k => by simp only [spec_l08Apart.l0]; rw [if_neg (by omega)])
  · unfold specOne at hc
    refine ⟨fun _ => hr, fun hn => ⟨fun e => ?_, fun e => ⟨fun e2 => ?_, fun _ => hr⟩⟩⟩
    · simp [hn, e] at hc
    · rw [e, e2] at hc
      simp [hn] at hc
  · unfold specOne at hc
    refine ⟨fun e => by simp [e] at hc, fun hn => ⟨fun _ => rfl, fun e => ⟨fun _ => rfl, fun e2 => ?_⟩⟩⟩
    rw [e, e2] at hc
    simp at hc
theorem apart_same {D : List S50} {B : List S108} (V : Valid D B) (kd : Int) (l : List Int) : (List.range l.length).all (specOne D B kd l) = apartW D B kd [] l := by
  rw [Bool.eq_iff_iff, apartW_iff, List.all_eq_true]
  have hone : ∀ i, i < l.length → (specOne D B kd l i = true ↔ (rd l i = -1 ∨ ((domP D B kd (rd l i)).2 = true ∧ ∀ j, j < l.length → freeB B kd l i (rd l i) j = true))) := fun i hi => by
    unfold specOne
    rw [Bool.or_eq_true, decide_eq_true_eq, Bool.and_eq_true, List.all_eq_true]
    simp only [List.mem_range]
  have hfree : ∀ i j, i < l.length → j < l.length → i ≠ j → 0 ≤ rd l j → freeB B kd l i (rd l i) j = true → domN B kd (rd l j) ≠ domN B kd (rd l i) := fun i j hi hj hn h0 h => by
    unfold freeB at h
    simp only [show ¬ ((j : Int) = (i : Int)) by omega, show rd l j ≥ 0 from h0, decide_true, decide_false, Bool.not_true, Bool.false_or, Bool.and_eq_true, Bool.not_eq_true', decide_eq_false_iff_not] at h
    exact h.2
  constructor
  · intro h
    have h' : ∀ i, i < l.length → (rd l i = -1 ∨ ((domP D B kd (rd l i)).2 = true ∧ ∀ j, j < l.length → freeB B kd l i (rd l i) j = true)) := fun i hi => (hone i hi).1 (h i (by simpa using hi))
    have hok : ∀ x ∈ l, x ≠ -1 → (domP D B kd x).2 = true := fun x hx hn => by
      obtain ⟨i, hi, rfl⟩ := List.mem_iff_getElem.1 hx
      rcases h' i hi with e | ⟨e, _⟩
      · rw [rd_get l i hi] at e; exact absurd e hn
      · rw [rd_get l i hi] at e; exact e
    refine ⟨fun x hx hn => ⟨hok x hx hn, by simp⟩, ?_⟩
    rw [List.pairwise_iff_getElem]
    intro i j hi hj hij hn1 hn2 e
    rcases h' i hi with e1 | ⟨e1, hf⟩
    · rw [rd_get l i hi] at e1; exact hn1 e1
    · have hj2 := hok l[j] (List.getElem_mem hj) hn2
      have hi2 := hok l[i] (List.getElem_mem hi) hn1
      have a1 := domP_ok V kd l[j] hj2
      have a2 := domP_ok V kd l[i] hi2
      refine hfree i j hi hj (by omega) (by rw [rd_get l j hj]; exact a1.1) (hf j hj) ?_
      rw [rd_get l j hj, rd_get l i hi, ← a1.2.1, ← a2.2.1, e]
  · rintro ⟨h1, h2⟩ i hi
    have hi : i < l.length := by simpa using hi
    rw [hone i hi]
    by_cases c : rd l i = -1
    · exact .inl c
    · have ci : l[i] ≠ -1 := by rw [rd_get l i hi] at c; exact c
      have hiok := (h1 l[i] (List.getElem_mem hi) ci).1
      refine .inr ⟨by rw [rd_get l i hi]; exact hiok, fun j hj => ?_⟩
      unfold freeB
      by_cases cij : (j : Int) = (i : Int)
      · simp [cij]
      · by_cases c0 : rd l j ≥ 0
        · have cj : l[j] ≠ -1 := by rw [rd_get l j hj] at c0; omega
          have hjok := (h1 l[j] (List.getElem_mem hj) cj).1
          have a1 := domP_ok V kd l[j] hjok
          have a2 := domP_ok V kd l[i] hiok
          have hne : (domP D B kd l[j]).1 ≠ (domP D B kd l[i]).1 := by
            rw [List.pairwise_iff_getElem] at h2
            rcases Nat.lt_or_gt_of_ne (show j ≠ i by omega) with hlt | hlt
            · exact h2 j i hj hi hlt cj ci
            · exact fun e => h2 i j hi hj hlt ci cj e.symm
          have hd : domN B kd (rd l j) ≠ domN B kd (rd l i) := by
            rw [rd_get l j hj, rd_get l i hi, ← a1.2.1, ← a2.2.1]
            exact hne
          have hx : rd l j ≠ rd l i := fun e => hd (by rw [e])
          simp [cij, c0, hd, hx]
        · simp [cij, c0]
/-- the answer -/
def apartAns (D : List S50) (B : List S108) (kd : Int) (l : List Int) : Bool := treeOkB D B && (inB kd 0 2 && (decide (l.length ≤ 7) && apartW D B kd [] l))
theorem impl_apart_ev (D : List S50) (B : List S108) (hD : D.length ≤ 9223372036854775807) (hw : wfTree D B = true) (kd : Int) (l : List Int) : Ev (fun k => impl_Apart.f k D B kd l) (apartAns D B kd l) := by
  unfold impl_Apart.f apartAns
  refine Ev.bind (impl_ok_ev D B hD hw) ?_
  cases c : treeOkB D B with
  | false => exact Ev.now _
  | true =>
    simp only [if_true, Bool.true_and]
    cases c2 : inB kd 0 2 with
    | false => simp only [Bool.false_eq_true, if_false, Bool.false_and]; exact Ev.now _
    | true =>
      simp only [if_true, Bool.true_and]
      by_cases c3 : l.length ≤ 7
      · simp only [if_pos c3, decide_eq_true c3, Bool.true_and]
        exact apartGo_ev (valid_of D B c) kd l []
      · simp only [if_neg c3, decide_eq_false c3, Bool.false_and]; exact Ev.now _
theorem spec_apart_ev (D : List S50) (B : List S108) (hD : D.length ≤ 9223372036854775807) (kd : Int) (l : List Int) : Ev (fun k => spec_Apart.f k D B kd l) (apartAns D B kd l) := by
  unfold spec_Apart.f apartAns
  refine Ev.bind (spec_ok_ev D B) ?_
  cases c : treeOkB D B with
  | false => exact Ev.now _
  | true =>
    simp only [if_true, Bool.true_and, in_inB, Option.bind_some]
    cases c2 : inB kd 0 2 with
    | false => simp only [Bool.false_eq_true, if_false, Bool.false_and]; exact Ev.now _
    | true =>
      simp only [if_true, Bool.true_and]
      by_cases c3 : l.length ≤ 7
      · simp only [show (l.length : Int) ≤ 7 by omega, if_true, decide_eq_true c3, Bool.true_and]
        rw [← apart_same (valid_of D B c) kd l]
        refine ev_then1 (spec_one (valid_of D B c) kd ?_ l (by omega))
        unfold inB at c2
        simp only [Bool.and_eq_true, decide_eq_true_eq] at c2
        exact c2.1
      · simp only [show ¬ ((l.length : Int) ≤ 7) by omega, if_false, decide_eq_false c3, Bool.false_and]; exact Ev.now _
end Go.Proofs.Ytkadeelplnkpgaa.Pure

-- text PureFnExactApart
namespace Go.Proofs.Ytkadeelplnkpgaa.Pure
open Go.RowKit Go.Proofs.Ytkadeelplnkpgaa.Q Go.Proofs.Ytkadeelplnkpgaa.Opens Go.Proofs.YtkadeelplnkpgaaW.PrintWords Go.Proofs.YtkadeelplnkpgaaW.PrintLast Go.Proofs.YtkadeelplnkpgaaW.PrintMore
set_option linter.unusedVariables false
set_option linter.unusedSimpArgs false

theorem FnExactApart (l0_0 : List S110) (l0_1 : List S106) (a1 : Int) (l2 : List Int) (hd : good_t22 l0_0) (hb : good_t23 l0_1) (_ : (Lit.int .i64 a1).wf = true) (hg : good_t34 l2) : ∃ k, laws_FnExactApart.f k l0_0 l0_1 a1 l2 = some true := by
  obtain ⟨g1, g2, g3⟩ := small_of_good l0_0 l0_1 hd hb
  obtain ⟨t, ht, hsz⟩ := szTree_ev l0_0 l0_1 1048576 g1 g2 g3 (by omega) (by omega)
  have hwf := wf_of_good l0_0 l0_1 hd hb
  refine Ev.rounds (r := true) ?_
  unfold laws_FnExactApart.f
  by_cases cl : (l2.length : Int) > 1048576
  · simp only [if_pos cl]
    exact Ev.now _
  simp only [if_neg cl]
  refine Ev.bind hsz ?_
  by_cases c : t < 0
  · exact ev_some fun k => if_pos c
  · simp only [if_neg c]
    have hs := (ht (by omega)).2
    have hto := toTree_ev l0_0 l0_1 hs
    have heq := eqTree_ev l0_0 l0_1 hs
    have hD : (l0_0.map devOf).length ≤ 9223372036854775807 := by rw [List.length_map]; exact g1
    have hti := toInt64S_ev l2 (by omega)
    have hei := eqInt64S_ev l2 (by omega)
    generalize l0_0.map devOf = D at *
    generalize l0_1.map bktOf = B at *
    refine Ev.bind hto (Ev.bind hti (Ev.bind (spec_apart_ev D B hD a1 l2) (Ev.bind hto (Ev.bind hti (Ev.bind (impl_apart_ev D B hD hwf a1 l2) ?_)))))
    simp only [bne_self_eq_false, Bool.false_eq_true, if_false]
    refine Ev.bind hto (Ev.bind heq ?_)
    simp only [if_true]
    exact Ev.bind hti (Ev.bind hei (ev_some fun k => if_pos rfl))

end Go.Proofs.Ytkadeelplnkpgaa.Pure
