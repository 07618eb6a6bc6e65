/- Walks of the Go functions that the laws call: each returns what a plain Lean function says. Written by a program for these claims. -/
import Derived.Test.YtkadeelplnkpgaaQ0
import Derived.Test.YtkadeelplnkpgaaOTreeC
import Derived.Test.YtkadeelplnkpgaaQf13
import Derived.Test.YtkadeelplnkpgaaQf14
import Derived.Test.YtkadeelplnkpgaaQf15
import Derived.Test.YtkadeelplnkpgaaQf16
import Derived.Test.YtkadeelplnkpgaaQf17
namespace Go.Proofs.Ytkadeelplnkpgaa.Q
open Go.RowKit Go.Proofs.YtkadeelplnkpgaaW.PrintWords Go.Proofs.YtkadeelplnkpgaaW.PrintLast Go.Proofs.YtkadeelplnkpgaaW.PrintMore
attribute [local go_sem] max2_int min2_int max_two min_two max_three min_three max_four min_four   -- for this text's walks alone
set_option linter.unusedVariables false
set_option linter.unusedSimpArgs false

/-! ### laws_FnExactSameTree: function 3 -/
def laws_FnExactSameTree.f (k : Nat) (l0_0 : List (S110)) (l0_1 : List (S106)) (l1_0 : List (S110)) (l1_1 : List (S106)) : Option (Bool) := (laws_szTree.f k l0_0 l0_1 1048576).bind fun t249 => (if t249 < 0 then (some true) else ((laws_szTree.f k l1_0 l1_1 t249).bind fun t250 => (if t250 < 0 then (some true) else ((laws_toTree.f k l0_0 l0_1).bind fun bt251 => ((laws_toTree.f k l1_0 l1_1).bind fun bt257 => ((spec_SameTree.f k bt251.1 bt251.2 bt257.1 bt257.2).bind fun t263 => ((laws_toTree.f k l0_0 l0_1).bind fun bt264 => ((laws_toTree.f k l1_0 l1_1).bind fun bt271 => ((impl_SameTree.f k bt264.1 bt264.2 bt271.1 bt271.2).bind fun t278 => (if (t278 != t263) = true then (some false) else ((laws_toTree.f k l0_0 l0_1).bind fun bt279 => ((laws_eqTree.f k bt264.1 bt264.2 bt279.1 bt279.2).bind fun t285 => (if t285 = true then ((laws_toTree.f k l1_0 l1_1).bind fun bt286 => ((laws_eqTree.f k bt271.1 bt271.2 bt286.1 bt286.2).bind fun t292 => (if t292 = true then (some true) else (some false)))) else (some false))))))))))))))
set_option maxHeartbeats 8000000 in
set_option maxRecDepth 100000 in
theorem laws_FnExactSameTree.calls (k : Nat) (A0_0 : Option Addr) (c0_0 : Nat) (l0_0 : List (S110)) (A0_1 : Option Addr) (c0_1 : Nat) (l0_1 : List (S106)) (A1_0 : Option Addr) (c1_0 : Nat) (l1_0 : List (S110)) (A1_1 : Option Addr) (c1_1 : Nat) (l1_1 : List (S106)) (r : Bool) (w : World) (hr0_0 : Kd.C k110 w A0_0 l0_0.length l0_0) (hc0_0 : l0_0.length ≤ c0_0) (hr0_1 : Kd.C k106 w A0_1 l0_1.length l0_1) (hc0_1 : l0_1.length ≤ c0_1) (hr1_0 : Kd.C k110 w A1_0 l1_0.length l1_0) (hc1_0 : l1_0.length ≤ c1_0) (hr1_1 : Kd.C k106 w A1_1 l1_1.length l1_1) (hc1_1 : l1_1.length ≤ c1_1) (h : laws_FnExactSameTree.f k l0_0 l0_1 l1_0 l1_1 = some r) :
    Calls Try.prog 3 #[.agg #[.slice A0_0 l0_0.length c0_0, .slice A0_1 l0_1.length c0_1], .agg #[.slice A1_0 l1_0.length c1_0, .slice A1_1 l1_1.length c1_1]] w fun e w' => e = .returned (.bool r) ∧ Below w.heap.size w w' := by
  have HA0 := Aside0.mk hr0_0
  have HA1 := Aside0.mk hr0_1
  have HE0 := Aside0.mk hr1_0
  have HE1 := Aside0.mk hr1_1
  have H0 := Aside0.mk h
  clear hr0_0 hr0_1 hr1_0 hr1_1 h
  have HCC := Aside0.mk (And.intro (And.intro hc0_0 hc0_1) (And.intro hc1_0 hc1_1))
  clear hc0_0 hc0_1 hc1_0 hc1_1
  unfold laws_FnExactSameTree.f at H0
  go_enter Try.func3, Try.ntmps3
  go_wp2_with fail
  have BA := Aside0.mk (blk_alloc (blk_new w (.cells #[.slice A0_0 l0_0.length c0_0, .slice A0_1 l0_1.length c0_1] 25)) (.cells #[.slice A1_0 l1_0.length c1_0, .slice A1_1 l1_1.length c1_1] 25))
  have BB := Aside0.mk (blk_new (w.alloc (.cells #[.slice A0_0 l0_0.length c0_0, .slice A0_1 l0_1.length c0_1] 25)) (.cells #[.slice A1_0 l1_0.length c1_0, .slice A1_1 l1_1.length c1_1] 25))
  have HB := Aside0.mk (below_alloc (below_alloc (Below.refl w.heap.size w) (.cells #[.slice A0_0 l0_0.length c0_0, .slice A0_1 l0_1.length c0_1] 25)) (.cells #[.slice A1_0 l1_0.length c1_0, .slice A1_1 l1_1.length c1_1] 25))
  have hs : (w.alloc (.cells #[.slice A0_0 l0_0.length c0_0, .slice A0_1 l0_1.length c0_1] 25)).heap.size = w.heap.size + 1 := by unfold World.alloc; exact Array.size_push _
  rw [hs] at BB
  clear hs
  generalize ((w.alloc (.cells #[.slice A0_0 l0_0.length c0_0, .slice A0_1 l0_1.length c0_1] 25)).alloc (.cells #[.slice A1_0 l1_0.length c1_0, .slice A1_1 l1_1.length c1_1] 25)) = w1 at BA BB HB ⊢
  generalize w.heap.size + 1 = gb at BB ⊢
  obtain ⟨t1, E1, H1⟩ := Option.bind_eq_some_iff.1 H0.out
  replace E1 := Aside0.mk E1
  replace H1 := Aside0.mk H1
  clear H0
  (with_reducible refine (laws_szTree.calls k A0_0 c0_0 l0_0 A0_1 c0_1 l0_1 1048576 t1 _ (Kd.C_below HA0.out HB.out) HCC.out.1.1 (Kd.C_below HA1.out HB.out) HCC.out.1.2 E1.out).mono ?_)
  rintro e w2 ⟨rfl, hb⟩
  replace BA := Aside0.mk (blk_below BA.out hb)
  replace BB := Aside0.mk (blk_below BB.out hb)
  replace HB := Aside0.mk (below_step HB.out hb)
  clear hb
  have hBA0 := (blk_cell BA.out 0).trans rfl
  have hBA1 := (blk_cell BA.out 1).trans rfl
  have hBB0 := (blk_cell BB.out 0).trans rfl
  have hBB1 := (blk_cell BB.out 1).trans rfl
  by_cases d1 : t1 < 0
  case pos =>
    have HF := Aside0.mk (show r = true from by have := H1.out; rw [if_pos d1] at this; exact (Option.some.inj this).symm)
    have db := decide_eq_true d1
    clear d1
    go_wp2_with fail
    go_ret
    exact ⟨by rw [HF.out]; rfl, HB.out⟩
  replace H1 := Aside0.mk (by have := H1.out; rwa [if_neg d1] at this)
  have db1 := decide_eq_false d1
  clear d1
  go_wp2_with fail
  clear db1
  obtain ⟨t2, E2, H2⟩ := Option.bind_eq_some_iff.1 H1.out
  replace E2 := Aside0.mk E2
  replace H2 := Aside0.mk H2
  clear H1
  (with_reducible refine (laws_szTree.calls k A1_0 c1_0 l1_0 A1_1 c1_1 l1_1 t1 t2 _ (Kd.C_below HE0.out HB.out) HCC.out.2.1 (Kd.C_below HE1.out HB.out) HCC.out.2.2 E2.out).mono ?_)
  rintro e w2 ⟨rfl, hb⟩
  clear hBA0 hBA1 hBB0 hBB1
  replace BA := Aside0.mk (blk_below BA.out hb)
  replace BB := Aside0.mk (blk_below BB.out hb)
  replace HB := Aside0.mk (below_step HB.out hb)
  clear hb
  have hBA0 := (blk_cell BA.out 0).trans rfl
  have hBA1 := (blk_cell BA.out 1).trans rfl
  have hBB0 := (blk_cell BB.out 0).trans rfl
  have hBB1 := (blk_cell BB.out 1).trans rfl
  by_cases d2 : t2 < 0
  case pos =>
    have HF := Aside0.mk (show r = true from by have := H2.out; rw [if_pos d2] at this; exact (Option.some.inj this).symm)
    have db := decide_eq_true d2
    clear d2
    go_wp2_with fail
    go_ret
    exact ⟨by rw [HF.out]; rfl, HB.out⟩
  replace H2 := Aside0.mk (by have := H2.out; rwa [if_neg d2] at this)
  have db2 := decide_eq_false d2
  clear d2
  go_wp2_with fail
  clear db2
  obtain ⟨⟨D3, B3⟩, E3, H3⟩ := Option.bind_eq_some_iff.1 H2.out
  replace E3 := Aside0.mk E3
  replace H3 := Aside0.mk H3
  clear H2
  obtain ⟨⟨D4, B4⟩, E4, H4⟩ := Option.bind_eq_some_iff.1 H3.out
  replace E4 := Aside0.mk E4
  replace H4 := Aside0.mk H4
  clear H3
  obtain ⟨s, E5, H5⟩ := Option.bind_eq_some_iff.1 H4.out
  replace E5 := Aside0.mk E5
  replace H5 := Aside0.mk H5
  clear H4
  have hBA0 := (blk_cell BA.out 0).trans rfl
  have hBA1 := (blk_cell BA.out 1).trans rfl
  have hBB0 := (blk_cell BB.out 0).trans rfl
  have hBB1 := (blk_cell BB.out 1).trans rfl
  have HK := Aside0.mk (show ∀ w', Below w2.heap.size w2 w' → (fun w' => w'.cell? ⟨w.heap.size, 0, none⟩ = some (.slice A0_0 l0_0.length c0_0) ∧ w'.cell? ⟨w.heap.size, 1, none⟩ = some (.slice A0_1 l0_1.length c0_1) ∧ w'.cell? ⟨gb, 0, none⟩ = some (.slice A1_0 l1_0.length c1_0) ∧ w'.cell? ⟨gb, 1, none⟩ = some (.slice A1_1 l1_1.length c1_1) ∧ Below w2.heap.size w2 w') w' from fun w' h => ⟨(h.cell (blk_lt BA.out)).trans hBA0, (h.cell (blk_lt BA.out)).trans hBA1, (h.cell (blk_lt BB.out)).trans hBB0, (h.cell (blk_lt BB.out)).trans hBB1, h⟩)
  go_region_held3 (fun w' => w'.cell? ⟨w.heap.size, 0, none⟩ = some (.slice A0_0 l0_0.length c0_0) ∧ w'.cell? ⟨w.heap.size, 1, none⟩ = some (.slice A0_1 l0_1.length c0_1) ∧ w'.cell? ⟨gb, 0, none⟩ = some (.slice A1_0 l1_0.length c1_0) ∧ w'.cell? ⟨gb, 1, none⟩ = some (.slice A1_1 l1_1.length c1_1) ∧ Below w2.heap.size w2 w') (first | exact HK.out _ hbb | exact HK.out _ (below_drew1 (Below.refl _ _)) | exact HK.out _ (Below.refl _ _)) (first | (go_at_call 15; go_split_ands; (with_reducible refine (toTreeC.calls k A0_0 c0_0 l0_0 A0_1 c0_1 l0_1 D3 B3 _ (Kd.C_below HA0.out (below_step HB.out (show Below w2.heap.size w2 _ by assumption))) HCC.out.1.1 (Kd.C_below HA1.out (below_step HB.out (show Below w2.heap.size w2 _ by assumption))) HCC.out.1.2 E3.out).mono ?_); rintro e w3 ⟨P0, p0, P1, p1, rfl, TP, hb⟩; have hbb : Below w2.heap.size w2 _ := below_step (by assumption) hb) | (go_at_call 15; go_split_ands; (with_reducible refine (toTreeC.calls k A1_0 c1_0 l1_0 A1_1 c1_1 l1_1 D4 B4 _ (Kd.C_below HE0.out (below_step HB.out (show Below w2.heap.size w2 _ by assumption))) HCC.out.2.1 (Kd.C_below HE1.out (below_step HB.out (show Below w2.heap.size w2 _ by assumption))) HCC.out.2.2 E4.out).mono ?_); rintro e w4 ⟨Q0, q0, Q1, q1, rfl, TQ, hb⟩; have hbb : Below w2.heap.size w2 _ := below_step (by assumption) hb; have TP := TP.below hb) | (go_at_call 14; go_split_ands; (with_reducible refine (spec_SameTree.calls k P0 p0 D3 P1 p1 B3 Q0 q0 D4 Q1 q1 B4 s _ TP.d TP.hd TP.b TP.hb TQ.d TQ.hd TQ.b TQ.hb E5.out).mono ?_); rintro e w5 ⟨rfl, hb⟩; have hbb : Below w2.heap.size w2 _ := below_step (by assumption) hb))
  have hb := hbb
  clear hBA0 hBA1 hBB0 hBB1
  replace BA := Aside0.mk (blk_below BA.out hb)
  replace BB := Aside0.mk (blk_below BB.out hb)
  replace HB := Aside0.mk (below_step HB.out hb)
  clear hb HK
  clear TP TQ E3 E4 E5
  obtain ⟨⟨D6, B6⟩, E6, H6⟩ := Option.bind_eq_some_iff.1 H5.out
  replace E6 := Aside0.mk E6
  replace H6 := Aside0.mk H6
  clear H5
  have hBA0 := (blk_cell BA.out 0).trans rfl
  have hBA1 := (blk_cell BA.out 1).trans rfl
  have hBB0 := (blk_cell BB.out 0).trans rfl
  have hBB1 := (blk_cell BB.out 1).trans rfl
  go_wp2_with fail
  (with_reducible refine (toTreeC.calls k A0_0 c0_0 l0_0 A0_1 c0_1 l0_1 D6 B6 _ (Kd.C_below HA0.out HB.out) HCC.out.1.1 (Kd.C_below HA1.out HB.out) HCC.out.1.2 E6.out).mono ?_)
  rintro e w6 ⟨X0, x0, X1, x1, rfl, TX, hb⟩
  clear hBA0 hBA1 hBB0 hBB1
  replace BA := Aside0.mk (blk_below BA.out hb)
  replace BB := Aside0.mk (blk_below BB.out hb)
  replace HB := Aside0.mk (below_step HB.out hb)
  clear hb
  have hBA0a := fun o => (blk_cell (blk_alloc BA.out o) 0).trans rfl
  have hBA1a := fun o => (blk_cell (blk_alloc BA.out o) 1).trans rfl
  have hBB0a := fun o => (blk_cell (blk_alloc BB.out o) 0).trans rfl
  have hBB1a := fun o => (blk_cell (blk_alloc BB.out o) 1).trans rfl
  have hBA0 := (blk_cell BA.out 0).trans rfl
  have hBA1 := (blk_cell BA.out 1).trans rfl
  have hBB0 := (blk_cell BB.out 0).trans rfl
  have hBB1 := (blk_cell BB.out 1).trans rfl
  go_wp2_with fail
  replace TX := Aside0.mk TX
  have hb := below_alloc (Below.refl w6.heap.size w6) (.cells #[.slice X0 D6.length x0, .slice X1 B6.length x1] 31)
  have BX := Aside0.mk (blk_new w6 (.cells #[.slice X0 D6.length x0, .slice X1 B6.length x1] 31))
  clear hBA0 hBA1 hBB0 hBB1
  clear hBA0a hBA1a hBB0a hBB1a
  replace BA := Aside0.mk (blk_below BA.out hb)
  replace BB := Aside0.mk (blk_below BB.out hb)
  replace HB := Aside0.mk (below_step HB.out hb)
  replace TX := Aside0.mk (TX.out.below hb)
  clear hb
  generalize (w6.alloc (.cells #[.slice X0 D6.length x0, .slice X1 B6.length x1] 31)) = w7 at BA BB HB TX BX ⊢
  generalize w6.heap.size = gx at BX ⊢
  obtain ⟨⟨D7, B7⟩, E7, H7⟩ := Option.bind_eq_some_iff.1 H6.out
  replace E7 := Aside0.mk E7
  replace H7 := Aside0.mk H7
  clear H6
  have hBA0 := (blk_cell BA.out 0).trans rfl
  have hBA1 := (blk_cell BA.out 1).trans rfl
  have hBB0 := (blk_cell BB.out 0).trans rfl
  have hBB1 := (blk_cell BB.out 1).trans rfl
  have hBX0 := (blk_cell BX.out 0).trans rfl
  have hBX1 := (blk_cell BX.out 1).trans rfl
  (with_reducible refine (toTreeC.calls k A1_0 c1_0 l1_0 A1_1 c1_1 l1_1 D7 B7 _ (Kd.C_below HE0.out HB.out) HCC.out.2.1 (Kd.C_below HE1.out HB.out) HCC.out.2.2 E7.out).mono ?_)
  rintro e w8 ⟨Y0, y0, Y1, y1, rfl, TY, hb⟩
  clear hBA0 hBA1 hBB0 hBB1 hBX0 hBX1
  replace BA := Aside0.mk (blk_below BA.out hb)
  replace BB := Aside0.mk (blk_below BB.out hb)
  replace HB := Aside0.mk (below_step HB.out hb)
  replace TX := Aside0.mk (TX.out.below hb)
  replace BX := Aside0.mk (blk_below BX.out hb)
  clear hb
  have hBA0a := fun o => (blk_cell (blk_alloc BA.out o) 0).trans rfl
  have hBA1a := fun o => (blk_cell (blk_alloc BA.out o) 1).trans rfl
  have hBB0a := fun o => (blk_cell (blk_alloc BB.out o) 0).trans rfl
  have hBB1a := fun o => (blk_cell (blk_alloc BB.out o) 1).trans rfl
  have hBX0a := fun o => (blk_cell (blk_alloc BX.out o) 0).trans rfl
  have hBX1a := fun o => (blk_cell (blk_alloc BX.out o) 1).trans rfl
  have hBA0 := (blk_cell BA.out 0).trans rfl
  have hBA1 := (blk_cell BA.out 1).trans rfl
  have hBB0 := (blk_cell BB.out 0).trans rfl
  have hBB1 := (blk_cell BB.out 1).trans rfl
  have hBX0 := (blk_cell BX.out 0).trans rfl
  have hBX1 := (blk_cell BX.out 1).trans rfl
  go_wp2_with fail
  replace TY := Aside0.mk TY
  have hb := below_alloc (Below.refl w8.heap.size w8) (.cells #[.slice Y0 D7.length y0, .slice Y1 B7.length y1] 31)
  have BY := Aside0.mk (blk_new w8 (.cells #[.slice Y0 D7.length y0, .slice Y1 B7.length y1] 31))
  clear hBA0 hBA1 hBB0 hBB1 hBX0 hBX1
  clear hBA0a hBA1a hBB0a hBB1a hBX0a hBX1a
  replace BA := Aside0.mk (blk_below BA.out hb)
  replace BB := Aside0.mk (blk_below BB.out hb)
  replace HB := Aside0.mk (below_step HB.out hb)
  replace TX := Aside0.mk (TX.out.below hb)
  replace BX := Aside0.mk (blk_below BX.out hb)
  replace TY := Aside0.mk (TY.out.below hb)
  clear hb
  generalize (w8.alloc (.cells #[.slice Y0 D7.length y0, .slice Y1 B7.length y1] 31)) = w9 at BA BB HB TX BX TY BY ⊢
  generalize w8.heap.size = gy at BY ⊢
  obtain ⟨v, E8, H8⟩ := Option.bind_eq_some_iff.1 H7.out
  replace E8 := Aside0.mk E8
  replace H8 := Aside0.mk H8
  clear H7
  have hBA0 := (blk_cell BA.out 0).trans rfl
  have hBA1 := (blk_cell BA.out 1).trans rfl
  have hBB0 := (blk_cell BB.out 0).trans rfl
  have hBB1 := (blk_cell BB.out 1).trans rfl
  have hBX0 := (blk_cell BX.out 0).trans rfl
  have hBX1 := (blk_cell BX.out 1).trans rfl
  have hBY0 := (blk_cell BY.out 0).trans rfl
  have hBY1 := (blk_cell BY.out 1).trans rfl
  (with_reducible refine (impl_SameTree.calls k X0 x0 D6 X1 x1 B6 Y0 y0 D7 Y1 y1 B7 v _ TX.out.d TX.out.hd TX.out.b TX.out.hb TY.out.d TY.out.hd TY.out.b TY.out.hb E8.out).mono ?_)
  rintro e w10 ⟨rfl, hb⟩
  clear hBA0 hBA1 hBB0 hBB1 hBX0 hBX1 hBY0 hBY1
  replace BA := Aside0.mk (blk_below BA.out hb)
  replace BB := Aside0.mk (blk_below BB.out hb)
  replace HB := Aside0.mk (below_step HB.out hb)
  replace TX := Aside0.mk (TX.out.below hb)
  replace BX := Aside0.mk (blk_below BX.out hb)
  replace TY := Aside0.mk (TY.out.below hb)
  replace BY := Aside0.mk (blk_below BY.out hb)
  clear hb
  have hBA0 := (blk_cell BA.out 0).trans rfl
  have hBA1 := (blk_cell BA.out 1).trans rfl
  have hBB0 := (blk_cell BB.out 0).trans rfl
  have hBB1 := (blk_cell BB.out 1).trans rfl
  have hBX0 := (blk_cell BX.out 0).trans rfl
  have hBX1 := (blk_cell BX.out 1).trans rfl
  have hBY0 := (blk_cell BY.out 0).trans rfl
  have hBY1 := (blk_cell BY.out 1).trans rfl
  by_cases dv : v = s
  case neg =>
    have HF := Aside0.mk (show r = false from by have := H8.out; rw [if_pos (by simpa using dv)] at this; exact (Option.some.inj this).symm)
    cases v <;> cases s <;> first | exact absurd rfl dv | (go_wp2_with fail; go_ret; exact ⟨by rw [HF.out]; rfl, HB.out⟩)
  subst dv
  replace H8 := Aside0.mk (by have := H8.out; rwa [if_neg (by simp)] at this)
  go_wp2_with fail
  obtain ⟨⟨D9, B9⟩, E9, H9⟩ := Option.bind_eq_some_iff.1 H8.out
  replace E9 := Aside0.mk E9
  replace H9 := Aside0.mk H9
  clear H8
  obtain ⟨q9, E10, H10⟩ := Option.bind_eq_some_iff.1 H9.out
  replace E10 := Aside0.mk E10
  replace H10 := Aside0.mk H10
  clear H9
  have HK := Aside0.mk (show ∀ w', Below w10.heap.size w10 w' → (fun w' => w'.cell? ⟨w.heap.size, 0, none⟩ = some (.slice A0_0 l0_0.length c0_0) ∧ w'.cell? ⟨w.heap.size, 1, none⟩ = some (.slice A0_1 l0_1.length c0_1) ∧ w'.cell? ⟨gb, 0, none⟩ = some (.slice A1_0 l1_0.length c1_0) ∧ w'.cell? ⟨gb, 1, none⟩ = some (.slice A1_1 l1_1.length c1_1) ∧ w'.cell? ⟨gx, 0, none⟩ = some (.slice X0 D6.length x0) ∧ w'.cell? ⟨gx, 1, none⟩ = some (.slice X1 B6.length x1) ∧ w'.cell? ⟨gy, 0, none⟩ = some (.slice Y0 D7.length y0) ∧ w'.cell? ⟨gy, 1, none⟩ = some (.slice Y1 B7.length y1) ∧ Below w10.heap.size w10 w') w' from fun w' h => ⟨(h.cell (blk_lt BA.out)).trans hBA0, (h.cell (blk_lt BA.out)).trans hBA1, (h.cell (blk_lt BB.out)).trans hBB0, (h.cell (blk_lt BB.out)).trans hBB1, (h.cell (blk_lt BX.out)).trans hBX0, (h.cell (blk_lt BX.out)).trans hBX1, (h.cell (blk_lt BY.out)).trans hBY0, (h.cell (blk_lt BY.out)).trans hBY1, h⟩)
  go_region_held3 (fun w' => w'.cell? ⟨w.heap.size, 0, none⟩ = some (.slice A0_0 l0_0.length c0_0) ∧ w'.cell? ⟨w.heap.size, 1, none⟩ = some (.slice A0_1 l0_1.length c0_1) ∧ w'.cell? ⟨gb, 0, none⟩ = some (.slice A1_0 l1_0.length c1_0) ∧ w'.cell? ⟨gb, 1, none⟩ = some (.slice A1_1 l1_1.length c1_1) ∧ w'.cell? ⟨gx, 0, none⟩ = some (.slice X0 D6.length x0) ∧ w'.cell? ⟨gx, 1, none⟩ = some (.slice X1 B6.length x1) ∧ w'.cell? ⟨gy, 0, none⟩ = some (.slice Y0 D7.length y0) ∧ w'.cell? ⟨gy, 1, none⟩ = some (.slice Y1 B7.length y1) ∧ Below w10.heap.size w10 w') (first | exact HK.out _ hbb | exact HK.out _ (below_drew1 (Below.refl _ _)) | exact HK.out _ (Below.refl _ _)) (first | (go_at_call 15; go_split_ands; (with_reducible refine (toTreeC.calls k A0_0 c0_0 l0_0 A0_1 c0_1 l0_1 D9 B9 _ (Kd.C_below HA0.out (below_step HB.out (show Below w10.heap.size w10 _ by assumption))) HCC.out.1.1 (Kd.C_below HA1.out (below_step HB.out (show Below w10.heap.size w10 _ by assumption))) HCC.out.1.2 E9.out).mono ?_); rintro e wz ⟨Z0, z0, Z1, z1, rfl, TZ, hb⟩; have hbb : Below w10.heap.size w10 _ := below_step (by assumption) hb) | (go_at_call 17; go_split_ands; (with_reducible refine (laws_eqTree.calls k X0 x0 D6 X1 x1 B6 Z0 z0 D9 Z1 z1 B9 q9 _ (TX.out.below (show Below w10.heap.size w10 _ by assumption)).d TX.out.hd (TX.out.below (show Below w10.heap.size w10 _ by assumption)).b TX.out.hb TZ.d TZ.hd TZ.b TZ.hb E10.out).mono ?_); rintro e w11 ⟨rfl, hb⟩; have hbb : Below w10.heap.size w10 _ := below_step (by assumption) hb))
  have hb := hbb
  clear hBA0 hBA1 hBB0 hBB1 hBX0 hBX1 hBY0 hBY1
  replace BA := Aside0.mk (blk_below BA.out hb)
  replace BB := Aside0.mk (blk_below BB.out hb)
  replace HB := Aside0.mk (below_step HB.out hb)
  replace TX := Aside0.mk (TX.out.below hb)
  replace BX := Aside0.mk (blk_below BX.out hb)
  replace TY := Aside0.mk (TY.out.below hb)
  replace BY := Aside0.mk (blk_below BY.out hb)
  clear hb HK
  clear TZ
  have hBA0 := (blk_cell BA.out 0).trans rfl
  have hBA1 := (blk_cell BA.out 1).trans rfl
  have hBB0 := (blk_cell BB.out 0).trans rfl
  have hBB1 := (blk_cell BB.out 1).trans rfl
  have hBX0 := (blk_cell BX.out 0).trans rfl
  have hBX1 := (blk_cell BX.out 1).trans rfl
  have hBY0 := (blk_cell BY.out 0).trans rfl
  have hBY1 := (blk_cell BY.out 1).trans rfl
  cases q9 with
  | false =>
    have HF := Aside0.mk (show r = false from by have := H10.out; rw [if_neg (by decide)] at this; exact (Option.some.inj this).symm)
    go_wp2_with fail
    go_ret
    exact ⟨by rw [HF.out]; rfl, HB.out⟩
  | true =>
  replace H10 := Aside0.mk (by have := H10.out; rwa [if_pos rfl] at this)
  go_wp2_with fail
  obtain ⟨⟨D11, B11⟩, E11, H11⟩ := Option.bind_eq_some_iff.1 H10.out
  replace E11 := Aside0.mk E11
  replace H11 := Aside0.mk H11
  clear H10
  obtain ⟨q11, E12, H12⟩ := Option.bind_eq_some_iff.1 H11.out
  replace E12 := Aside0.mk E12
  replace H12 := Aside0.mk H12
  clear H11
  have HK := Aside0.mk (show ∀ w', Below w11.heap.size w11 w' → (fun w' => w'.cell? ⟨w.heap.size, 0, none⟩ = some (.slice A0_0 l0_0.length c0_0) ∧ w'.cell? ⟨w.heap.size, 1, none⟩ = some (.slice A0_1 l0_1.length c0_1) ∧ w'.cell? ⟨gb, 0, none⟩ = some (.slice A1_0 l1_0.length c1_0) ∧ w'.cell? ⟨gb, 1, none⟩ = some (.slice A1_1 l1_1.length c1_1) ∧ w'.cell? ⟨gx, 0, none⟩ = some (.slice X0 D6.length x0) ∧ w'.cell? ⟨gx, 1, none⟩ = some (.slice X1 B6.length x1) ∧ w'.cell? ⟨gy, 0, none⟩ = some (.slice Y0 D7.length y0) ∧ w'.cell? ⟨gy, 1, none⟩ = some (.slice Y1 B7.length y1) ∧ Below w11.heap.size w11 w') w' from fun w' h => ⟨(h.cell (blk_lt BA.out)).trans hBA0, (h.cell (blk_lt BA.out)).trans hBA1, (h.cell (blk_lt BB.out)).trans hBB0, (h.cell (blk_lt BB.out)).trans hBB1, (h.cell (blk_lt BX.out)).trans hBX0, (h.cell (blk_lt BX.out)).trans hBX1, (h.cell (blk_lt BY.out)).trans hBY0, (h.cell (blk_lt BY.out)).trans hBY1, h⟩)
  go_region_held3 (fun w' => w'.cell? ⟨w.heap.size, 0, none⟩ = some (.slice A0_0 l0_0.length c0_0) ∧ w'.cell? ⟨w.heap.size, 1, none⟩ = some (.slice A0_1 l0_1.length c0_1) ∧ w'.cell? ⟨gb, 0, none⟩ = some (.slice A1_0 l1_0.length c1_0) ∧ w'.cell? ⟨gb, 1, none⟩ = some (.slice A1_1 l1_1.length c1_1) ∧ w'.cell? ⟨gx, 0, none⟩ = some (.slice X0 D6.length x0) ∧ w'.cell? ⟨gx, 1, none⟩ = some (.slice X1 B6.length x1) ∧ w'.cell? ⟨gy, 0, none⟩ = some (.slice Y0 D7.length y0) ∧ w'.cell? ⟨gy, 1, none⟩ = some (.slice Y1 B7.length y1) ∧ Below w11.heap.size w11 w') (first | exact HK.out _ hbb | exact HK.out _ (below_drew1 (Below.refl _ _)) | exact HK.out _ (Below.refl _ _)) (first | (go_at_call 15; go_split_ands; (with_reducible refine (toTreeC.calls k A1_0 c1_0 l1_0 A1_1 c1_1 l1_1 D11 B11 _ (Kd.C_below HE0.out (below_step HB.out (show Below w11.heap.size w11 _ by assumption))) HCC.out.2.1 (Kd.C_below HE1.out (below_step HB.out (show Below w11.heap.size w11 _ by assumption))) HCC.out.2.2 E11.out).mono ?_); rintro e wz ⟨Z0, z0, Z1, z1, rfl, TZ, hb⟩; have hbb : Below w11.heap.size w11 _ := below_step (by assumption) hb) | (go_at_call 17; go_split_ands; (with_reducible refine (laws_eqTree.calls k Y0 y0 D7 Y1 y1 B7 Z0 z0 D11 Z1 z1 B11 q11 _ (TY.out.below (show Below w11.heap.size w11 _ by assumption)).d TY.out.hd (TY.out.below (show Below w11.heap.size w11 _ by assumption)).b TY.out.hb TZ.d TZ.hd TZ.b TZ.hb E12.out).mono ?_); rintro e w12 ⟨rfl, hb⟩; have hbb : Below w11.heap.size w11 _ := below_step (by assumption) hb))
  have hb := hbb
  clear hBA0 hBA1 hBB0 hBB1 hBX0 hBX1 hBY0 hBY1
  replace BA := Aside0.mk (blk_below BA.out hb)
  replace BB := Aside0.mk (blk_below BB.out hb)
  replace HB := Aside0.mk (below_step HB.out hb)
  replace TX := Aside0.mk (TX.out.below hb)
  replace BX := Aside0.mk (blk_below BX.out hb)
  replace TY := Aside0.mk (TY.out.below hb)
  replace BY := Aside0.mk (blk_below BY.out hb)
  clear hb HK
  clear TZ
  have hBA0 := (blk_cell BA.out 0).trans rfl
  have hBA1 := (blk_cell BA.out 1).trans rfl
  have hBB0 := (blk_cell BB.out 0).trans rfl
  have hBB1 := (blk_cell BB.out 1).trans rfl
  have hBX0 := (blk_cell BX.out 0).trans rfl
  have hBX1 := (blk_cell BX.out 1).trans rfl
  have hBY0 := (blk_cell BY.out 0).trans rfl
  have hBY1 := (blk_cell BY.out 1).trans rfl
  cases q11 with
  | false =>
    have HF := Aside0.mk (show r = false from by have := H12.out; rw [if_neg (by decide)] at this; exact (Option.some.inj this).symm)
    go_wp2_with fail
    go_ret
    exact ⟨by rw [HF.out]; rfl, HB.out⟩
  | true =>
  have HF := Aside0.mk (show r = true from by have := H12.out; rw [if_pos rfl] at this; exact (Option.some.inj this).symm)
  go_wp2_with fail
  go_ret
  exact ⟨by rw [HF.out]; rfl, HB.out⟩
end Go.Proofs.Ytkadeelplnkpgaa.Q
