/- Walks of the Go functions that the laws call: each returns what a plain Lean function says. Written by a program for these claims. -/
import Derived.Test.YtohjpgcmhihdhaaGreatDoorQ0
import Derived.Test.YtohjpgcmhihdhaaGreatDoorQf16
import Derived.Test.YtohjpgcmhihdhaaGreatDoorQf17
namespace Go.Proofs.YtohjpgcmhihdhaaGreatDoor.Q
open Go.RowKit Go.Proofs.YtohjpgcmhihdhaaGreatDoorW.PrintWords Go.Proofs.YtohjpgcmhihdhaaGreatDoorW.PrintLast Go.Proofs.YtohjpgcmhihdhaaGreatDoorW.PrintMore
attribute [local go_sem] max2_int min2_int max_two min_two max_three min_three max_four min_four   -- for this text's walks alone
set_option linter.unusedVariables false
set_option linter.unusedSimpArgs false

/-! ### laws_eqTree: function 6 -/
def laws_eqTree.f (k : Nat) (l0_0 : List (S57)) (l0_1 : List (S49)) (l1_0 : List (S57)) (l1_1 : List (S49)) : Option (Bool) := (laws_eqDeviceS.f k l0_0 l1_0).bind fun t307 => (if t307 = true then ((laws_eqBucketS.f k l0_1 l1_1).bind fun t308 => (if t308 = true then (some true) else (some false))) else (some false))
set_option maxHeartbeats 8000000 in
set_option maxRecDepth 100000 in
theorem laws_eqTree.calls (k : Nat) (A0_0 : Option Addr) (c0_0 : Nat) (l0_0 : List (S57)) (A0_1 : Option Addr) (c0_1 : Nat) (l0_1 : List (S49)) (A1_0 : Option Addr) (c1_0 : Nat) (l1_0 : List (S57)) (A1_1 : Option Addr) (c1_1 : Nat) (l1_1 : List (S49)) (r : Bool) (w : World) (hr0_0 : Kd.C k57 w A0_0 l0_0.length l0_0) (hc0_0 : l0_0.length ≤ c0_0) (hr0_1 : Kd.C k49 w A0_1 l0_1.length l0_1) (hc0_1 : l0_1.length ≤ c0_1) (hr1_0 : Kd.C k57 w A1_0 l1_0.length l1_0) (hc1_0 : l1_0.length ≤ c1_0) (hr1_1 : Kd.C k49 w A1_1 l1_1.length l1_1) (hc1_1 : l1_1.length ≤ c1_1) (h : laws_eqTree.f k l0_0 l0_1 l1_0 l1_1 = some r) :
    Calls Tryz.prog 6 #[.agg #[.slice A0_0 l0_0.length c0_0, .slice A0_1 l0_1.length c0_1], .agg #[.slice A1_0 l1_0.length c1_0, .slice A1_1 l1_1.length c1_1]] w fun e w' => e = .returned (.bool r) ∧ Below w.heap.size w w' := by
  have HA0_0 := Aside0.mk hr0_0
  have HC0_0 := Aside0.mk hc0_0
  clear hr0_0 hc0_0
  have HA0_1 := Aside0.mk hr0_1
  have HC0_1 := Aside0.mk hc0_1
  clear hr0_1 hc0_1
  have HA1_0 := Aside0.mk hr1_0
  have HC1_0 := Aside0.mk hc1_0
  clear hr1_0 hc1_0
  have HA1_1 := Aside0.mk hr1_1
  have HC1_1 := Aside0.mk hc1_1
  clear hr1_1 hc1_1
  unfold laws_eqTree.f at h
  have H := Aside0.mk h
  clear h
  go_enter Tryz.func6, Tryz.ntmps6
  go_wp2_with fail
  have BA := Aside0.mk (blk_alloc (blk_new w (.cells #[.slice A0_0 l0_0.length c0_0, .slice A0_1 l0_1.length c0_1] 25)) (.cells #[.slice A1_0 l1_0.length c1_0, .slice A1_1 l1_1.length c1_1] 25))
  have BB := Aside0.mk (blk_new (w.alloc (.cells #[.slice A0_0 l0_0.length c0_0, .slice A0_1 l0_1.length c0_1] 25)) (.cells #[.slice A1_0 l1_0.length c1_0, .slice A1_1 l1_1.length c1_1] 25))
  have HB := Aside0.mk (below_alloc (below_alloc (Below.refl w.heap.size w) (.cells #[.slice A0_0 l0_0.length c0_0, .slice A0_1 l0_1.length c0_1] 25)) (.cells #[.slice A1_0 l1_0.length c1_0, .slice A1_1 l1_1.length c1_1] 25))
  have hs : (w.alloc (.cells #[.slice A0_0 l0_0.length c0_0, .slice A0_1 l0_1.length c0_1] 25)).heap.size = w.heap.size + 1 := by unfold World.alloc; exact Array.size_push _
  rw [hs] at BB
  try rw [hs]
  clear hs
  generalize ((w.alloc (.cells #[.slice A0_0 l0_0.length c0_0, .slice A0_1 l0_1.length c0_1] 25)).alloc (.cells #[.slice A1_0 l1_0.length c1_0, .slice A1_1 l1_1.length c1_1] 25)) = w1 at BA BB HB ⊢
  generalize w.heap.size + 1 = gb at BB ⊢
  have hBA0 := (blk_cell BA.out 0).trans rfl
  have hBA1 := (blk_cell BA.out 1).trans rfl
  have hBB0 := (blk_cell BB.out 0).trans rfl
  have hBB1 := (blk_cell BB.out 1).trans rfl
  have h := H.out
  clear H
  obtain ⟨t0, E0, h'⟩ := Option.bind_eq_some_iff.1 h
  clear h
  replace E0 := Aside0.mk E0
  have H := Aside0.mk h'
  clear h'
  go_wp2_with fail
  (with_reducible refine (laws_eqDeviceS.calls k A0_0 c0_0 l0_0 A1_0 c1_0 l1_0 t0 _ (Kd.C_below HA0_0.out HB.out) HC0_0.out (Kd.C_below HA1_0.out HB.out) HC1_0.out E0.out).mono ?_)
  rintro e w2 ⟨rfl, hb⟩
  clear hBA0 hBA1 hBB0 hBB1
  replace BA := Aside0.mk (blk_below BA.out hb)
  replace BB := Aside0.mk (blk_below BB.out hb)
  replace HB := Aside0.mk (below_step HB.out hb)
  clear hb
  have hBA0 := (blk_cell BA.out 0).trans rfl
  have hBA1 := (blk_cell BA.out 1).trans rfl
  have hBB0 := (blk_cell BB.out 0).trans rfl
  have hBB1 := (blk_cell BB.out 1).trans rfl
  cases t0 with
  | false =>
    have HF := Aside0.mk (show r = false from by have := H.out; rw [if_neg (by decide)] at this; exact (Option.some.inj this).symm)
    go_wp2_with fail
    go_ret
    exact ⟨by rw [HF.out]; rfl, HB.out⟩
  | true =>
  have h := H.out
  clear H
  rw [if_pos rfl] at h
  have H := Aside0.mk h
  clear h
  have h := H.out
  clear H
  obtain ⟨t1, E1, h'⟩ := Option.bind_eq_some_iff.1 h
  clear h
  replace E1 := Aside0.mk E1
  have H := Aside0.mk h'
  clear h'
  go_wp2_with fail
  (with_reducible refine (laws_eqBucketS.calls k A0_1 c0_1 l0_1 A1_1 c1_1 l1_1 t1 _ (Kd.C_below HA0_1.out HB.out) HC0_1.out (Kd.C_below HA1_1.out HB.out) HC1_1.out E1.out).mono ?_)
  rintro e w3 ⟨rfl, hb⟩
  clear hBA0 hBA1 hBB0 hBB1
  replace BA := Aside0.mk (blk_below BA.out hb)
  replace BB := Aside0.mk (blk_below BB.out hb)
  replace HB := Aside0.mk (below_step HB.out hb)
  clear hb
  have hBA0 := (blk_cell BA.out 0).trans rfl
  have hBA1 := (blk_cell BA.out 1).trans rfl
  have hBB0 := (blk_cell BB.out 0).trans rfl
  have hBB1 := (blk_cell BB.out 1).trans rfl
  cases t1 with
  | false =>
    have HF := Aside0.mk (show r = false from by have := H.out; rw [if_neg (by decide)] at this; exact (Option.some.inj this).symm)
    go_wp2_with fail
    go_ret
    exact ⟨by rw [HF.out]; rfl, HB.out⟩
  | true =>
  have h := H.out
  clear H
  rw [if_pos rfl] at h
  have H := Aside0.mk h
  clear h
  have HF := Aside0.mk (Option.some.inj H.out)
  go_wp2_with fail
  go_ret
  exact ⟨by rw [← HF.out]; rfl, HB.out⟩
end Go.Proofs.YtohjpgcmhihdhaaGreatDoor.Q
