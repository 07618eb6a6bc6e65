/- Walks of the Go functions that the laws call: each returns what a plain Lean function says. Written by a program for these claims. -/
import Derived.Test.YtohjpgcmhihdhaaGreatDoorQ0
import Derived.Test.YtohjpgcmhihdhaaGreatDoorQf57
namespace Go.Proofs.YtohjpgcmhihdhaaGreatDoor.Q
open Go.RowKit Go.Proofs.YtohjpgcmhihdhaaGreatDoorW.PrintWords Go.Proofs.YtohjpgcmhihdhaaGreatDoorW.PrintLast Go.Proofs.YtohjpgcmhihdhaaGreatDoorW.PrintMore
attribute [local go_sem] max2_int min2_int max_two min_two max_three min_three max_four min_four   -- for this text's walks alone
set_option linter.unusedVariables false
set_option linter.unusedSimpArgs false

/-! ### laws_eqBucket: function 40 -/
def laws_eqBucket.f (k : Nat) (a0_0 : Int) (a0_1 : Int) (l0_2 : List Int) (a1_0 : Int) (a1_1 : Int) (l1_2 : List Int) : Option (Bool) := if a0_0 = a1_0 then (if a0_1 = a1_1 then ((laws_eqInt64S.f k l0_2 l1_2).bind fun t301 => (if t301 = true then (some true) else (some false))) else (some false)) else (some false)
set_option maxHeartbeats 8000000 in
set_option maxRecDepth 100000 in
theorem laws_eqBucket.calls (k : Nat) (a0_0 : Int) (a0_1 : Int) (A0_2 : Option Addr) (c0_2 : Nat) (l0_2 : List Int) (a1_0 : Int) (a1_1 : Int) (A1_2 : Option Addr) (c1_2 : Nat) (l1_2 : List Int) (r : Bool) (w : World) (hr0_2 : Kd.C (Kd.int .i64) w A0_2 l0_2.length l0_2) (hc0_2 : l0_2.length ≤ c0_2) (hr1_2 : Kd.C (Kd.int .i64) w A1_2 l1_2.length l1_2) (hc1_2 : l1_2.length ≤ c1_2) (h : laws_eqBucket.f k a0_0 a0_1 l0_2 a1_0 a1_1 l1_2 = some r) :
    Calls Tryz.prog 40 #[.agg #[.int .i64 a0_0, .int .i64 a0_1, .slice A0_2 l0_2.length c0_2], .agg #[.int .i64 a1_0, .int .i64 a1_1, .slice A1_2 l1_2.length c1_2]] w fun e w' => e = .returned (.bool r) ∧ Below w.heap.size w w' := by
  have HA := Aside0.mk hr0_2
  have HCA := Aside0.mk hc0_2
  have HE := Aside0.mk hr1_2
  have HCE := Aside0.mk hc1_2
  clear hr0_2 hc0_2 hr1_2 hc1_2
  unfold laws_eqBucket.f at h
  by_cases c : a0_0 = a1_0
  case neg =>
    rw [if_neg c] at h
    obtain rfl := Option.some.inj h
    have eb : (a0_0 != a1_0) = true := by simpa using c
    have ec : (a0_0 == a1_0) = false := by simpa using c
    clear c h
    go_enter Tryz.func40, Tryz.ntmps40
    go_wp2_with fail
    go_ret
    exact ⟨rfl, below_alloc (below_alloc (Below.refl _ _) _) _⟩
  rw [if_pos c] at h
  have eb0 : (a0_0 != a1_0) = false := by simpa using c
  have ec0 : (a0_0 == a1_0) = true := by simpa using c
  clear c
  by_cases c : a0_1 = a1_1
  case neg =>
    rw [if_neg c] at h
    obtain rfl := Option.some.inj h
    have eb : (a0_1 != a1_1) = true := by simpa using c
    have ec : (a0_1 == a1_1) = false := by simpa using c
    clear c h
    go_enter Tryz.func40, Tryz.ntmps40
    go_wp2_with fail
    go_ret
    exact ⟨rfl, below_alloc (below_alloc (Below.refl _ _) _) _⟩
  rw [if_pos c] at h
  have eb1 : (a0_1 != a1_1) = false := by simpa using c
  have ec1 : (a0_1 == a1_1) = true := by simpa using c
  clear c
  have H := Aside0.mk h
  clear h
  have h := H.out
  clear H
  obtain ⟨t, E, h'⟩ := Option.bind_eq_some_iff.1 h
  clear h
  replace E := Aside0.mk E
  have H := Aside0.mk h'
  clear h'
  go_enter Tryz.func40, Tryz.ntmps40
  go_wp2_with fail
  have BA := Aside0.mk (blk_alloc (blk_new w (.cells #[.int .i64 a0_0, .int .i64 a0_1, .slice A0_2 l0_2.length c0_2] 49)) (.cells #[.int .i64 a1_0, .int .i64 a1_1, .slice A1_2 l1_2.length c1_2] 49))
  have BB := Aside0.mk (blk_new (w.alloc (.cells #[.int .i64 a0_0, .int .i64 a0_1, .slice A0_2 l0_2.length c0_2] 49)) (.cells #[.int .i64 a1_0, .int .i64 a1_1, .slice A1_2 l1_2.length c1_2] 49))
  have HB := Aside0.mk (below_alloc (below_alloc (Below.refl w.heap.size w) (.cells #[.int .i64 a0_0, .int .i64 a0_1, .slice A0_2 l0_2.length c0_2] 49)) (.cells #[.int .i64 a1_0, .int .i64 a1_1, .slice A1_2 l1_2.length c1_2] 49))
  have hs : (w.alloc (.cells #[.int .i64 a0_0, .int .i64 a0_1, .slice A0_2 l0_2.length c0_2] 49)).heap.size = w.heap.size + 1 := by unfold World.alloc; exact Array.size_push _
  rw [hs] at BB
  try rw [hs]
  clear hs
  generalize ((w.alloc (.cells #[.int .i64 a0_0, .int .i64 a0_1, .slice A0_2 l0_2.length c0_2] 49)).alloc (.cells #[.int .i64 a1_0, .int .i64 a1_1, .slice A1_2 l1_2.length c1_2] 49)) = w1 at BA BB HB ⊢
  generalize w.heap.size + 1 = gb at BB ⊢
  (with_reducible refine (laws_eqInt64S.calls k A0_2 c0_2 l0_2 A1_2 c1_2 l1_2 t _ (Kd.C_below HA.out HB.out) HCA.out (Kd.C_below HE.out HB.out) HCE.out E.out).mono ?_)
  rintro e w2 ⟨rfl, hd⟩
  have hb := hd.below
  clear hd
  replace BA := Aside0.mk (blk_below BA.out hb)
  replace BB := Aside0.mk (blk_below BB.out hb)
  replace HB := Aside0.mk (below_step HB.out hb)
  clear hb
  have hBA0 := (blk_cell BA.out 0).trans rfl
  have hBA1 := (blk_cell BA.out 1).trans rfl
  have hBA2 := (blk_cell BA.out 2).trans rfl
  have hBB0 := (blk_cell BB.out 0).trans rfl
  have hBB1 := (blk_cell BB.out 1).trans rfl
  have hBB2 := (blk_cell BB.out 2).trans rfl
  cases t with
  | false =>
    have HF := Aside0.mk (show r = false from by have := H.out; rw [if_neg (by decide)] at this; exact (Option.some.inj this).symm)
    go_wp2_with fail
    go_ret
    exact ⟨by rw [HF.out]; rfl, HB.out⟩
  | true =>
  have h := H.out
  clear H
  rw [if_pos rfl] at h
  have H := Aside0.mk h
  clear h
  have HF := Aside0.mk (Option.some.inj H.out)
  go_wp2_with fail
  go_ret
  exact ⟨by rw [← HF.out]; rfl, HB.out⟩
end Go.Proofs.YtohjpgcmhihdhaaGreatDoor.Q
