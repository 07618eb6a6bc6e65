/- Walks of the Go functions that the laws call: each returns what a plain Lean function says. Written by a program for these claims. -/
import Derived.Test.YtohjpgcmhihdhaaGreatDoorQ0
import Derived.Test.YtohjpgcmhihdhaaGreatDoorQf39
namespace Go.Proofs.YtohjpgcmhihdhaaGreatDoor.Q
open Go.RowKit Go.Proofs.YtohjpgcmhihdhaaGreatDoorW.PrintWords Go.Proofs.YtohjpgcmhihdhaaGreatDoorW.PrintLast Go.Proofs.YtohjpgcmhihdhaaGreatDoorW.PrintMore
attribute [local go_sem] max2_int min2_int max_two min_two max_three min_three max_four min_four   -- for this text's walks alone
set_option linter.unusedVariables false
set_option linter.unusedSimpArgs false

/-! ### laws_eqDeviceS: function 16 -/
def laws_eqDeviceS.l0 : Nat → List (S57) → List (S57) → Int → Option (Bool)
  | 0, _, _, _ => none
  | k + 1, x0, x1, x5 => if x5 < (x0.length : Int) then (if 0 ≤ x5 then (if x5 < (x1.length : Int) then ((laws_eqDevice.f ((rd_T57 x0 x5).f0) ((rd_T57 x0 x5).f1) ((rd_T57 x1 x5).f0) ((rd_T57 x1 x5).f1)).bind fun t296 => (if t296 = true then (laws_eqDeviceS.l0 k x0 x1 (wrap64 (x5 + 1))) else (some false))) else (none)) else (none)) else (some true)
def laws_eqDeviceS.f (k : Nat) (l0 : List (S57)) (l1 : List (S57)) : Option (Bool) := if (l0.length : Int) = (l1.length : Int) then (laws_eqDeviceS.l0 k l0 l1 0) else (some false)
set_option maxHeartbeats 8000000 in
set_option maxRecDepth 100000 in
theorem laws_eqDeviceS.calls (k : Nat) (A0 : Option Addr) (c0 : Nat) (l0 : List (S57)) (A1 : Option Addr) (c1 : Nat) (l1 : List (S57)) (r : Bool) (w : World) (hr0 : Kd.C k57 w A0 l0.length l0) (hc0 : l0.length ≤ c0) (hr1 : Kd.C k57 w A1 l1.length l1) (hc1 : l1.length ≤ c1) (h : laws_eqDeviceS.f k l0 l1 = some r) :
    Calls Tryz.prog 16 #[.slice A0 l0.length c0, .slice A1 l1.length c1] w fun e w' => e = .returned (.bool r) ∧ Below w.heap.size w w' := by
  have HR0 := Aside0.mk hr0
  have HR1 := Aside0.mk hr1
  have hm := Kd.C_max hr0
  clear hr0 hc0 hr1 hc1
  unfold laws_eqDeviceS.f at h
  by_cases cl : (l0.length : Int) = (l1.length : Int)
  case neg =>
    rw [if_neg cl] at h
    obtain rfl := Option.some.inj h
    have cb : ((l0.length : Int) != (l1.length : Int)) = true := by simpa using cl
    have cn : (l0.length == l1.length) = false := by simp; omega
    clear h cl
    go_enter Tryz.func16, Tryz.ntmps16
    go_wp2_with fail
    go_ret
    exact ⟨rfl, Below.refl _ _⟩
  rw [if_pos cl] at h
  have cb : ((l0.length : Int) != (l1.length : Int)) = false := by simpa using cl
  have cn : (l0.length == l1.length) = true := by simp; omega
  have H0 := Aside0.mk h
  clear h
  go_enter Tryz.func16, Tryz.ntmps16
  go_wp2_with fail
  clear cb cn
  go_loopg [5] k (fun gg s5 wr => ∃ x : Int, s5 = .int .i64 x ∧ Aside0 (laws_eqDeviceS.l0 gg l0 l1 x = some r) ∧ Aside0 (gg ≤ k) ∧ Aside0 (Below w.heap.size w wr))
  case atStart => exact ⟨0, rfl, H0, ⟨Nat.le_refl _⟩, ⟨Below.refl _ _⟩⟩
  case round =>
    clear H0
    obtain ⟨x, rfl, H1, HGG, HB⟩ := hrel
    cases gk with
    | zero => exact absurd H1.out (by simp [laws_eqDeviceS.l0])
    | succ k1 =>
    have H := H1.out
    clear H1
    simp only [laws_eqDeviceS.l0] at H
    by_cases c : x < (l0.length : Int)
    case neg =>
      rw [if_neg c] at H
      have HF := Aside0.mk (Option.some.inj H)
      have cb := decide_eq_false c
      clear H c cl
      go_wp2_with fail
      go_ret
      exact ⟨by rw [← HF.out]; rfl, HB.out⟩
    rw [if_pos c] at H
    by_cases c0 : 0 ≤ x
    case neg => rw [if_neg c0] at H; cases H
    by_cases c2 : x < (l1.length : Int)
    case neg => omega
    rw [if_pos c0, if_pos c2] at H
    obtain ⟨da, rfl, ha0, ha1⟩ := at_T57 HR0.out x c0 c
    obtain ⟨db, rfl, hb0, hb1⟩ := at_T57 HR1.out x c0 c2
    replace ha0 := (HB.out.cell (World.block_lt_of_cell? w _ ha0)).trans ha0
    replace ha1 := (HB.out.cell (World.block_lt_of_cell? w _ ha1)).trans ha1
    replace hb0 := (HB.out.cell (World.block_lt_of_cell? w _ hb0)).trans hb0
    replace hb1 := (HB.out.cell (World.block_lt_of_cell? w _ hb1)).trans hb1
    rw [show wrap64 (x + 1) = x + 1 from by unfold wrap64; omega] at H
    have q0 := eq_true c0
    have q1 := eq_true c
    have q2 := eq_true c2
    generalize rd_T57 l0 x = a at H ha0 ha1
    generalize rd_T57 l1 x = b at H hb0 hb1
    obtain ⟨t, E, H'⟩ := Option.bind_eq_some_iff.1 H
    clear H
    replace E := Aside0.mk E
    have H := Aside0.mk H'
    clear H' cl c2
    go_wp2_with fail
    have HK := Aside0.mk (show ∀ w', Below wr.heap.size wr w' → (fun w' => w'.cell? (da.add (x.toNat * 2)) = some (.int .i64 a.f0) ∧ w'.cell? ⟨(da.add (x.toNat * 2)).block, (da.add (x.toNat * 2)).off + 1, none⟩ = some (.int .i64 a.f1) ∧ w'.cell? (db.add (x.toNat * 2)) = some (.int .i64 b.f0) ∧ w'.cell? ⟨(db.add (x.toNat * 2)).block, (db.add (x.toNat * 2)).off + 1, none⟩ = some (.int .i64 b.f1) ∧ Below wr.heap.size wr w') w' from fun w' h => ⟨(h.cell (World.block_lt_of_cell? _ _ ha0)).trans ha0, (h.cell (World.block_lt_of_cell? _ _ ha1)).trans ha1, (h.cell (World.block_lt_of_cell? _ _ hb0)).trans hb0, (h.cell (World.block_lt_of_cell? _ _ hb1)).trans hb1, h⟩)
    go_region_held3 (fun w' => w'.cell? (da.add (x.toNat * 2)) = some (.int .i64 a.f0) ∧ w'.cell? ⟨(da.add (x.toNat * 2)).block, (da.add (x.toNat * 2)).off + 1, none⟩ = some (.int .i64 a.f1) ∧ w'.cell? (db.add (x.toNat * 2)) = some (.int .i64 b.f0) ∧ w'.cell? ⟨(db.add (x.toNat * 2)).block, (db.add (x.toNat * 2)).off + 1, none⟩ = some (.int .i64 b.f1) ∧ Below wr.heap.size wr w') (first | exact HK.out _ hbb | exact HK.out _ (below_drew1 (Below.refl _ _)) | exact HK.out _ (Below.refl _ _)) (first | (go_at_call 39; go_split_ands; (with_reducible refine (laws_eqDevice.calls a.f0 a.f1 b.f0 b.f1 t _ E.out).mono ?_); rintro e w3 ⟨rfl, hb⟩; have hbb : Below wr.heap.size wr _ := below_step (by assumption) hb))
    replace HB := Aside0.mk (below_step HB.out hbb)
    clear HK hbb ha0 ha1 hb0 hb1
    cases t with
    | false =>
      have HF := Aside0.mk (show r = false from by have := H.out; rw [if_neg (by decide)] at this; exact (Option.some.inj this).symm)
      go_wp2_with fail
      go_ret
      exact ⟨by rw [HF.out]; rfl, HB.out⟩
    | true =>
    have h := H.out
    clear H
    rw [if_pos rfl] at h
    have H := Aside0.mk h
    clear h
    go_wp2_with fail
    go_roundg k1
    case measure => omega
    case rel => exact ⟨x + 1, by first | rfl | go_num, H, ⟨Nat.le_trans (Nat.le_succ _) HGG.out⟩, HB⟩
end Go.Proofs.YtohjpgcmhihdhaaGreatDoor.Q
