/- Walks of the Go functions that the laws call: each returns what a plain Lean function says. Written by a program for these claims. -/
import Derived.Test.YtohjpgcmhihdhaaGreatDoorQ0
import Derived.Test.YtohjpgcmhihdhaaGreatDoorQf33
import Derived.Test.YtohjpgcmhihdhaaGreatDoorQf53
namespace Go.Proofs.YtohjpgcmhihdhaaGreatDoor.Q
open Go.RowKit Go.Proofs.YtohjpgcmhihdhaaGreatDoorW.PrintWords Go.Proofs.YtohjpgcmhihdhaaGreatDoorW.PrintLast Go.Proofs.YtohjpgcmhihdhaaGreatDoorW.PrintMore
attribute [local go_sem] max2_int min2_int max_two min_two max_three min_three max_four min_four   -- for this text's walks alone
set_option linter.unusedVariables false
set_option linter.unusedSimpArgs false

/-! ### impl_Tree_devicesOk: function 32 -/
def impl_Tree_devicesOk.l0 : Nat → List (S57) → Int → Int → List (S57) → List (S49) → Option (Bool)
  | 0, _, _, _, _, _ => none
  | k + 1, x6, x7, x8, x283000, x283001 => if x8 < x7 then (if 0 ≤ x8 then (if x8 < (x6.length : Int) then ((impl_isNode.f ((rd_T57 x6 x8).f0)).bind fun t285 => (if t285 = true then (if x8 > 0 then (if 0 ≤ (wrap64 (x8 - 1)) then (if (wrap64 (x8 - 1)) < (x283000.length : Int) then (if ((rd_T57 x6 x8).f0) ≤ ((rd_T57 x283000 (wrap64 (x8 - 1))).f0) then (some false) else ((impl_between.f ((rd_T57 x6 x8).f1) 0 8).bind fun t287 => (if t287 = true then (impl_Tree_devicesOk.l0 k x6 x7 (wrap64 (x8 + 1)) x283000 x283001) else (some false)))) else (none)) else (none)) else ((impl_between.f ((rd_T57 x6 x8).f1) 0 8).bind fun t288 => (if t288 = true then (impl_Tree_devicesOk.l0 k x6 x7 (wrap64 (x8 + 1)) x283000 x283001) else (some false)))) else (some false))) else (none)) else (none)) else (some (decide ((x283000.length : Int) ≤ 16)))
def impl_Tree_devicesOk.f (k : Nat) (l0_0 : List (S57)) (l0_1 : List (S49)) : Option (Bool) := impl_Tree_devicesOk.l0 k l0_0 (l0_0.length : Int) 0 l0_0 l0_1
set_option maxHeartbeats 8000000 in
set_option maxRecDepth 100000 in
theorem impl_Tree_devicesOk.calls (k : Nat) (A0_0 : Option Addr) (c0_0 : Nat) (l0_0 : List (S57)) (A0_1 : Option Addr) (c0_1 : Nat) (l0_1 : List (S49)) (r : Bool) (w : World) (hr0_0 : Kd.C k57 w A0_0 l0_0.length l0_0) (hc0_0 : l0_0.length ≤ c0_0) (hr0_1 : Kd.C k49 w A0_1 l0_1.length l0_1) (hc0_1 : l0_1.length ≤ c0_1) (h : impl_Tree_devicesOk.f k l0_0 l0_1 = some r) :
    Calls Tryz.prog 32 #[.agg #[.slice A0_0 l0_0.length c0_0, .slice A0_1 l0_1.length c0_1]] w fun e w' => e = .returned (.bool r) ∧ Below w.heap.size w w' := by
  have hm := Kd.C_max hr0_0
  have HR := Aside0.mk hr0_0
  clear hr0_0 hc0_0 hr0_1 hc0_1
  unfold impl_Tree_devicesOk.f at h
  have H0 := Aside0.mk h
  clear h
  go_enter Tryz.func32, Tryz.ntmps32
  go_wp2_with fail
  have BK := Aside0.mk (blk_new w (.cells #[.slice A0_0 l0_0.length c0_0, .slice A0_1 l0_1.length c0_1] 25))
  have HB := Aside0.mk (below_alloc (Below.refl w.heap.size w) (.cells #[.slice A0_0 l0_0.length c0_0, .slice A0_1 l0_1.length c0_1] 25))
  generalize (w.alloc (.cells #[.slice A0_0 l0_0.length c0_0, .slice A0_1 l0_1.length c0_1] 25)) = w1 at BK HB ⊢
  obtain ⟨gt, hgt⟩ : ∃ g, g = w.heap.size := ⟨_, rfl⟩
  rw [← hgt] at BK ⊢
  clear hgt
  go_loopg [8] k (fun gg s8 wr => ∃ x : Int, s8 = .int .i64 x ∧ Aside0 (impl_Tree_devicesOk.l0 gg l0_0 (l0_0.length : Int) x l0_0 l0_1 = some r) ∧ Aside0 (wr.heap[gt]? = some (.cells #[.slice A0_0 l0_0.length c0_0, .slice A0_1 l0_1.length c0_1] 25 (0, 0))) ∧ Aside0 (Below w.heap.size w wr))
  case atStart => exact ⟨0, rfl, H0, BK, HB⟩
  case round =>
    clear H0 BK HB
    obtain ⟨x, rfl, HA, BK, HB⟩ := hrel
    have ht0 := (blk_cell BK.out 0).trans rfl
    cases gk with
    | zero => exact absurd HA.out (by simp [impl_Tree_devicesOk.l0])
    | succ k1 =>
    have H := HA.out
    clear HA
    simp only [impl_Tree_devicesOk.l0] at H
    by_cases c : x < (l0_0.length : Int)
    case neg =>
      rw [if_neg c] at H
      have HF := Aside0.mk (Option.some.inj H)
      have cb := decide_eq_false c
      clear H c
      go_wp2_with fail
      go_ret
      exact ⟨by rw [← HF.out]; simp, HB.out⟩
    rw [if_pos c] at H
    by_cases c0 : 0 ≤ x
    case neg => rw [if_neg c0] at H; cases H
    rw [if_pos c0, if_pos c] at H
    obtain ⟨t1, A1, H⟩ := Option.bind_eq_some_iff.1 H
    have A1 := Aside0.mk A1
    obtain ⟨ad, rfl, hx0, hx1⟩ := at_T57 HR.out x c0 c
    replace hx0 := (HB.out.cell (World.block_lt_of_cell? w _ hx0)).trans hx0
    replace hx1 := (HB.out.cell (World.block_lt_of_cell? w _ hx1)).trans hx1
    have HPV : Aside0 (∀ y, y = wrap64 (x - 1) → 0 ≤ y → y < (l0_0.length : Int) → w.cell? (ad.add (y.toNat * 2)) = some (.int .i64 (rd_T57 l0_0 y).f0)) := ⟨fun y _ h0 h1 => by
      obtain ⟨ad', e, hy, _⟩ := at_T57 HR.out y h0 h1
      cases e
      exact hy⟩
    have HH := Aside0.mk H
    have q0 := eq_true c0
    have q1 := eq_true c
    have hgl := blk_lt BK.out
    clear H
    generalize rd_T57 l0_0 x = b at A1 HH hx0 hx1
    go_wp2_with fail
    have HG := Aside0.mk (blk_new wr (.cells #[.int .i64 b.f0, .int .i64 b.f1] 57))
    have BK2 := Aside0.mk (blk_alloc BK.out (.cells #[.int .i64 b.f0, .int .i64 b.f1] 57))
    have HB2 := Aside0.mk (below_alloc HB.out (.cells #[.int .i64 b.f0, .int .i64 b.f1] 57))
    generalize (wr.alloc (.cells #[.int .i64 b.f0, .int .i64 b.f1] 57)) = W at HG BK2 HB2 ⊢
    generalize wr.heap.size = gb at HG ⊢
    clear BK HB hx0 hx1 ht0 hgl
    have hb0 := (blk_cell HG.out 0).trans rfl
    have hb1 := (blk_cell HG.out 1).trans rfl
    have ht0 := (blk_cell BK2.out 0).trans rfl
    cases t1 with
    | false =>
      have HF := Aside0.mk (Option.some.inj HH.out)
      clear HH
      go_quiet ((go_at_call 53; exact quietD (impl_isNode.calls _ _ _ A1.out)))
      go_wp2_with fail
      go_ret
      exact ⟨by rw [← HF.out]; rfl, pw_below_drewN HB2.out _⟩
    | true =>
    have H := HH.out
    clear HH
    rw [if_pos rfl] at H
    have hwx : wrap64 (x - 1) = x - 1 := by unfold wrap64; omega
    have hww : IntKind.i64.wrap (x - 1) = x - 1 := (i64_w _).trans hwx
    rw [show wrap64 (x + 1) = x + 1 from by unfold wrap64; omega] at H
    by_cases c5 : x > 0
    · rw [if_pos c5, hwx] at H
      have c5b := decide_eq_true (show 0 < x by omega)
      by_cases c6 : 0 ≤ x - 1
      case neg => omega
      by_cases c7 : x - 1 < (l0_0.length : Int)
      case neg => omega
      rw [if_pos c6, if_pos c7] at H
      have hp := HPV.out (x - 1) hwx.symm c6 c7
      replace hp := (HB2.out.cell (World.block_lt_of_cell? w _ hp)).trans hp
      have p6 := eq_true c6
      have p7 := eq_true c7
      clear hwx
      generalize rd_T57 l0_0 (x - 1) = pv at H hp
      have hpn := hp
      rw [show (x - 1).toNat = x.toNat - 1 from by omega] at hpn
      have p6n := eq_true (show 1 ≤ x by omega)
      have p7n := eq_true (show x ≤ (l0_0.length : Int) by omega)
      clear c5 c6 c7 HPV
      by_cases c9 : b.f0 ≤ pv.f0
      · rw [if_pos c9] at H
        have HF := Aside0.mk (Option.some.inj H)
        have c9b := decide_eq_true (show b.f0 ≤ pv.f0 from c9)
        clear H c9
        go_quiet ((go_at_call 53; exact quietD (impl_isNode.calls _ _ _ A1.out)))
        go_wp2_with fail
        go_ret
        exact ⟨by rw [← HF.out]; rfl, pw_below_drewN HB2.out _⟩
      rw [if_neg c9] at H
      have c9b := decide_eq_false (show ¬ b.f0 ≤ pv.f0 from c9)
      obtain ⟨t2, A2, H⟩ := Option.bind_eq_some_iff.1 H
      have A2 := Aside0.mk A2
      have HH := Aside0.mk H
      clear H c9
      cases t2 with
      | false =>
        have HF := Aside0.mk (Option.some.inj HH.out)
        clear HH
        go_quiet (first | (go_at_call 53; exact quietD (impl_isNode.calls _ _ _ A1.out)) | (go_at_call 33; exact quietD (impl_between.calls _ _ _ _ _ A2.out)))
        go_wp2_with fail
        go_ret
        exact ⟨by rw [← HF.out]; rfl, pw_below_drewN HB2.out _⟩
      | true =>
        have HN := Aside0.mk (show impl_Tree_devicesOk.l0 k1 l0_0 (l0_0.length : Int) (x + 1) l0_0 l0_1 = some r from by have := HH.out; rwa [if_pos rfl] at this)
        clear HH
        go_quiet (first | (go_at_call 53; exact quietD (impl_isNode.calls _ _ _ A1.out)) | (go_at_call 33; exact quietD (impl_between.calls _ _ _ _ _ A2.out)))
        clear hp hpn hww
        go_wp2_with fail
        go_roundg k1
        case measure => omega
        case rel => exact ⟨x + 1, rfl, HN, ⟨blk_drewN BK2.out _⟩, ⟨pw_below_drewN HB2.out _⟩⟩
    · rw [if_neg c5] at H
      have c5b := decide_eq_false (show ¬ 0 < x by omega)
      obtain ⟨t2, A2, H⟩ := Option.bind_eq_some_iff.1 H
      have A2 := Aside0.mk A2
      have HH := Aside0.mk H
      clear H c5 hwx hww HPV
      cases t2 with
      | false =>
        have HF := Aside0.mk (Option.some.inj HH.out)
        clear HH
        go_quiet (first | (go_at_call 53; exact quietD (impl_isNode.calls _ _ _ A1.out)) | (go_at_call 33; exact quietD (impl_between.calls _ _ _ _ _ A2.out)))
        go_wp2_with fail
        go_ret
        exact ⟨by rw [← HF.out]; rfl, pw_below_drewN HB2.out _⟩
      | true =>
        have HN := Aside0.mk (show impl_Tree_devicesOk.l0 k1 l0_0 (l0_0.length : Int) (x + 1) l0_0 l0_1 = some r from by have := HH.out; rwa [if_pos rfl] at this)
        clear HH
        go_quiet (first | (go_at_call 53; exact quietD (impl_isNode.calls _ _ _ A1.out)) | (go_at_call 33; exact quietD (impl_between.calls _ _ _ _ _ A2.out)))
        go_wp2_with fail
        go_roundg k1
        case measure => omega
        case rel => exact ⟨x + 1, rfl, HN, ⟨blk_drewN BK2.out _⟩, ⟨pw_below_drewN HB2.out _⟩⟩
end Go.Proofs.YtohjpgcmhihdhaaGreatDoor.Q
