/- Walks of the Go functions that the laws call: each returns what a plain Lean function says. Written by a program for these claims. -/
import Derived.Test.YtkadeelplnkpgaaQ0
import Derived.Test.YtkadeelplnkpgaaQe0
import Derived.Test.YtkadeelplnkpgaaQf93
namespace Go.Proofs.Ytkadeelplnkpgaa.Q
open Go.RowKit Go.Proofs.YtkadeelplnkpgaaW.PrintWords Go.Proofs.YtkadeelplnkpgaaW.PrintLast Go.Proofs.YtkadeelplnkpgaaW.PrintMore
attribute [local go_sem] max2_int min2_int max_two min_two max_three min_three max_four min_four   -- for this text's walks alone
set_option linter.unusedVariables false
set_option linter.unusedSimpArgs false

attribute [local go_sem high] eqA50
/-! ### spec_l06Same: function 51 -/
mutual
def spec_l06Same.j0 : Nat → Bool → List (S50) → List (S108) → List (S50) → List (S108) → Option (Bool)
  | 0, _, _, _, _, _ => none
  | k + 1, x22, x155000, x155001, x156000, x156001 => if x22 = true then (some false) else (spec_l06Same.l0 k 0 x155000 x155001 x156000 x156001)
def spec_l06Same.l0 : Nat → Int → List (S50) → List (S108) → List (S50) → List (S108) → Option (Bool)
  | 0, _, _, _, _, _ => none
  | k + 1, x5, x155000, x155001, x156000, x156001 => if x5 < (x155000.length : Int) then (if 0 ≤ x5 then (if x5 < (x156000.length : Int) then (if (!(((rd_T50 x155000 x5).f0) == ((rd_T50 x156000 x5).f0)) || (!(((rd_T50 x155000 x5).f1) == ((rd_T50 x156000 x5).f1)))) = true then (some false) else (spec_l06Same.l0 k (wrap64 (x5 + 1)) x155000 x155001 x156000 x156001)) else (none)) else (none)) else (spec_l06Same.l1 k 0 x155000 x155001 x156000 x156001)
def spec_l06Same.l1 : Nat → Int → List (S50) → List (S108) → List (S50) → List (S108) → Option (Bool)
  | 0, _, _, _, _, _ => none
  | k + 1, x6, x155000, x155001, x156000, x156001 => if x6 < (x155001.length : Int) then (if 0 ≤ x6 then (if x6 < (x156001.length : Int) then (if ((rd_T108 x155001 x6).f0) = ((rd_T108 x156001 x6).f0) then (if ((rd_T108 x155001 x6).f1) = ((rd_T108 x156001 x6).f1) then ((spec_l00Same.f k ((rd_T108 x155001 x6).f2) ((rd_T108 x156001 x6).f2)).bind fun t164 => (if t164 = true then (spec_l06Same.l1 k (wrap64 (x6 + 1)) x155000 x155001 x156000 x156001) else (some false))) else (some false)) else (some false)) else (none)) else (none)) else (some true)
end
def spec_l06Same.f (k : Nat) (l0_0 : List (S50)) (l0_1 : List (S108)) (l1_0 : List (S50)) (l1_1 : List (S108)) : Option (Bool) := if (l0_0.length : Int) = (l1_0.length : Int) then (spec_l06Same.j0 k ((l0_1.length : Int) != (l1_1.length : Int)) l0_0 l0_1 l1_0 l1_1) else (spec_l06Same.j0 k true l0_0 l0_1 l1_0 l1_1)
set_option maxHeartbeats 8000000 in
set_option maxRecDepth 100000 in
theorem spec_l06Same.calls (k : Nat) (A0_0 : Option Addr) (c0_0 : Nat) (l0_0 : List (S50)) (A0_1 : Option Addr) (c0_1 : Nat) (l0_1 : List (S108)) (A1_0 : Option Addr) (c1_0 : Nat) (l1_0 : List (S50)) (A1_1 : Option Addr) (c1_1 : Nat) (l1_1 : List (S108)) (r : Bool) (w : World) (hr0_0 : Kd.C k50 w A0_0 l0_0.length l0_0) (hc0_0 : l0_0.length ≤ c0_0) (hr0_1 : Kd.C k108 w A0_1 l0_1.length l0_1) (hc0_1 : l0_1.length ≤ c0_1) (hr1_0 : Kd.C k50 w A1_0 l1_0.length l1_0) (hc1_0 : l1_0.length ≤ c1_0) (hr1_1 : Kd.C k108 w A1_1 l1_1.length l1_1) (hc1_1 : l1_1.length ≤ c1_1) (h : spec_l06Same.f k l0_0 l0_1 l1_0 l1_1 = some r) :
    Calls Try.prog 51 #[.agg #[.slice A0_0 l0_0.length c0_0, .slice A0_1 l0_1.length c0_1], .agg #[.slice A1_0 l1_0.length c1_0, .slice A1_1 l1_1.length c1_1]] w fun e w' => e = .returned (.bool r) ∧ Below w.heap.size w w' := by
  have hm := Kd.C_max hr0_0
  have hm1 := Kd.C_max hr0_1
  have HR0 := Aside0.mk hr0_0
  have HR1 := Aside0.mk hr1_0
  have HS0 := Aside0.mk hr0_1
  have HS1 := Aside0.mk hr1_1
  clear hr0_0 hc0_0 hr0_1 hc0_1 hr1_0 hc1_0 hr1_1 hc1_1
  unfold spec_l06Same.f at h
  cases k with
  | zero => exact absurd h (by simp [spec_l06Same.j0])
  | succ k0 =>
  simp only [spec_l06Same.j0] at h
  by_cases cD : (l0_0.length : Int) = (l1_0.length : Int)
  case neg =>
    rw [if_neg cD] at h
    have HF := Aside0.mk (show r = false from by simpa using h.symm)
    have cb : ((l0_0.length : Int) != (l1_0.length : Int)) = true := by simpa using cD
    have cn : (l0_0.length == l1_0.length) = false := by simp; omega
    clear h cD
    go_enter Try.func51, Try.ntmps51
    go_wp2_with fail
    go_ret
    exact ⟨by rw [HF.out]; rfl, below_alloc (below_alloc (Below.refl _ _) _) _⟩
  rw [if_pos cD] at h
  have cDb : ((l0_0.length : Int) != (l1_0.length : Int)) = false := by simpa using cD
  have cDn : (l0_0.length == l1_0.length) = true := by simp; omega
  by_cases cB : (l0_1.length : Int) = (l1_1.length : Int)
  case neg =>
    have cb : ((l0_1.length : Int) != (l1_1.length : Int)) = true := by simpa using cB
    have cn : (l0_1.length == l1_1.length) = false := by simp; omega
    rw [cb, if_pos rfl] at h
    have HF := Aside0.mk (show r = false from by simpa using h.symm)
    clear h cD cB
    go_enter Try.func51, Try.ntmps51
    go_wp2_with fail
    go_ret
    exact ⟨by rw [HF.out]; rfl, below_alloc (below_alloc (Below.refl _ _) _) _⟩
  have cBb : ((l0_1.length : Int) != (l1_1.length : Int)) = false := by simpa using cB
  have cBn : (l0_1.length == l1_1.length) = true := by simp; omega
  rw [cBb, if_neg (by decide)] at h
  have H0 := Aside0.mk h
  clear h
  go_enter Try.func51, Try.ntmps51
  go_wp2_with fail
  have HA := Aside0.mk (blk_alloc (blk_new w (.cells #[.slice A0_0 l0_0.length c0_0, .slice A0_1 l0_1.length c0_1] 31)) (.cells #[.slice A1_0 l1_0.length c1_0, .slice A1_1 l1_1.length c1_1] 31))
  have HBB := Aside0.mk (blk_new (w.alloc (.cells #[.slice A0_0 l0_0.length c0_0, .slice A0_1 l0_1.length c0_1] 31)) (.cells #[.slice A1_0 l1_0.length c1_0, .slice A1_1 l1_1.length c1_1] 31))
  have HW := Aside0.mk (below_alloc (below_alloc (Below.refl w.heap.size w) (.cells #[.slice A0_0 l0_0.length c0_0, .slice A0_1 l0_1.length c0_1] 31)) (.cells #[.slice A1_0 l1_0.length c1_0, .slice A1_1 l1_1.length c1_1] 31))
  have hs : (w.alloc (.cells #[.slice A0_0 l0_0.length c0_0, .slice A0_1 l0_1.length c0_1] 31)).heap.size = w.heap.size + 1 := by unfold World.alloc; exact Array.size_push _
  rw [hs] at HBB
  clear hs
  generalize ((w.alloc (.cells #[.slice A0_0 l0_0.length c0_0, .slice A0_1 l0_1.length c0_1] 31)).alloc (.cells #[.slice A1_0 l1_0.length c1_0, .slice A1_1 l1_1.length c1_1] 31)) = W at HA HBB HW ⊢
  obtain ⟨ga, hga⟩ : ∃ g, g = w.heap.size := ⟨_, rfl⟩
  rw [← hga] at HA HBB ⊢
  clear hga
  generalize ga + 1 = gb at HBB ⊢
  have ha0 := (blk_cell HA.out 0).trans rfl
  have ha1 := (blk_cell HA.out 1).trans rfl
  have hb0 := (blk_cell HBB.out 0).trans rfl
  have hb1 := (blk_cell HBB.out 1).trans rfl
  clear ha0 ha1 hb0 hb1 cDb cDn cBb cBn
  go_loopg [5] k0 (fun gg s5 wr => ∃ x : Int, s5 = .int .i64 x ∧ Aside0 (spec_l06Same.l0 gg x l0_0 l0_1 l1_0 l1_1 = some r) ∧ Aside0 (gg ≤ k0) ∧ Aside0 (wr.heap[ga]? = some (.cells #[.slice A0_0 l0_0.length c0_0, .slice A0_1 l0_1.length c0_1] 31 (0, 0))) ∧ Aside0 (wr.heap[gb]? = some (.cells #[.slice A1_0 l1_0.length c1_0, .slice A1_1 l1_1.length c1_1] 31 (0, 0))) ∧ Aside0 (Below w.heap.size w wr))
  case atStart => exact ⟨0, rfl, H0, ⟨Nat.le_refl _⟩, HA, HBB, HW⟩
  case round =>
    clear H0 HA HBB HW
    obtain ⟨x, rfl, H1, HGG, HA, HBB, HW⟩ := hrel
    have ha0 := (blk_cell HA.out 0).trans rfl
    have ha1 := (blk_cell HA.out 1).trans rfl
    have hb0 := (blk_cell HBB.out 0).trans rfl
    have hb1 := (blk_cell HBB.out 1).trans rfl
    cases gk with
    | zero => exact absurd H1.out (by simp [spec_l06Same.l0])
    | succ k1 =>
    have H := H1.out
    clear H1
    simp only [spec_l06Same.l0] at H
    by_cases c : x < (l0_0.length : Int)
    · rw [if_pos c] at H
      by_cases c0 : 0 ≤ x
      case neg => rw [if_neg c0] at H; cases H
      by_cases c2 : x < (l1_0.length : Int)
      case neg => omega
      rw [if_pos c0, if_pos c2] at H
      obtain ⟨ad, rfl, hx0, hx1⟩ := at_T50 HR0.out x c0 c
      obtain ⟨ae, rfl, hy0, hy1⟩ := at_T50 HR1.out x c0 c2
      replace hx0 := (HW.out.cell (World.block_lt_of_cell? w _ hx0)).trans hx0
      replace hx1 := (HW.out.cell (World.block_lt_of_cell? w _ hx1)).trans hx1
      replace hy0 := (HW.out.cell (World.block_lt_of_cell? w _ hy0)).trans hy0
      replace hy1 := (HW.out.cell (World.block_lt_of_cell? w _ hy1)).trans hy1
      rw [show wrap64 (x + 1) = x + 1 from by unfold wrap64; omega] at H
      have q0 := eq_true c0
      have q1 := eq_true c
      have q2 := eq_true c2
      generalize rd_T50 l0_0 x = a at H hx0 hx1
      generalize rd_T50 l1_0 x = b at H hy0 hy1
      clear c2
      by_cases e : (!(a.f0 == b.f0) || !(a.f1 == b.f1)) = true
      · rw [if_pos e] at H
        have HF := Aside0.mk (Option.some.inj H)
        have eb := e
        clear H e cD cB
        go_wp2_with fail
        repeat (go_quiet (fail); try go_wp2_with fail)
        go_wp2_with fail
        go_ret
        exact ⟨by rw [← HF.out]; rfl, pw_below_drewN HW.out _⟩
      · rw [if_neg e] at H
        have HN := Aside0.mk H
        have eb : (!(a.f0 == b.f0) || !(a.f1 == b.f1)) = false := by simpa using e
        clear H e cD cB
        go_wp2_with fail
        repeat (go_quiet (fail); try go_wp2_with fail)
        clear hx0 hx1 hy0 hy1
        go_wp2_with fail
        go_roundg k1
        case measure => omega
        case rel => exact ⟨x + 1, rfl, HN, ⟨Nat.le_trans (Nat.le_succ _) HGG.out⟩, ⟨blk_drewN HA.out _⟩, ⟨blk_drewN HBB.out _⟩, ⟨pw_below_drewN HW.out _⟩⟩
    · rw [if_neg c] at H
      have HN := Aside0.mk H
      have cb := decide_eq_false c
      clear H c cD
      go_wp2_with fail
      clear ha0 ha1 hb0 hb1
      go_loopg [6] k1 (fun gg s6 wq => ∃ y : Int, s6 = .int .i64 y ∧ Aside0 (spec_l06Same.l1 gg y l0_0 l0_1 l1_0 l1_1 = some r) ∧ Aside0 (wq.heap[ga]? = some (.cells #[.slice A0_0 l0_0.length c0_0, .slice A0_1 l0_1.length c0_1] 31 (0, 0))) ∧ Aside0 (wq.heap[gb]? = some (.cells #[.slice A1_0 l1_0.length c1_0, .slice A1_1 l1_1.length c1_1] 31 (0, 0))) ∧ Aside0 (Below w.heap.size w wq))
      case atStart => exact ⟨0, rfl, HN, HA, HBB, HW⟩
      case round =>
        clear HN HA HBB HW
        obtain ⟨y, rfl, H1, HA, HBB, HW⟩ := hrel
        have ha0 := (blk_cell HA.out 0).trans rfl
        have ha1 := (blk_cell HA.out 1).trans rfl
        have hb0 := (blk_cell HBB.out 0).trans rfl
        have hb1 := (blk_cell HBB.out 1).trans rfl
        cases gk with
        | zero => exact absurd H1.out (by simp [spec_l06Same.l1])
        | succ k2 =>
        have H := H1.out
        clear H1
        simp only [spec_l06Same.l1] at H
        by_cases c : y < (l0_1.length : Int)
        case neg =>
          rw [if_neg c] at H
          have HF := Aside0.mk (Option.some.inj H)
          have cb := decide_eq_false c
          clear H c cB
          go_wp2_with fail
          go_ret
          exact ⟨by rw [← HF.out]; rfl, HW.out⟩
        rw [if_pos c] at H
        by_cases c0 : 0 ≤ y
        case neg => rw [if_neg c0] at H; cases H
        by_cases c2 : y < (l1_1.length : Int)
        case neg => omega
        rw [if_pos c0, if_pos c2] at H
        obtain ⟨ad, A3, c3, rfl, hx0, hx1, hx2, hl3, hg3⟩ := at_T108 HS0.out y c0 c
        obtain ⟨ae, A4, c4, rfl, hy0, hy1, hy2, hl4, hg4⟩ := at_T108 HS1.out y c0 c2
        replace hx0 := (HW.out.cell (World.block_lt_of_cell? w _ hx0)).trans hx0
        replace hx1 := (HW.out.cell (World.block_lt_of_cell? w _ hx1)).trans hx1
        replace hx2 := (HW.out.cell (World.block_lt_of_cell? w _ hx2)).trans hx2
        replace hy0 := (HW.out.cell (World.block_lt_of_cell? w _ hy0)).trans hy0
        replace hy1 := (HW.out.cell (World.block_lt_of_cell? w _ hy1)).trans hy1
        replace hy2 := (HW.out.cell (World.block_lt_of_cell? w _ hy2)).trans hy2
        rw [show wrap64 (y + 1) = y + 1 from by unfold wrap64; omega] at H
        have q0 := eq_true c0
        have q1 := eq_true c
        have q2 := eq_true c2
        have HL3 := Aside0.mk hl3
        have HL4 := Aside0.mk hl4
        have HG3 := Aside0.mk hg3
        have HG4 := Aside0.mk hg4
        clear hl3 hl4 hg3 hg4
        generalize rd_T108 l0_1 y = a at H hx0 hx1 hx2 HL3 HG3
        generalize rd_T108 l1_1 y = b at H hy0 hy1 hy2 HL4 HG4
        clear c2 cB
        have HQ := Aside0.mk (fun (n : Nat) (v : Bool) (hv : spec_l00Same.f k2 a.f2 b.f2 = some v) => quietD (n := n) (spec_l00Same.calls k2 A3 c3 a.f2 A4 c4 b.f2 v (wr.drewN n) (Kd.C_below HG3.out (pw_below_drewN HW.out n)) HL3.out (Kd.C_below HG4.out (pw_below_drewN HW.out n)) HL4.out hv))
        by_cases e0 : a.f0 = b.f0
        case neg =>
          rw [if_neg e0] at H
          have HF := Aside0.mk (Option.some.inj H)
          have eb : (a.f0 == b.f0) = false := by simpa using e0
          have ec : (a.f0 != b.f0) = true := by simpa using e0
          clear H e0
          go_wp2_with fail
          go_quiet (fail)
          go_wp2_with fail
          go_ret
          exact ⟨by rw [← HF.out]; rfl, pw_below_drewN HW.out _⟩
        rw [if_pos e0] at H
        have eb : (a.f0 == b.f0) = true := by simpa using e0
        have ec : (a.f0 != b.f0) = false := by simpa using e0
        by_cases e1 : a.f1 = b.f1
        case neg =>
          rw [if_neg e1] at H
          have HF := Aside0.mk (Option.some.inj H)
          have fb : (a.f1 == b.f1) = false := by simpa using e1
          have fc : (a.f1 != b.f1) = true := by simpa using e1
          clear H e0 e1
          go_wp2_with fail
          go_quiet (fail)
          go_wp2_with fail
          go_ret
          exact ⟨by rw [← HF.out]; rfl, pw_below_drewN HW.out _⟩
        rw [if_pos e1] at H
        have fb : (a.f1 == b.f1) = true := by simpa using e1
        have fc : (a.f1 != b.f1) = false := by simpa using e1
        obtain ⟨t, AT, H⟩ := Option.bind_eq_some_iff.1 H
        have AT := Aside0.mk AT
        have HH := Aside0.mk H
        clear H e0 e1
        cases t with
        | false =>
          have HF := Aside0.mk (Option.some.inj HH.out)
          go_wp2_with fail
          go_quiet ((go_at_call 93; exact HQ.out _ _ AT.out))
          go_wp2_with fail
          go_ret
          exact ⟨by rw [← HF.out]; rfl, pw_below_drewN HW.out _⟩
        | true =>
          have HN := Aside0.mk (show spec_l06Same.l1 k2 (y + 1) l0_0 l0_1 l1_0 l1_1 = some r from by have := HH.out; rwa [if_pos rfl] at this)
          clear HH
          go_wp2_with fail
          go_quiet ((go_at_call 93; exact HQ.out _ _ AT.out))
          clear hx0 hx1 hx2 hy0 hy1 hy2
          go_wp2_with fail
          go_roundg k2
          case measure => omega
          case rel => exact ⟨y + 1, rfl, HN, ⟨blk_drewN HA.out _⟩, ⟨blk_drewN HBB.out _⟩, ⟨pw_below_drewN HW.out _⟩⟩
end Go.Proofs.Ytkadeelplnkpgaa.Q
