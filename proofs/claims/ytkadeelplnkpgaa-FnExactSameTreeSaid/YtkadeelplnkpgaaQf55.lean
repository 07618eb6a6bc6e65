/- Walks of the Go functions that the laws call: each returns what a plain Lean function says. Written by a program for these claims. -/
import Derived.Test.YtkadeelplnkpgaaQ0
import Derived.Test.YtkadeelplnkpgaaQf100
import Derived.Test.YtkadeelplnkpgaaQf98
namespace Go.Proofs.Ytkadeelplnkpgaa.Q
open Go.RowKit Go.Proofs.YtkadeelplnkpgaaW.PrintWords Go.Proofs.YtkadeelplnkpgaaW.PrintLast Go.Proofs.YtkadeelplnkpgaaW.PrintMore
attribute [local go_sem] max2_int min2_int max_two min_two max_three min_three max_four min_four   -- for this text's walks alone
set_option linter.unusedVariables false
set_option linter.unusedSimpArgs false

/-! ### impl_sameTree: function 55 -/
/-- are the pairs of two lists alike, one behind the other, by a test that may not be told? -/
def pairGo {α : Type} (g : α → α → Option Bool) : List α → List α → Option Bool
  | [], [] => some true
  | x :: xs, y :: ys => (g x y).bind fun b => if b = true then pairGo g xs ys else some false
  | _, _ => none
theorem pairGo_here {α : Type} (g : α → α → Option Bool) (l m : List α) (i : Int) (h0 : 0 ≤ i) (h1 : i < (l.length : Int)) (h2 : i < (m.length : Int)) (z : α) : pairGo g (l.drop i.toNat) (m.drop i.toNat) = (g (l.getD i.toNat z) (m.getD i.toNat z)).bind fun b => if b = true then pairGo g (l.drop (i + 1).toNat) (m.drop (i + 1).toNat) else some false := by
  obtain ⟨n, rfl⟩ := Int.eq_ofNat_of_zero_le h0
  have hl : n < l.length := by omega
  have hm : n < m.length := by omega
  have e : ((n : Int) + 1).toNat = n + 1 := by omega
  rw [e, Int.toNat_natCast, List.drop_eq_getElem_cons hl, List.drop_eq_getElem_cons hm, List.getD_eq_getElem?_getD, List.getD_eq_getElem?_getD, List.getElem?_eq_getElem hl, List.getElem?_eq_getElem hm]
  rfl
theorem pairGo_mono {α : Type} (g g' : α → α → Option Bool) (h : ∀ x y, LeO (g x y) (g' x y)) : ∀ l m, LeO (pairGo g l m) (pairGo g' l m)
  | [], [] => LeO.refl _
  | x :: xs, y :: ys => by
    unfold pairGo
    exact LeO.bind (h x y) (fun _ => LeO.ite (pairGo_mono g g' h xs ys) (LeO.refl _))
  | [], _ :: _ => LeO.refl _
  | _ :: _, [] => LeO.refl _
def bktF (k : Nat) (x y : S108) : Option Bool := impl_sameBucket.f k x.f0 x.f1 x.f2 y.f0 y.f1 y.f2
set_option maxHeartbeats 4000000 in
set_option maxRecDepth 100000 in
theorem eqBuckets_ne.calls (A1 : Option Addr) (c1 : Nat) (l1 : List (S108)) (A2 : Option Addr) (c2 : Nat) (l2 : List (S108)) (v : Value) (w : World) (hn : ¬ l1.length = l2.length) :
    Calls Try.prog 99 #[.slice A1 l1.length c1, .slice A2 l2.length c2, v] w fun e w' => e = .returned (.bool false) ∧ Below w.heap.size w w' := by
  have c3 : ¬ (l1.length : Int) = (l2.length : Int) := by omega
  have c3b1 : ((l1.length : Int) != (l2.length : Int)) = true := by simpa using c3
  have c3b2 : (l1.length == l2.length) = false := by simpa using hn
  clear hn c3
  go_enter Try.func99, Try.ntmps99
  go_wp2_with fail
  repeat (go_quiet (fail); try go_wp2)
  go_ret
  exact ⟨rfl, Drawn0.below (by repeat (first | exact Drawn0.refl _ | apply Drawn0.step))⟩
set_option maxHeartbeats 4000000 in
set_option maxRecDepth 100000 in
theorem eqBuckets.calls (k : Nat) (A1 : Option Addr) (c1 : Nat) (l1 : List (S108)) (A2 : Option Addr) (c2 : Nat) (l2 : List (S108)) (r : Bool) (w : World) (hr1 : Kd.C k108 w A1 l1.length l1) (hr2 : Kd.C k108 w A2 l2.length l2) (hn : l1.length = l2.length) (h : pairGo (bktF k) l1 l2 = some r) :
    Calls Try.prog 99 #[.slice A1 l1.length c1, .slice A2 l2.length c2, .func (.func 100) #[] #[]] w fun e w' => e = .returned (.bool r) ∧ Below w.heap.size w w' := by
  have c3 : (l1.length : Int) = (l2.length : Int) := by omega
  have c3b1 : ((l1.length : Int) != (l2.length : Int)) = false := by simpa using c3
  have c3b2 : (l1.length == l2.length) = true := by simpa using hn
  have hm := Kd.C_max hr1
  have HR1 := Aside0.mk hr1
  have HR2 := Aside0.mk hr2
  have HN := Aside0.mk c3
  have H0 := Aside0.mk (show pairGo (bktF k) (l1.drop (0 : Int).toNat) (l2.drop (0 : Int).toNat) = some r from h)
  clear hn c3 hr1 hr2 h
  go_enter Try.func99, Try.ntmps99
  go_wp2_with fail
  repeat (go_quiet (fail); try go_wp2)
  go_loopg [17] l1.length (fun gg s17 wr => ∃ kk : Int, 0 ≤ kk ∧ kk ≤ l1.length ∧ (l1.length : Int) - kk ≤ gg ∧ s17 = .int .i64 kk ∧ Aside0 (Below w.heap.size w wr) ∧ Aside0 (pairGo (bktF k) (l1.drop kk.toNat) (l2.drop kk.toNat) = some r))
  case atStart => exact ⟨0, by omega, by omega, by omega, rfl, ⟨Drawn0.below (by repeat (first | exact Drawn0.refl _ | apply Drawn0.step))⟩, H0⟩
  case round =>
    clear H0 c3b1 c3b2
    obtain ⟨kk, h0, hkk, hg, rfl, BW, HA⟩ := hrel
    by_cases hlt : kk < (l1.length : Int)
    · have hlt2 : kk < (l2.length : Int) := by have := HN.out; omega
      obtain ⟨ad, A3, c3, rfl, hx0, hx1, hx2, hl3, hg3⟩ := at_T108 HR1.out kk h0 hlt
      obtain ⟨ae, A4, c4, rfl, hy0, hy1, hy2, hl4, hg4⟩ := at_T108 HR2.out kk h0 hlt2
      have HP := Aside0.mk (show (bktF k (rd_T108 l1 kk) (rd_T108 l2 kk)).bind (fun b => if b = true then pairGo (bktF k) (l1.drop (kk + 1).toNat) (l2.drop (kk + 1).toNat) else some false) = some r from by
        have := pairGo_here (bktF k) l1 l2 kk h0 hlt hlt2 z108
        rw [HA.out] at this
        exact this.symm)
      clear HA
      have HL3 := Aside0.mk hl3
      have HL4 := Aside0.mk hl4
      have HG3 := Aside0.mk hg3
      have HG4 := Aside0.mk hg4
      have q0 := eq_true h0
      have q1 := eq_true hlt
      have q2 := eq_true hlt2
      replace hx0 := (BW.out.cell (World.block_lt_of_cell? w _ hx0)).trans hx0
      replace hx1 := (BW.out.cell (World.block_lt_of_cell? w _ hx1)).trans hx1
      replace hx2 := (BW.out.cell (World.block_lt_of_cell? w _ hx2)).trans hx2
      replace hy0 := (BW.out.cell (World.block_lt_of_cell? w _ hy0)).trans hy0
      replace hy1 := (BW.out.cell (World.block_lt_of_cell? w _ hy1)).trans hy1
      replace hy2 := (BW.out.cell (World.block_lt_of_cell? w _ hy2)).trans hy2
      clear hl3 hg3 hl4 hg4
      replace hy0 : ∀ o, (wr.alloc o).cell? _ = _ := fun o => ((below_alloc (Below.refl wr.heap.size wr) o).cell (World.block_lt_of_cell? wr _ hy0)).trans hy0
      replace hy1 : ∀ o, (wr.alloc o).cell? _ = _ := fun o => ((below_alloc (Below.refl wr.heap.size wr) o).cell (World.block_lt_of_cell? wr _ hy1)).trans hy1
      replace hy2 : ∀ o, (wr.alloc o).cell? _ = _ := fun o => ((below_alloc (Below.refl wr.heap.size wr) o).cell (World.block_lt_of_cell? wr _ hy2)).trans hy2
      generalize rd_T108 l1 kk = x at HP HL3 HG3 hx0 hx1 hx2
      generalize rd_T108 l2 kk = y at HP HL4 HG4 hy0 hy1 hy2
      have hw1 : IntKind.i64.wrap (kk + 1) = kk + 1 := (i64_w _).trans (by unfold wrap64; omega)
      obtain ⟨b, hb, hnx⟩ := Option.bind_eq_some_iff.1 HP.out
      have HBK := Aside0.mk hb
      have HNX := Aside0.mk hnx
      clear hb hnx HP
      go_wp2_with fail
      have HB2 := Aside0.mk (below_alloc (below_alloc BW.out (.cells #[.int .i64 x.f0, .int .i64 x.f1, .slice A3 x.f2.length c3] 108)) (.cells #[.int .i64 y.f0, .int .i64 y.f1, .slice A4 y.f2.length c4] 108))
      refine (impl_sameBucket.calls k x.f0 x.f1 A3 c3 x.f2 y.f0 y.f1 A4 c4 y.f2 b _ (Kd.C_below HG3.out HB2.out) HL3.out (Kd.C_below HG4.out HB2.out) HL4.out HBK.out).mono ?_
      rintro e w2 ⟨rfl, hb⟩
      have HB3 := Aside0.mk (below_step HB2.out hb)
      clear hb HB2 BW
      cases b with
      | true =>
        have HN2 := Aside0.mk (show pairGo (bktF k) (l1.drop (kk + 1).toNat) (l2.drop (kk + 1).toNat) = some r from by have := HNX.out; rwa [if_pos rfl] at this)
        go_wp2_with fail
        go_roundg (gk - 1)
        case measure => omega
        case rel => exact ⟨kk + 1, by omega, by omega, by omega, by go_num, HB3, HN2⟩
      | false =>
        have HF := Aside0.mk (show r = false from by have := HNX.out; rw [if_neg (by decide)] at this; exact (Option.some.inj this).symm)
        go_wp2_with fail
        go_ret
        exact ⟨by rw [HF.out]; rfl, HB3.out⟩
    · obtain rfl : kk = l1.length := by omega
      have HE := Aside0.mk (show r = true from by
        have h1 := HA.out
        have h2 := HN.out
        rw [Int.toNat_natCast, List.drop_length, List.drop_of_length_le (by omega)] at h1
        exact (Option.some.inj h1).symm)
      clear HA
      go_wp2
      go_ret
      exact ⟨by rw [HE.out]; rfl, BW.out⟩
def impl_sameTree.f (k : Nat) (l0_0 : List (S50)) (l0_1 : List (S108)) (l1_0 : List (S50)) (l1_1 : List (S108)) : Option Bool :=
  (impl_Device.f k l0_0 l1_0).bind fun d => if d = true then (if l0_1.length = l1_1.length then pairGo (bktF k) l0_1 l1_1 else some false) else some false
set_option maxHeartbeats 4000000 in
set_option maxRecDepth 100000 in
theorem impl_sameTree.calls (k : Nat) (A0_0 : Option Addr) (c0_0 : Nat) (l0_0 : List (S50)) (A0_1 : Option Addr) (c0_1 : Nat) (l0_1 : List (S108)) (A1_0 : Option Addr) (c1_0 : Nat) (l1_0 : List (S50)) (A1_1 : Option Addr) (c1_1 : Nat) (l1_1 : List (S108)) (r : Bool) (w : World) (hr0_0 : Kd.C k50 w A0_0 l0_0.length l0_0) (hc0_0 : l0_0.length ≤ c0_0) (hr0_1 : Kd.C k108 w A0_1 l0_1.length l0_1) (hc0_1 : l0_1.length ≤ c0_1) (hr1_0 : Kd.C k50 w A1_0 l1_0.length l1_0) (hc1_0 : l1_0.length ≤ c1_0) (hr1_1 : Kd.C k108 w A1_1 l1_1.length l1_1) (hc1_1 : l1_1.length ≤ c1_1) (h : impl_sameTree.f k l0_0 l0_1 l1_0 l1_1 = some r) :
    Calls Try.prog 55 #[.agg #[.slice A0_0 l0_0.length c0_0, .slice A0_1 l0_1.length c0_1], .agg #[.slice A1_0 l1_0.length c1_0, .slice A1_1 l1_1.length c1_1]] w fun e w' => e = .returned (.bool r) ∧ Below w.heap.size w w' := by
  have HR0 := Aside0.mk hr0_0
  have HR1 := Aside0.mk hr1_0
  have HC0 := Aside0.mk hc0_0
  have HC1 := Aside0.mk hc1_0
  have HB0 := Aside0.mk hr0_1
  have HB1 := Aside0.mk hr1_1
  unfold impl_sameTree.f at h
  obtain ⟨dv, hdv, h2⟩ := Option.bind_eq_some_iff.1 h
  have HDV := Aside0.mk hdv
  have HR := Aside0.mk h2
  clear h hdv h2 hr0_0 hr0_1 hr1_0 hr1_1 hc0_0 hc0_1 hc1_0 hc1_1
  go_enter Try.func55, Try.ntmps55
  go_wp2_with fail
  have HA := Aside0.mk (blk_alloc (blk_new w (.cells #[.slice A0_0 l0_0.length c0_0, .slice A0_1 l0_1.length c0_1] 31)) (.cells #[.slice A1_0 l1_0.length c1_0, .slice A1_1 l1_1.length c1_1] 31))
  have HBB := Aside0.mk (blk_new (w.alloc (.cells #[.slice A0_0 l0_0.length c0_0, .slice A0_1 l0_1.length c0_1] 31)) (.cells #[.slice A1_0 l1_0.length c1_0, .slice A1_1 l1_1.length c1_1] 31))
  have HW := Aside0.mk (below_alloc (below_alloc (Below.refl w.heap.size w) (.cells #[.slice A0_0 l0_0.length c0_0, .slice A0_1 l0_1.length c0_1] 31)) (.cells #[.slice A1_0 l1_0.length c1_0, .slice A1_1 l1_1.length c1_1] 31))
  have hs : (w.alloc (.cells #[.slice A0_0 l0_0.length c0_0, .slice A0_1 l0_1.length c0_1] 31)).heap.size = w.heap.size + 1 := by unfold World.alloc; exact Array.size_push _
  rw [hs] at HBB
  clear hs
  generalize ((w.alloc (.cells #[.slice A0_0 l0_0.length c0_0, .slice A0_1 l0_1.length c0_1] 31)).alloc (.cells #[.slice A1_0 l1_0.length c1_0, .slice A1_1 l1_1.length c1_1] 31)) = W at HA HBB HW ⊢
  generalize hga : w.heap.size = ga at HA HBB ⊢
  have HGA := Aside0.mk hga
  generalize ga + 1 = gb at HBB ⊢
  clear hga
  have ha0 := (blk_cell HA.out 0).trans rfl
  have ha1 := (blk_cell HA.out 1).trans rfl
  have hb0 := (blk_cell HBB.out 0).trans rfl
  have hb1 := (blk_cell HBB.out 1).trans rfl
  refine (impl_Device.calls k A0_0 c0_0 l0_0 A1_0 c1_0 l1_0 dv _ (Kd.C_below HR0.out HW.out) HC0.out (Kd.C_below HR1.out HW.out) HC1.out HDV.out).mono ?_
  rintro e w3 ⟨rfl, hd⟩
  have hb := hd.below
  have HA3 := Aside0.mk (blk_below HA.out hb)
  have HBB3 := Aside0.mk (blk_below HBB.out hb)
  have HW3 := Aside0.mk (below_step HW.out hb)
  clear hd hb HA HBB HW ha0 ha1 hb0 hb1
  have ha1 := (blk_cell HA3.out 1).trans rfl
  have hb1 := (blk_cell HBB3.out 1).trans rfl
  cases dv with
  | false =>
    have HF := Aside0.mk (show r = false from by have := HR.out; rw [if_neg (by decide)] at this; exact (Option.some.inj this).symm)
    go_wp2_with fail
    go_ret
    exact ⟨by rw [HF.out]; rfl, HW3.out⟩
  | true =>
    have HCALL := Aside0.mk (show Calls Try.prog 99 #[.slice A0_1 l0_1.length c0_1, .slice A1_1 l1_1.length c1_1, .func (.func 100) #[] #[]] w3 fun e w' => e = .returned (.bool r) ∧ Below w3.heap.size w3 w' from by
      have hh := HR.out
      rw [if_pos rfl] at hh
      by_cases hn : l0_1.length = l1_1.length
      · rw [if_pos hn] at hh
        exact eqBuckets.calls k A0_1 c0_1 l0_1 A1_1 c1_1 l1_1 r w3 (Kd.C_below HB0.out HW3.out) (Kd.C_below HB1.out HW3.out) hn hh
      · rw [if_neg hn] at hh
        obtain rfl := Option.some.inj hh
        exact eqBuckets_ne.calls A0_1 c0_1 l0_1 A1_1 c1_1 l1_1 _ w3 hn)
    go_wp2_with fail
    refine HCALL.out.mono ?_
    rintro e w4 ⟨rfl, hb⟩
    have HW4 := Aside0.mk (below_step HW3.out hb)
    clear hb
    go_wp2_with fail
    go_ret
    exact ⟨by first | rfl | (simp; done), HW4.out⟩

end Go.Proofs.Ytkadeelplnkpgaa.Q
