/- Walks of the Go functions that the laws call: each returns what a plain Lean function says. Written by a program for these claims. -/
import Derived.Test.YtohjpgcmhihdhaaGreatDoorQ0
namespace Go.Proofs.YtohjpgcmhihdhaaGreatDoor.Q
open Go.RowKit Go.Proofs.YtohjpgcmhihdhaaGreatDoorW.PrintWords Go.Proofs.YtohjpgcmhihdhaaGreatDoorW.PrintLast Go.Proofs.YtohjpgcmhihdhaaGreatDoorW.PrintMore
attribute [local go_sem] max2_int min2_int max_two min_two max_three min_three max_four min_four   -- for this text's walks alone
set_option linter.unusedVariables false
set_option linter.unusedSimpArgs false

/-! ### impl_Tree_device: function 64 -/
set_option maxHeartbeats 2000000 in
set_option maxRecDepth 100000 in
theorem indexDevice.calls (A : Option Addr) (c : Nat) (l : List (S57)) (g : Nat) (lb : Array Value) (p : S57 → Bool) (w : World) (eg : ∀ args w, (callFunc g args).run Tryz.prog w = .ok (.enter g args) w)
    (hr : Kd.C k57 w A l.length l) (hp : PredK k57 g lb p w) :
    Calls Tryz.prog 75 #[.slice A l.length c, .func (.func g) #[] lb] w fun e w' => e = .returned (.int .i64 (idxFrom p l 0)) ∧ Below w.heap.size w w' := by
  have hm := Kd.C_max hr
  go_enter Tryz.func75, Tryz.ntmps75
  go_wp2
  go_loopg [5, 8] l.length (fun gg _ s8 wr => ∃ kk : Int, 0 ≤ kk ∧ kk ≤ l.length ∧ (l.length : Int) - kk ≤ gg ∧ s8 = .int .i64 kk ∧ Aside0 (Below w.heap.size w wr) ∧ Aside0 (idxFrom p l 0 = idxFrom p (l.drop kk.toNat) kk))
  case atStart => exact ⟨0, by omega, by omega, by omega, rfl, ⟨Below.refl _ w⟩, ⟨by simp⟩⟩
  case round =>
    obtain ⟨kk, h0, hkk, hg, rfl, BW, HA⟩ := hrel
    by_cases hlt : kk < (l.length : Int)
    · obtain ⟨ad, rfl, hx0, hx1⟩ := at_T57 hr kk h0 hlt
      have hcall := hp wr (rd_T57 l kk) [.int .i64 (rd_T57 l kk).f0, .int .i64 (rd_T57 l kk).f1] BW.out (k57_mk wr _)
      have hH := idx_here p l kk h0 hlt z57
      replace hx0 := (BW.out.cell (World.block_lt_of_cell? w _ hx0)).trans hx0
      replace hx1 := (BW.out.cell (World.block_lt_of_cell? w _ hx1)).trans hx1
      clear hr hp
      have HH := Aside0.mk hH
      clear hH
      have q0 := eq_true h0
      have q1 := eq_true hlt
      cases hq : p (rd_T57 l kk) with
      | true =>
        rw [hq] at hcall
        have HQ := Aside0.mk hq
        clear hq
        go_wp2_with fail
        (with_reducible refine hcall.mono ?_)
        clear hcall
        rintro e w' ⟨rfl, hb'⟩
        have HB' := Aside0.mk hb'
        clear hb'
        go_wp2_with fail
        go_ret
        refine ⟨?_, HB'.out⟩
        rw [HA.out, HH.out.1 HQ.out]
        rfl
      | false =>
        rw [hq] at hcall
        have HQ := Aside0.mk hq
        clear hq
        go_wp2_with fail
        (with_reducible refine hcall.mono ?_)
        clear hcall
        rintro e w' ⟨rfl, hb'⟩
        have HB' := Aside0.mk hb'
        clear hb'
        go_wp2_with fail
        go_roundg (gk - 1)
        case measure => omega
        case rel => exact ⟨kk + 1, by omega, by omega, by omega, by go_num, HB', ⟨by rw [HA.out, HH.out.2 HQ.out]⟩⟩
    · have : kk = l.length := by omega
      subst this
      go_wp2
      go_ret
      exact ⟨by rw [HA.out, idx_end p l _ rfl]; rfl, BW.out⟩

/-- the closure of device: the Id is that in the captured block -/
theorem deviceClosure.calls (b : Nat) (id : Int) (x : S57) (W : World) (hb : W.heap[b]? = some (.cells #[.int .i64 id] 2 (0, 0))) :
    Calls Tryz.prog 76 #[.agg #[.int .i64 x.f0, .int .i64 x.f1], .pointer (some ⟨b, 0, none⟩)] W fun e w' => e = .returned (.bool (x.f0 == id)) ∧ Below W.heap.size W w' := by
  have hc := blk_cell hb 0
  have hl := blk_lt hb
  clear hb
  go_enter Tryz.func76, Tryz.ntmps76
  go_wp2_with fail
  go_ret
  exact ⟨rfl, below_alloc (Below.refl _ _) _⟩

def impl_Tree_device.f (l0_0 : List (S57)) (l0_1 : List (S49)) (a1 : Int) : Option Int := some (idxFrom (fun x : S57 => x.f0 == a1) l0_0 0)
set_option maxHeartbeats 2000000 in
set_option maxRecDepth 100000 in
theorem impl_Tree_device.calls (A0_0 : Option Addr) (c0_0 : Nat) (l0_0 : List (S57)) (A0_1 : Option Addr) (c0_1 : Nat) (l0_1 : List (S49)) (a1 : Int) (r : Int) (w : World) (hr0_0 : Kd.C k57 w A0_0 l0_0.length l0_0) (hc0_0 : l0_0.length ≤ c0_0) (hr0_1 : Kd.C k49 w A0_1 l0_1.length l0_1) (hc0_1 : l0_1.length ≤ c0_1) (h : impl_Tree_device.f l0_0 l0_1 a1 = some r) :
    Calls Tryz.prog 64 #[.agg #[.slice A0_0 l0_0.length c0_0, .slice A0_1 l0_1.length c0_1], .int .i64 a1] w fun e w' => e = .returned (.int .i64 r) ∧ Below w.heap.size w w' := by
  have HR := Aside0.mk hr0_0
  clear hr0_0 hr0_1
  obtain rfl := Option.some.inj h
  clear h
  go_enter Tryz.func64, Tryz.ntmps64
  go_wp2_with fail
  have HB0 := below_alloc (below_alloc (Below.refl w.heap.size w) (.cells #[.slice A0_0 l0_0.length c0_0, .slice A0_1 l0_1.length c0_1] 25)) (.cells #[.int .i64 a1] 2)
  have HK : ((w.alloc (.cells #[.slice A0_0 l0_0.length c0_0, .slice A0_1 l0_1.length c0_1] 25)).alloc (.cells #[.int .i64 a1] 2)).heap[w.heap.size + 1]? = some (.cells #[.int .i64 a1] 2 (0, 0)) := by
    exact alloc_new _ _ _ (by simp)
  refine (indexDevice.calls A0_0 c0_0 l0_0 76 _ (fun x => x.f0 == a1) _ @Tryz.call76 (Kd.C_below HR.out HB0) ?_).mono ?_
  · intro W x cs hB hK
    obtain rfl := k57_open hK
    exact (deviceClosure.calls _ a1 x W ((hB.block _ (by simp)).trans HK)).mono fun e w' ⟨he, hb⟩ => ⟨he, (hB.trans (hb.mono hB.size))⟩
  · rintro e w' ⟨rfl, hb'⟩
    go_wp2_with fail
    go_ret
    exact ⟨rfl, HB0.trans (hb'.mono HB0.size)⟩

end Go.Proofs.YtohjpgcmhihdhaaGreatDoor.Q
