/- Walks of the Go functions that the laws call: each returns what a plain Lean function says. Written by a program for these claims. -/
import Derived.Test.YtohjpgcmhihdhaaQ0
namespace Go.Proofs.Ytohjpgcmhihdhaa.Q
open Go.RowKit Go.Proofs.YtohjpgcmhihdhaaW.PrintWords Go.Proofs.YtohjpgcmhihdhaaW.PrintLast Go.Proofs.YtohjpgcmhihdhaaW.PrintMore
attribute [local go_sem] max2_int min2_int max_two min_two max_three min_three max_four min_four   -- for this text's walks alone
set_option linter.unusedVariables false
set_option linter.unusedSimpArgs false

/-! ### slices_IndexFunc_int64_int64: function 61 -/
set_option maxHeartbeats 2000000 in
set_option maxRecDepth 100000 in
theorem indexInt64.calls (A : Option Addr) (c : Nat) (l : List (Int)) (g : Nat) (lb : Array Value) (p : Int → Bool) (w : World) (eg : ∀ args w, (callFunc g args).run Try.prog w = .ok (.enter g args) w)
    (hr : Kd.C (Kd.int .i64) w A l.length l) (hp : PredV (Kd.int .i64) (fun cs => cs.headD undef) g lb p w) :
    Calls Try.prog 61 #[.slice A l.length c, .func (.func g) #[] lb] w fun e w' => e = .returned (.int .i64 (idxFrom p l 0)) ∧ Below w.heap.size w w' := by
  have hm := Kd.C_max hr
  go_enter Try.func61, Try.ntmps61
  go_wp2
  go_loopg [5, 8] l.length (fun gg _ s8 wr => ∃ kk : Int, 0 ≤ kk ∧ kk ≤ l.length ∧ (l.length : Int) - kk ≤ gg ∧ s8 = .int .i64 kk ∧ Aside0 (Below w.heap.size w wr) ∧ Aside0 (idxFrom p l 0 = idxFrom p (l.drop kk.toNat) kk))
  case atStart => exact ⟨0, by omega, by omega, by omega, rfl, ⟨Below.refl _ w⟩, ⟨by simp⟩⟩
  case round =>
    obtain ⟨kk, h0, hkk, hg, rfl, BW, HA⟩ := hrel
    by_cases hlt : kk < (l.length : Int)
    · obtain ⟨ad, rfl, hx0⟩ := Kd.at_int hr kk h0 hlt
      have hcall : Calls Try.prog g (#[.int .i64 (rd l kk)] ++ lb) wr (fun e w' => e = .returned (.bool (p (rd l kk))) ∧ Below w.heap.size w w') := hp wr (rd l kk) [.int .i64 (rd l kk)] BW.out rfl
      have hH := idx_here p l kk h0 hlt (0 : Int)
      replace hx0 := (BW.out.cell (World.block_lt_of_cell? w _ hx0)).trans hx0
      clear hr hp
      have HH := Aside0.mk (show (p (rd l kk) = true → idxFrom p (l.drop kk.toNat) kk = kk) ∧ (p (rd l kk) = false → idxFrom p (l.drop kk.toNat) kk = idxFrom p (l.drop (kk + 1).toNat) (kk + 1)) from hH)
      clear hH
      have q0 := eq_true h0
      have q1 := eq_true hlt
      cases hq : p (rd l kk) with
      | true =>
        rw [hq] at hcall
        have HQ := Aside0.mk hq
        clear hq
        go_wp2_with fail
        (with_reducible refine hcall.mono ?_)
        clear hcall
        rintro e w' ⟨rfl, hb'⟩
        have HB' := Aside0.mk hb'
        clear hb'
        go_wp2_with fail
        go_ret
        refine ⟨?_, HB'.out⟩
        rw [HA.out, HH.out.1 HQ.out]
        rfl
      | false =>
        rw [hq] at hcall
        have HQ := Aside0.mk hq
        clear hq
        go_wp2_with fail
        (with_reducible refine hcall.mono ?_)
        clear hcall
        rintro e w' ⟨rfl, hb'⟩
        have HB' := Aside0.mk hb'
        clear hb'
        go_wp2_with fail
        go_roundg (gk - 1)
        case measure => omega
        case rel => exact ⟨kk + 1, by omega, by omega, by omega, by go_num, HB', ⟨by rw [HA.out, HH.out.2 HQ.out]⟩⟩
    · have : kk = l.length := by omega
      subst this
      go_wp2
      go_ret
      exact ⟨by rw [HA.out, idx_end p l _ rfl]; rfl, BW.out⟩

end Go.Proofs.Ytohjpgcmhihdhaa.Q
