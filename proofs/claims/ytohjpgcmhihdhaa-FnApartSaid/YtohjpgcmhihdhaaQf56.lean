/- Walks of the Go functions that the laws call: each returns what a plain Lean function says. Written by a program for these claims. -/
import Derived.Test.YtohjpgcmhihdhaaQ0
import Derived.Test.YtohjpgcmhihdhaaQf61
namespace Go.Proofs.Ytohjpgcmhihdhaa.Q
open Go.RowKit Go.Proofs.YtohjpgcmhihdhaaW.PrintWords Go.Proofs.YtohjpgcmhihdhaaW.PrintLast Go.Proofs.YtohjpgcmhihdhaaW.PrintMore
attribute [local go_sem] max2_int min2_int max_two min_two max_three min_three max_four min_four   -- for this text's walks alone
set_option linter.unusedVariables false
set_option linter.unusedSimpArgs false

/-! ### slices_ContainsFunc_int64_int64: function 56 -/
set_option maxHeartbeats 2000000 in
set_option maxRecDepth 100000 in
theorem containsInt64.calls (A : Option Addr) (c : Nat) (l : List (Int)) (g : Nat) (lb : Array Value) (p : Int → Bool) (w : World) (eg : ∀ args w, (callFunc g args).run Try.prog w = .ok (.enter g args) w)
    (hr : Kd.C (Kd.int .i64) w A l.length l) (hp : PredV (Kd.int .i64) (fun cs => cs.headD undef) g lb p w) :
    Calls Try.prog 56 #[.slice A l.length c, .func (.func g) #[] lb] w fun e w' => e = .returned (.bool (l.any p)) ∧ Below w.heap.size w w' := by
  have HH := Aside0.mk (idx_any p l 0 (by omega))
  go_enter Try.func56, Try.ntmps56
  go_wp2_with fail
  refine (indexInt64.calls A c l g lb p w eg hr hp).mono ?_
  rintro e w' ⟨rfl, hb'⟩
  have HB' := Aside0.mk hb'
  clear hb' hr hp
  generalize idxFrom p l 0 = i at HH ⊢
  go_wp2_with fail
  go_ret
  exact ⟨by rw [← HH.out]; rfl, HB'.out⟩

end Go.Proofs.Ytohjpgcmhihdhaa.Q
