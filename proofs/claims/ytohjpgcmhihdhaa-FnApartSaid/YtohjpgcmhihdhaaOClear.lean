/- A slice of whole numbers cleared: zeros are laid. Conditions: the cells are there. -/
import Derived.Lib.SliceRun
import Derived.Test.YtohjpgcmhihdhaaOwnWords
namespace Go.Proofs.YtohjpgcmhihdhaaW.PrintMore
theorem clear_ints {P : Program} (w : World) (t ty : TypeId) (ht : P.underlying t = some (.slice 2)) (hv : ∀ w, (zeroValue 2).run P w = .ok (.int .i64 0) w) (b o n c : Nat) (hn : 0 < n) (hc : ∀ j, j < n → (w.cell? ⟨b, o + j, none⟩).isSome = true) (hf : ∀ j, j < n → w.frozen? ⟨b, o + j, none⟩ = false) :
    (Builtin.clear_ #[t] ty #[.slice (some ⟨b, o, none⟩) n c]).run P w = .ok (.tuple #[]) (w.setCells b o (List.replicate n (.int .i64 0))) :=
  Lib.run_clear_slice w t 2 ty (.int .i64 0) ht hv rfl rfl b o n c hn hc hf
end Go.Proofs.YtohjpgcmhihdhaaW.PrintMore
