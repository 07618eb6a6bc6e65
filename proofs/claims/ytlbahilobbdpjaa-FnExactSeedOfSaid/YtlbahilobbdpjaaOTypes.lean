/- What reads as data reads as a kind of the print, type by type. No conditions. -/
import Derived.Test.YtlbahilobbdpjaaOpens
import Derived.Test.YtlbahilobbdpjaaQ0
import Derived.KernelRfl
namespace Go.Proofs.Ytlbahilobbdpjaa.Opens
open Go.RowKit Go.Deep Go.Proofs.Ytlbahilobbdpjaa.Q Go.Proofs.YtlbahilobbdpjaaW.PrintWords
theorem raw_t32 : Opens Try.prog 32 (Kd.pair (Kd.int .i64) (Kd.int .i64)) (fun x => ((Lit.int .i64 x.1).wf = true) ∧ ((Lit.int .i64 x.2).wf = true)) := (opens_struct Try.underlying32 (by kernel_rfl) (opens_fs_cons (by kernel_rfl) (by kernel_rfl) (opens_int Try.underlying2) (opens_fs_one (by kernel_rfl) (by kernel_rfl) (opens_int Try.underlying2))))
theorem raw_t40 : Opens Try.prog 40 (Kd.pair (Kd.int .i64) (Kd.pair (Kd.pair (Kd.int .i64) (Kd.int .i64)) (Kd.pair (Kd.int .i64) (Kd.pair (Kd.int .i64) (Kd.int .i64))))) (fun x => ((Lit.int .i64 x.1).wf = true) ∧ ((((Lit.int .i64 x.2.1.1).wf = true) ∧ ((Lit.int .i64 x.2.1.2).wf = true)) ∧ (((Lit.int .i64 x.2.2.1).wf = true) ∧ (((Lit.int .i64 x.2.2.2.1).wf = true) ∧ ((Lit.int .i64 x.2.2.2.2).wf = true))))) := (opens_struct Try.underlying40 (by kernel_rfl) (opens_fs_cons (by kernel_rfl) (by kernel_rfl) (opens_int Try.underlying2) (opens_fs_cons (by kernel_rfl) (by kernel_rfl) (opens_struct Try.underlying38 (by kernel_rfl) (opens_fs_cons (by kernel_rfl) (by kernel_rfl) (opens_int Try.underlying2) (opens_fs_one (by kernel_rfl) (by kernel_rfl) (opens_int Try.underlying2)))) (opens_fs_cons (by kernel_rfl) (by kernel_rfl) (opens_int Try.underlying2) (opens_fs_cons (by kernel_rfl) (by kernel_rfl) (opens_int Try.underlying2) (opens_fs_one (by kernel_rfl) (by kernel_rfl) (opens_int Try.underlying2)))))))
end Go.Proofs.Ytlbahilobbdpjaa.Opens
