/- What reads as data reads as a kind of the print, type by type. No conditions. -/
import Derived.Test.YtgpakhlnjgehhaaOpens
import Derived.Test.YtgpakhlnjgehhaaQ0
import Derived.KernelRfl
namespace Go.Proofs.Ytgpakhlnjgehhaa.Opens
open Go.RowKit Go.Deep Go.Proofs.Ytgpakhlnjgehhaa.Q Go.Proofs.YtgpakhlnjgehhaaW.PrintWords
/-- what is known of a datum of type []int64 -/
def good_t22 (l : List Int) : Prop := l.length ≤ 9223372036854775807 ∧ ∀ x, x ∈ l → (Lit.int .i64 x).wf = true
theorem opens_t22 : Opens Try.prog 22 (Kd.slice 2 (Kd.int .i64)) good_t22 := opens_slice Try.underlying22 (by kernel_rfl) (opens_int Try.underlying2)
theorem raw_t24 : Opens Try.prog 24 (Kd.pair (Kd.int .i64) (Kd.pair (Kd.int .i64) (Kd.slice 2 (Kd.int .i64)))) (fun x => ((Lit.int .i64 x.1).wf = true) ∧ (((Lit.int .i64 x.2.1).wf = true) ∧ (good_t22 x.2.2))) := (opens_struct Try.underlying24 (by kernel_rfl) (opens_fs_cons (by kernel_rfl) (by kernel_rfl) (opens_int Try.underlying2) (opens_fs_cons (by kernel_rfl) (by kernel_rfl) (opens_int Try.underlying2) (opens_fs_one (by kernel_rfl) (by kernel_rfl) opens_t22))))
end Go.Proofs.Ytgpakhlnjgehhaa.Opens
