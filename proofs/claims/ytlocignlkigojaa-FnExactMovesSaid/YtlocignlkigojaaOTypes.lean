/- What reads as data reads as a kind of the print, type by type. No conditions. -/
import Derived.Test.YtlocignlkigojaaOpens
import Derived.Test.YtlocignlkigojaaQ0
import Derived.KernelRfl
namespace Go.Proofs.Ytlocignlkigojaa.Opens
open Go.RowKit Go.Deep Go.Proofs.Ytlocignlkigojaa.Q Go.Proofs.YtlocignlkigojaaW.PrintWords
/-- what is known of a datum of type []int64 -/
def good_t36 (l : List Int) : Prop := l.length ≤ 9223372036854775807 ∧ ∀ x, x ∈ l → (Lit.int .i64 x).wf = true
theorem opens_t36 : Opens Try.prog 36 (Kd.slice 2 (Kd.int .i64)) good_t36 := opens_slice Try.underlying36 (by kernel_rfl) (opens_int Try.underlying2)
/-- what is known of a datum of type [][]int64 -/
def good_t87 (l : List (List Int)) : Prop := l.length ≤ 9223372036854775807 ∧ ∀ x, x ∈ l → good_t36 x
theorem opens_t87 : Opens Try.prog 87 (Kd.slice 36 (Kd.slice 2 (Kd.int .i64))) good_t87 := opens_slice Try.underlying87 (by kernel_rfl) opens_t36
end Go.Proofs.Ytlocignlkigojaa.Opens
