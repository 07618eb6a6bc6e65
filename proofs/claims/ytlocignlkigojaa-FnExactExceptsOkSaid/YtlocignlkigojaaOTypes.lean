/- What reads as data reads as a kind of the print, type by type. No conditions. -/
import Derived.Test.YtlocignlkigojaaOpens
import Derived.Test.YtlocignlkigojaaQ0
import Derived.KernelRfl
namespace Go.Proofs.Ytlocignlkigojaa.Opens
open Go.RowKit Go.Deep Go.Proofs.Ytlocignlkigojaa.Q Go.Proofs.YtlocignlkigojaaW.PrintWords
/-- what is known of a datum of type laws.Pg -/
def good_t146 (x : S146) : Prop := (Lit.int .i64 x.f0).wf = true ∧ (Lit.int .i64 x.f1).wf = true
theorem opens_t146 : Opens Try.prog 146 k146 good_t146 := opens_iso (fun x : S146 => (x.f0, x.f1)) (fun p => ⟨p.1, p.2⟩) (fun _ => rfl) (opens_struct Try.underlying146 (by kernel_rfl) (opens_fs_cons (by kernel_rfl) (by kernel_rfl) (opens_int Try.underlying2) (opens_fs_one (by kernel_rfl) (by kernel_rfl) (opens_int Try.underlying2))))
/-- what is known of a datum of type laws.Except -/
def good_t148 (x : S148) : Prop := good_t146 x.f0 ∧ (Lit.int .i64 x.f1).wf = true ∧ (Lit.int .i64 x.f2).wf = true
theorem opens_t148 : Opens Try.prog 148 k148 good_t148 := opens_iso (fun x : S148 => (x.f0, x.f1, x.f2)) (fun p => ⟨p.1, p.2.1, p.2.2⟩) (fun _ => rfl) (opens_struct Try.underlying148 (by kernel_rfl) (opens_fs_cons (by kernel_rfl) (by kernel_rfl) opens_t146 (opens_fs_cons (by kernel_rfl) (by kernel_rfl) (opens_int Try.underlying2) (opens_fs_one (by kernel_rfl) (by kernel_rfl) (opens_int Try.underlying2)))))
/-- what is known of a datum of type []laws.Except -/
def good_t95 (l : List S148) : Prop := l.length ≤ 9223372036854775807 ∧ ∀ x, x ∈ l → good_t148 x
theorem opens_t95 : Opens Try.prog 95 (Kd.slice 148 k148) good_t95 := opens_slice Try.underlying95 (by kernel_rfl) opens_t148
end Go.Proofs.Ytlocignlkigojaa.Opens
