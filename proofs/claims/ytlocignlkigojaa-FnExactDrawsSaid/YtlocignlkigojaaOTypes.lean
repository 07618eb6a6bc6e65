/- What reads as data reads as a kind of the print, type by type. No conditions. -/
import Derived.Test.YtlocignlkigojaaOpens
import Derived.Test.YtlocignlkigojaaQ0
import Derived.KernelRfl
namespace Go.Proofs.Ytlocignlkigojaa.Opens
open Go.RowKit Go.Deep Go.Proofs.Ytlocignlkigojaa.Q Go.Proofs.YtlocignlkigojaaW.PrintWords
theorem raw_t23 : Opens Try.prog 23 (Kd.pair (Kd.int .i64) (Kd.int .i64)) (fun x => ((Lit.int .i64 x.1).wf = true) ∧ ((Lit.int .i64 x.2).wf = true)) := (opens_struct Try.underlying23 (by kernel_rfl) (opens_fs_cons (by kernel_rfl) (by kernel_rfl) (opens_int Try.underlying2) (opens_fs_one (by kernel_rfl) (by kernel_rfl) (opens_int Try.underlying2))))
/-- what is known of a datum of type laws.Item -/
def good_t23 (x : S23) : Prop := (Lit.int .i64 x.f0).wf = true ∧ (Lit.int .i64 x.f1).wf = true
theorem opens_t23 : Opens Try.prog 23 k23 good_t23 := opens_iso (fun x : S23 => (x.f0, x.f1)) (fun p => ⟨p.1, p.2⟩) (fun _ => rfl) (opens_struct Try.underlying23 (by kernel_rfl) (opens_fs_cons (by kernel_rfl) (by kernel_rfl) (opens_int Try.underlying2) (opens_fs_one (by kernel_rfl) (by kernel_rfl) (opens_int Try.underlying2))))
/-- what is known of a datum of type []laws.Item -/
def good_t29 (l : List S23) : Prop := l.length ≤ 9223372036854775807 ∧ ∀ x, x ∈ l → good_t23 x
theorem opens_t29 : Opens Try.prog 29 (Kd.slice 23 k23) good_t29 := opens_slice Try.underlying29 (by kernel_rfl) opens_t23
/-- what is known of a datum of type []int64 -/
def good_t36 (l : List Int) : Prop := l.length ≤ 9223372036854775807 ∧ ∀ x, x ∈ l → (Lit.int .i64 x).wf = true
theorem opens_t36 : Opens Try.prog 36 (Kd.slice 2 (Kd.int .i64)) good_t36 := opens_slice Try.underlying36 (by kernel_rfl) (opens_int Try.underlying2)
theorem raw_t38 : Opens Try.prog 38 (Kd.pair (Kd.int .i64) (Kd.pair (Kd.int .i64) (Kd.slice 2 (Kd.int .i64)))) (fun x => ((Lit.int .i64 x.1).wf = true) ∧ (((Lit.int .i64 x.2.1).wf = true) ∧ (good_t36 x.2.2))) := (opens_struct Try.underlying38 (by kernel_rfl) (opens_fs_cons (by kernel_rfl) (by kernel_rfl) (opens_int Try.underlying2) (opens_fs_cons (by kernel_rfl) (by kernel_rfl) (opens_int Try.underlying2) (opens_fs_one (by kernel_rfl) (by kernel_rfl) opens_t36))))
theorem raw_t52 : Opens Try.prog 52 (Kd.pair (Kd.int .i64) (Kd.pair (Kd.pair (Kd.int .i64) (Kd.int .i64)) (Kd.pair (Kd.int .i64) (Kd.pair (Kd.int .i64) (Kd.int .i64))))) (fun x => ((Lit.int .i64 x.1).wf = true) ∧ ((((Lit.int .i64 x.2.1.1).wf = true) ∧ ((Lit.int .i64 x.2.1.2).wf = true)) ∧ (((Lit.int .i64 x.2.2.1).wf = true) ∧ (((Lit.int .i64 x.2.2.2.1).wf = true) ∧ ((Lit.int .i64 x.2.2.2.2).wf = true))))) := (opens_struct Try.underlying52 (by kernel_rfl) (opens_fs_cons (by kernel_rfl) (by kernel_rfl) (opens_int Try.underlying2) (opens_fs_cons (by kernel_rfl) (by kernel_rfl) (opens_struct Try.underlying50 (by kernel_rfl) (opens_fs_cons (by kernel_rfl) (by kernel_rfl) (opens_int Try.underlying2) (opens_fs_one (by kernel_rfl) (by kernel_rfl) (opens_int Try.underlying2)))) (opens_fs_cons (by kernel_rfl) (by kernel_rfl) (opens_int Try.underlying2) (opens_fs_cons (by kernel_rfl) (by kernel_rfl) (opens_int Try.underlying2) (opens_fs_one (by kernel_rfl) (by kernel_rfl) (opens_int Try.underlying2)))))))
/-- what is known of a datum of type []string -/
def good_t77 (l : List ByteArray) : Prop := l.length ≤ 9223372036854775807 ∧ ∀ x, x ∈ l → x.size ≤ 9223372036854775807
theorem opens_t77 : Opens Try.prog 77 (Kd.slice 9 Kd.string) good_t77 := opens_slice Try.underlying77 (by kernel_rfl) (opens_string Try.underlying9)
theorem raw_t79 : Opens Try.prog 79 (Kd.pair (Kd.pair (Kd.int .i64) (Kd.int .i64)) (Kd.pair (Kd.int .i64) (Kd.pair (Kd.int .i64) (Kd.slice 9 Kd.string)))) (fun x => (((Lit.int .i64 x.1.1).wf = true) ∧ ((Lit.int .i64 x.1.2).wf = true)) ∧ (((Lit.int .i64 x.2.1).wf = true) ∧ (((Lit.int .i64 x.2.2.1).wf = true) ∧ (good_t77 x.2.2.2)))) := (opens_struct Try.underlying79 (by kernel_rfl) (opens_fs_cons (by kernel_rfl) (by kernel_rfl) (opens_struct Try.underlying50 (by kernel_rfl) (opens_fs_cons (by kernel_rfl) (by kernel_rfl) (opens_int Try.underlying2) (opens_fs_one (by kernel_rfl) (by kernel_rfl) (opens_int Try.underlying2)))) (opens_fs_cons (by kernel_rfl) (by kernel_rfl) (opens_int Try.underlying2) (opens_fs_cons (by kernel_rfl) (by kernel_rfl) (opens_int Try.underlying2) (opens_fs_one (by kernel_rfl) (by kernel_rfl) opens_t77)))))
end Go.Proofs.Ytlocignlkigojaa.Opens
