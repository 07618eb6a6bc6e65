/- What reads as data reads as a kind of the print, type by type. No conditions. -/
import Derived.Test.YtbofikjgileanaaOpens
import Derived.Test.YtbofikjgileanaaQ0
import Derived.KernelRfl
namespace Go.Proofs.Ytbofikjgileanaa.Opens
open Go.RowKit Go.Deep Go.Proofs.Ytbofikjgileanaa.Q Go.Proofs.YtbofikjgileanaaW.PrintWords
/-- what is known of a datum of type []int64 -/
def good_t45 (l : List Int) : Prop := l.length ≤ 9223372036854775807 ∧ ∀ x, x ∈ l → (Lit.int .i64 x).wf = true
theorem opens_t45 : Opens Try.prog 45 (Kd.slice 2 (Kd.int .i64)) good_t45 := opens_slice Try.underlying45 (by kernel_rfl) (opens_int Try.underlying2)
/-- what is known of a datum of type laws.Bucket -/
def good_t113 (x : S113) : Prop := (Lit.int .i64 x.f0).wf = true ∧ (Lit.int .i64 x.f1).wf = true ∧ good_t45 x.f2
theorem opens_t113 : Opens Try.prog 113 k113 good_t113 := opens_iso (fun x : S113 => (x.f0, x.f1, x.f2)) (fun p => ⟨p.1, p.2.1, p.2.2⟩) (fun _ => rfl) (opens_struct Try.underlying113 (by kernel_rfl) (opens_fs_cons (by kernel_rfl) (by kernel_rfl) (opens_int Try.underlying2) (opens_fs_cons (by kernel_rfl) (by kernel_rfl) (opens_int Try.underlying2) (opens_fs_one (by kernel_rfl) (by kernel_rfl) opens_t45))))
/-- what is known of a datum of type []laws.Bucket -/
def good_t23 (l : List S113) : Prop := l.length ≤ 9223372036854775807 ∧ ∀ x, x ∈ l → good_t113 x
theorem opens_t23 : Opens Try.prog 23 (Kd.slice 113 k113) good_t23 := opens_slice Try.underlying23 (by kernel_rfl) opens_t113
/-- what is known of a datum of type laws.Device -/
def good_t116 (x : S116) : Prop := (Lit.int .i64 x.f0).wf = true ∧ (Lit.int .i64 x.f1).wf = true
theorem opens_t116 : Opens Try.prog 116 k116 good_t116 := opens_iso (fun x : S116 => (x.f0, x.f1)) (fun p => ⟨p.1, p.2⟩) (fun _ => rfl) (opens_struct Try.underlying116 (by kernel_rfl) (opens_fs_cons (by kernel_rfl) (by kernel_rfl) (opens_int Try.underlying2) (opens_fs_one (by kernel_rfl) (by kernel_rfl) (opens_int Try.underlying2))))
/-- what is known of a datum of type []laws.Device -/
def good_t22 (l : List S116) : Prop := l.length ≤ 9223372036854775807 ∧ ∀ x, x ∈ l → good_t116 x
theorem opens_t22 : Opens Try.prog 22 (Kd.slice 116 k116) good_t22 := opens_slice Try.underlying22 (by kernel_rfl) opens_t116
theorem raw_t25 : Opens Try.prog 25 (Kd.pair (Kd.slice 116 k116) (Kd.slice 113 k113)) (fun x => (good_t22 x.1) ∧ (good_t23 x.2)) := (opens_struct Try.underlying25 (by kernel_rfl) (opens_fs_cons (by kernel_rfl) (by kernel_rfl) opens_t22 (opens_fs_one (by kernel_rfl) (by kernel_rfl) opens_t23)))
theorem raw_t36 : Opens Try.prog 36 (Kd.pair (Kd.int .i64) (Kd.pair (Kd.int .i64) (Kd.pair (Kd.int .i64) Kd.bool))) (fun x => ((Lit.int .i64 x.1).wf = true) ∧ (((Lit.int .i64 x.2.1).wf = true) ∧ (((Lit.int .i64 x.2.2.1).wf = true) ∧ (True)))) := (opens_struct Try.underlying36 (by kernel_rfl) (opens_fs_cons (by kernel_rfl) (by kernel_rfl) (opens_int Try.underlying2) (opens_fs_cons (by kernel_rfl) (by kernel_rfl) (opens_int Try.underlying2) (opens_fs_cons (by kernel_rfl) (by kernel_rfl) (opens_int Try.underlying2) (opens_fs_one (by kernel_rfl) (by kernel_rfl) (opens_bool Try.underlying4))))))
end Go.Proofs.Ytbofikjgileanaa.Opens
