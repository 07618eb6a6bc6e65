/- What reads as data reads as a kind of the print, type by type. No conditions. -/
import Derived.Test.YtkadeelplnkpgaaOpens
import Derived.Test.YtkadeelplnkpgaaQ0
import Derived.KernelRfl
namespace Go.Proofs.Ytkadeelplnkpgaa.Opens
open Go.RowKit Go.Deep Go.Proofs.Ytkadeelplnkpgaa.Q Go.Proofs.YtkadeelplnkpgaaW.PrintWords
/-- what is known of a datum of type []int64 -/
def good_t34 (l : List Int) : Prop := l.length ≤ 9223372036854775807 ∧ ∀ x, x ∈ l → (Lit.int .i64 x).wf = true
theorem opens_t34 : Opens Try.prog 34 (Kd.slice 2 (Kd.int .i64)) good_t34 := opens_slice Try.underlying34 (by kernel_rfl) (opens_int Try.underlying2)
/-- what is known of a datum of type laws.Bucket -/
def good_t106 (x : S106) : Prop := (Lit.int .i64 x.f0).wf = true ∧ (Lit.int .i64 x.f1).wf = true ∧ good_t34 x.f2
theorem opens_t106 : Opens Try.prog 106 k106 good_t106 := opens_iso (fun x : S106 => (x.f0, x.f1, x.f2)) (fun p => ⟨p.1, p.2.1, p.2.2⟩) (fun _ => rfl) (opens_struct Try.underlying106 (by kernel_rfl) (opens_fs_cons (by kernel_rfl) (by kernel_rfl) (opens_int Try.underlying2) (opens_fs_cons (by kernel_rfl) (by kernel_rfl) (opens_int Try.underlying2) (opens_fs_one (by kernel_rfl) (by kernel_rfl) opens_t34))))
/-- what is known of a datum of type []laws.Bucket -/
def good_t23 (l : List S106) : Prop := l.length ≤ 9223372036854775807 ∧ ∀ x, x ∈ l → good_t106 x
theorem opens_t23 : Opens Try.prog 23 (Kd.slice 106 k106) good_t23 := opens_slice Try.underlying23 (by kernel_rfl) opens_t106
/-- what is known of a datum of type laws.Device -/
def good_t110 (x : S110) : Prop := (Lit.int .i64 x.f0).wf = true ∧ (Lit.int .i64 x.f1).wf = true
theorem opens_t110 : Opens Try.prog 110 k110 good_t110 := opens_iso (fun x : S110 => (x.f0, x.f1)) (fun p => ⟨p.1, p.2⟩) (fun _ => rfl) (opens_struct Try.underlying110 (by kernel_rfl) (opens_fs_cons (by kernel_rfl) (by kernel_rfl) (opens_int Try.underlying2) (opens_fs_one (by kernel_rfl) (by kernel_rfl) (opens_int Try.underlying2))))
/-- what is known of a datum of type []laws.Device -/
def good_t22 (l : List S110) : Prop := l.length ≤ 9223372036854775807 ∧ ∀ x, x ∈ l → good_t110 x
theorem opens_t22 : Opens Try.prog 22 (Kd.slice 110 k110) good_t22 := opens_slice Try.underlying22 (by kernel_rfl) opens_t110
theorem raw_t25 : Opens Try.prog 25 (Kd.pair (Kd.slice 110 k110) (Kd.slice 106 k106)) (fun x => (good_t22 x.1) ∧ (good_t23 x.2)) := (opens_struct Try.underlying25 (by kernel_rfl) (opens_fs_cons (by kernel_rfl) (by kernel_rfl) opens_t22 (opens_fs_one (by kernel_rfl) (by kernel_rfl) opens_t23)))
theorem raw_t63 : Opens Try.prog 63 (Kd.pair (Kd.int .i64) (Kd.pair (Kd.int .i64) (Kd.pair (Kd.int .i64) Kd.bool))) (fun x => ((Lit.int .i64 x.1).wf = true) ∧ (((Lit.int .i64 x.2.1).wf = true) ∧ (((Lit.int .i64 x.2.2.1).wf = true) ∧ (True)))) := (opens_struct Try.underlying63 (by kernel_rfl) (opens_fs_cons (by kernel_rfl) (by kernel_rfl) (opens_int Try.underlying2) (opens_fs_cons (by kernel_rfl) (by kernel_rfl) (opens_int Try.underlying2) (opens_fs_cons (by kernel_rfl) (by kernel_rfl) (opens_int Try.underlying2) (opens_fs_one (by kernel_rfl) (by kernel_rfl) (opens_bool Try.underlying4))))))
end Go.Proofs.Ytkadeelplnkpgaa.Opens
