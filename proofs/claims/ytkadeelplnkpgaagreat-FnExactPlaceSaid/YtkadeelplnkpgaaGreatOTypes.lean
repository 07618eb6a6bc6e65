/- What reads as data reads as a kind of the print, type by type. No conditions. -/
import Derived.Test.YtkadeelplnkpgaaGreatOpens
import Derived.Test.YtkadeelplnkpgaaGreatQ0
import Derived.KernelRfl
namespace Go.Proofs.YtkadeelplnkpgaaGreat.Opens
open Go.RowKit Go.Deep Go.Proofs.YtkadeelplnkpgaaGreat.Q Go.Proofs.YtkadeelplnkpgaaGreatW.PrintWords
/-- what is known of a datum of type []int64 -/
def good_t29 (l : List Int) : Prop := l.length ≤ 9223372036854775807 ∧ ∀ x, x ∈ l → (Lit.int .i64 x).wf = true
theorem opens_t29 : Opens Tryz.prog 29 (Kd.slice 2 (Kd.int .i64)) good_t29 := opens_slice Tryz.underlying29 (by kernel_rfl) (opens_int Tryz.underlying2)
/-- what is known of a datum of type laws.Bucket -/
def good_t66 (x : S66) : Prop := (Lit.int .i64 x.f0).wf = true ∧ (Lit.int .i64 x.f1).wf = true ∧ good_t29 x.f2
theorem opens_t66 : Opens Tryz.prog 66 k66 good_t66 := opens_iso (fun x : S66 => (x.f0, x.f1, x.f2)) (fun p => ⟨p.1, p.2.1, p.2.2⟩) (fun _ => rfl) (opens_struct Tryz.underlying66 (by kernel_rfl) (opens_fs_cons (by kernel_rfl) (by kernel_rfl) (opens_int Tryz.underlying2) (opens_fs_cons (by kernel_rfl) (by kernel_rfl) (opens_int Tryz.underlying2) (opens_fs_one (by kernel_rfl) (by kernel_rfl) opens_t29))))
/-- what is known of a datum of type []laws.Bucket -/
def good_t23 (l : List S66) : Prop := l.length ≤ 9223372036854775807 ∧ ∀ x, x ∈ l → good_t66 x
theorem opens_t23 : Opens Tryz.prog 23 (Kd.slice 66 k66) good_t23 := opens_slice Tryz.underlying23 (by kernel_rfl) opens_t66
/-- what is known of a datum of type laws.Device -/
def good_t74 (x : S74) : Prop := (Lit.int .i64 x.f0).wf = true ∧ (Lit.int .i64 x.f1).wf = true
theorem opens_t74 : Opens Tryz.prog 74 k74 good_t74 := opens_iso (fun x : S74 => (x.f0, x.f1)) (fun p => ⟨p.1, p.2⟩) (fun _ => rfl) (opens_struct Tryz.underlying74 (by kernel_rfl) (opens_fs_cons (by kernel_rfl) (by kernel_rfl) (opens_int Tryz.underlying2) (opens_fs_one (by kernel_rfl) (by kernel_rfl) (opens_int Tryz.underlying2))))
/-- what is known of a datum of type []laws.Device -/
def good_t22 (l : List S74) : Prop := l.length ≤ 9223372036854775807 ∧ ∀ x, x ∈ l → good_t74 x
theorem opens_t22 : Opens Tryz.prog 22 (Kd.slice 74 k74) good_t22 := opens_slice Tryz.underlying22 (by kernel_rfl) opens_t74
theorem raw_t25 : Opens Tryz.prog 25 (Kd.pair (Kd.slice 74 k74) (Kd.slice 66 k66)) (fun x => (good_t22 x.1) ∧ (good_t23 x.2)) := (opens_struct Tryz.underlying25 (by kernel_rfl) (opens_fs_cons (by kernel_rfl) (by kernel_rfl) opens_t22 (opens_fs_one (by kernel_rfl) (by kernel_rfl) opens_t23)))
theorem raw_t27 : Opens Tryz.prog 27 (Kd.pair (Kd.int .i64) (Kd.pair (Kd.int .i64) (Kd.pair (Kd.int .i64) Kd.bool))) (fun x => ((Lit.int .i64 x.1).wf = true) ∧ (((Lit.int .i64 x.2.1).wf = true) ∧ (((Lit.int .i64 x.2.2.1).wf = true) ∧ (True)))) := (opens_struct Tryz.underlying27 (by kernel_rfl) (opens_fs_cons (by kernel_rfl) (by kernel_rfl) (opens_int Tryz.underlying2) (opens_fs_cons (by kernel_rfl) (by kernel_rfl) (opens_int Tryz.underlying2) (opens_fs_cons (by kernel_rfl) (by kernel_rfl) (opens_int Tryz.underlying2) (opens_fs_one (by kernel_rfl) (by kernel_rfl) (opens_bool Tryz.underlying4))))))
end Go.Proofs.YtkadeelplnkpgaaGreat.Opens
