/- What reads as data reads as a kind of the print, type by type. No conditions. -/
import Derived.Test.YtohjpgcmhihdhaaDoorOpens
import Derived.Test.YtohjpgcmhihdhaaDoorQ0
import Derived.KernelRfl
namespace Go.Proofs.YtohjpgcmhihdhaaDoor.Opens
open Go.RowKit Go.Deep Go.Proofs.YtohjpgcmhihdhaaDoor.Q Go.Proofs.YtohjpgcmhihdhaaDoorW.PrintWords
/-- what is known of a datum of type []int64 -/
def good_t58 (l : List Int) : Prop := l.length ≤ 9223372036854775807 ∧ ∀ x, x ∈ l → (Lit.int .i64 x).wf = true
theorem opens_t58 : Opens Tryd.prog 58 (Kd.slice 2 (Kd.int .i64)) good_t58 := opens_slice Tryd.underlying58 (by kernel_rfl) (opens_int Tryd.underlying2)
/-- what is known of a datum of type laws.Bucket -/
def good_t60 (x : S60) : Prop := (Lit.int .i64 x.f0).wf = true ∧ (Lit.int .i64 x.f1).wf = true ∧ good_t58 x.f2
theorem opens_t60 : Opens Tryd.prog 60 k60 good_t60 := opens_iso (fun x : S60 => (x.f0, x.f1, x.f2)) (fun p => ⟨p.1, p.2.1, p.2.2⟩) (fun _ => rfl) (opens_struct Tryd.underlying60 (by kernel_rfl) (opens_fs_cons (by kernel_rfl) (by kernel_rfl) (opens_int Tryd.underlying2) (opens_fs_cons (by kernel_rfl) (by kernel_rfl) (opens_int Tryd.underlying2) (opens_fs_one (by kernel_rfl) (by kernel_rfl) opens_t58))))
/-- what is known of a datum of type []laws.Bucket -/
def good_t23 (l : List S60) : Prop := l.length ≤ 9223372036854775807 ∧ ∀ x, x ∈ l → good_t60 x
theorem opens_t23 : Opens Tryd.prog 23 (Kd.slice 60 k60) good_t23 := opens_slice Tryd.underlying23 (by kernel_rfl) opens_t60
/-- what is known of a datum of type laws.Device -/
def good_t68 (x : S68) : Prop := (Lit.int .i64 x.f0).wf = true ∧ (Lit.int .i64 x.f1).wf = true
theorem opens_t68 : Opens Tryd.prog 68 k68 good_t68 := opens_iso (fun x : S68 => (x.f0, x.f1)) (fun p => ⟨p.1, p.2⟩) (fun _ => rfl) (opens_struct Tryd.underlying68 (by kernel_rfl) (opens_fs_cons (by kernel_rfl) (by kernel_rfl) (opens_int Tryd.underlying2) (opens_fs_one (by kernel_rfl) (by kernel_rfl) (opens_int Tryd.underlying2))))
/-- what is known of a datum of type []laws.Device -/
def good_t22 (l : List S68) : Prop := l.length ≤ 9223372036854775807 ∧ ∀ x, x ∈ l → good_t68 x
theorem opens_t22 : Opens Tryd.prog 22 (Kd.slice 68 k68) good_t22 := opens_slice Tryd.underlying22 (by kernel_rfl) opens_t68
theorem raw_t25 : Opens Tryd.prog 25 (Kd.pair (Kd.slice 68 k68) (Kd.slice 60 k60)) (fun x => (good_t22 x.1) ∧ (good_t23 x.2)) := (opens_struct Tryd.underlying25 (by kernel_rfl) (opens_fs_cons (by kernel_rfl) (by kernel_rfl) opens_t22 (opens_fs_one (by kernel_rfl) (by kernel_rfl) opens_t23)))
end Go.Proofs.YtohjpgcmhihdhaaDoor.Opens
