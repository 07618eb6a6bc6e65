/- The pure statement of FnExactGfAdd: for every pair of numbers the two printed functions agree. -/
import Derived.Test.YtncbjkcpibajaaaPFnExactGfAddx1
namespace Go.Proofs.Ytncbjkcpibajaaa.Pure
open Go.RowKit Go.Proofs.Ytncbjkcpibajaaa.PFnExactGfAdd Go.Proofs.YtncbjkcpibajaaaW.PrintWords Go.Proofs.YtncbjkcpibajaaaW.PrintLast

theorem gf_eq (a b : Int) : impl_GfAdd.f a b = spec_GfAdd.f a b := rfl

theorem gf_total (a b : Int) : ∃ r, spec_GfAdd.f a b = some r := by
  unfold spec_GfAdd.f spec_l02Byte.f spec_l00In.f
  repeat' first
    | split
    | exact ⟨_, rfl⟩
    | simp only [Option.bind_some]

theorem FnExactGfAdd : laws_FnExactGfAdd.Pure := by
  intro a b _ _
  obtain ⟨r, hr⟩ := gf_total a b
  unfold laws_FnExactGfAdd.f
  rw [gf_eq, hr]
  simp

end Go.Proofs.Ytncbjkcpibajaaa.Pure
