/- The pure statement of FnExactConstants: the printed law returns true. -/
import Derived.Test.YtncbjkcpibajaaaPFnExactConstantsx1
namespace Go.Proofs.Ytncbjkcpibajaaa.Pure
open Go.RowKit Go.Proofs.Ytncbjkcpibajaaa.PFnExactConstants Go.Proofs.YtncbjkcpibajaaaW.PrintWords Go.Proofs.YtncbjkcpibajaaaW.PrintLast

theorem FnExactConstants : laws_FnExactConstants.Pure := rfl

end Go.Proofs.Ytncbjkcpibajaaa.Pure
