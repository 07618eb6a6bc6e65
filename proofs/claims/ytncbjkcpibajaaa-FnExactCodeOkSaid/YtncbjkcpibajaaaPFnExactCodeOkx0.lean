-- PRINTED BY print.sh 35421559b90ae4d0a3588c463048766b98c2df88dd9212a6774a882060cdf62d: not written by this session
import Derived.Test.YtncbjkcpibajaaaProg
import Derived.Below
import Derived.Deep.Draws
import Derived.Deep.AppendLies
import Derived.Maps.AppendAt
import Derived.OwnWalk
import Derived.Laws.BytesArg
import Derived.Laws.MakeOwn
import Derived.Laws.OwnMore
import Derived.Deep.OwnRows
import Derived.Tactics
import Derived.Lib.ConvBytes
import Derived.Laws.Slices
import Derived.WalkKit
import Derived.KernelRfl
import Derived.RowKit3
import Derived.Deep.LoopGhost
import Derived.Deep.QuietTactic
import Derived.BigQuiet
import Derived.WideLaws
import Derived.Deep.DeepCutAuto
import Derived.Deep.CutBlock
import Derived.Deep.RegionHeld3
import Derived.Laws.Rows
import Derived.Lib.AppendStr
import Derived.ArgAppend
import Derived.Laws.IdiomCopy
import Derived.OrdersHeld
import Derived.Laws.BitsLemmas
import Derived.RowKit
import Derived.Test.YtncbjkcpibajaaaWWords
import Derived.Test.YtncbjkcpibajaaaWLast
import Derived.Test.YtncbjkcpibajaaaWTab
import Derived.Test.YtncbjkcpibajaaaWFour
import Derived.Test.YtncbjkcpibajaaaWQPut
import Derived.Test.YtncbjkcpibajaaaWApart
import Derived.Test.YtncbjkcpibajaaaWArr
import Derived.Test.YtncbjkcpibajaaaWZeros
import Derived.Test.YtncbjkcpibajaaaWFoot
import Derived.Test.YtncbjkcpibajaaaWKept
import Derived.Test.YtncbjkcpibajaaaWShare
import Derived.Test.YtncbjkcpibajaaaWN
import Derived.Test.YtncbjkcpibajaaaWFootNe
import Derived.Test.YtncbjkcpibajaaaWAt
import Derived.Test.YtncbjkcpibajaaaWEqStruct
import Derived.Test.YtncbjkcpibajaaaWRepsOne
import Derived.Test.YtncbjkcpibajaaaWInv
import Derived.Test.YtncbjkcpibajaaaWInvWords
import Derived.Test.YtncbjkcpibajaaaWGuard
import Derived.Test.YtncbjkcpibajaaaWNEv
import Derived.Test.YtncbjkcpibajaaaWMore
namespace Go.Proofs.Ytncbjkcpibajaaa.PFnExactCodeOk
open Go.RowKit Go.Proofs.YtncbjkcpibajaaaW.PrintWords Go.Proofs.YtncbjkcpibajaaaW.PrintLast Go.Proofs.YtncbjkcpibajaaaW.PrintMore
attribute [local go_sem] max2_int min2_int max_two min_two max_three min_three max_four min_four   -- for this text's walks alone
set_option linter.unusedVariables false
set_option linter.unusedSimpArgs false



def errW : Option Int → Value
  | none => .nilIface
  | some c => .iface 0 (.int .i64 c)
theorem errW_none : errW none = .nilIface := rfl
theorem errW_some (c : Int) : errW (some c) = .iface 0 (.int .i64 c) := rfl

-- the values' own types

end Go.Proofs.Ytncbjkcpibajaaa.PFnExactCodeOk
