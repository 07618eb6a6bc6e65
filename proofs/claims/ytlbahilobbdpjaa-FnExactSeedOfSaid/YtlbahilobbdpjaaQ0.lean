/- Walks of the Go functions that the laws call: each returns what a plain Lean function says. Written by a program for these claims. -/
import Derived.Test.YtlbahilobbdpjaaProg
import Derived.Test.YtlbahilobbdpjaaOwnWords
import Derived.Test.YtlbahilobbdpjaaShelf
import Derived.Below
import Derived.Deep.Draws
import Derived.Deep.AppendLies
import Derived.Maps.AppendAt
import Derived.OwnWalk
import Derived.Laws.BytesArg
import Derived.Laws.MakeOwn
import Derived.Laws.OwnMore
import Derived.Deep.OwnRows
import Derived.Tactics
import Derived.Lib.ConvBytes
import Derived.Laws.Slices
import Derived.WalkKit
import Derived.KernelRfl
import Derived.RowKit3
import Derived.Deep.LoopGhost
import Derived.Deep.QuietTactic
import Derived.BigQuiet
import Derived.WideLaws
import Derived.Deep.DeepCutAuto
import Derived.Deep.CutBlock
import Derived.Deep.RegionHeld3
import Derived.Laws.Rows
import Derived.Lib.AppendStr
import Derived.ArgAppend
import Derived.Laws.IdiomCopy
import Derived.OrdersHeld
import Derived.Laws.BitsLemmas
import Derived.RowKit
import Derived.Test.YtlbahilobbdpjaaWWords
import Derived.Test.YtlbahilobbdpjaaWLast
import Derived.Test.YtlbahilobbdpjaaWTab
import Derived.Test.YtlbahilobbdpjaaWFour
import Derived.Test.YtlbahilobbdpjaaWQPut
import Derived.Test.YtlbahilobbdpjaaWApart
import Derived.Test.YtlbahilobbdpjaaWArr
import Derived.Test.YtlbahilobbdpjaaWZeros
import Derived.Test.YtlbahilobbdpjaaWFoot
import Derived.Test.YtlbahilobbdpjaaWKept
import Derived.Test.YtlbahilobbdpjaaWShare
import Derived.Test.YtlbahilobbdpjaaWN
import Derived.Test.YtlbahilobbdpjaaWFootNe
import Derived.Test.YtlbahilobbdpjaaWAt
import Derived.Test.YtlbahilobbdpjaaWEqStruct
import Derived.Test.YtlbahilobbdpjaaWRepsOne
import Derived.Test.YtlbahilobbdpjaaWInv
import Derived.Test.YtlbahilobbdpjaaWInvWords
import Derived.Test.YtlbahilobbdpjaaWGuard
import Derived.Test.YtlbahilobbdpjaaWNEv
import Derived.Test.YtlbahilobbdpjaaWMore
namespace Go.Proofs.Ytlbahilobbdpjaa.Q
open Go.RowKit Go.Proofs.YtlbahilobbdpjaaW.PrintWords Go.Proofs.YtlbahilobbdpjaaW.PrintLast Go.Proofs.YtlbahilobbdpjaaW.PrintMore
attribute [local go_sem] max2_int min2_int max_two min_two max_three min_three max_four min_four   -- for this text's walks alone
set_option linter.unusedVariables false
set_option linter.unusedSimpArgs false



def errW : Option Int → Value
  | none => .nilIface
  | some c => .iface 0 (.int .i64 c)
theorem errW_none : errW none = .nilIface := rfl
theorem errW_some (c : Int) : errW (some c) = .iface 0 (.int .i64 c) := rfl

theorem info2 : (Try.prog.info? 2).map (fun i => (i.zero, i.size, i.bytes)) = some (some (.int .i64 0), 1, 8) := by kernel_rfl
theorem info5 : (Try.prog.info? 5).map (fun i => (i.zero, i.size, i.bytes)) = some (some (.int .u8 0), 1, 1) := by kernel_rfl
-- the values' own types

end Go.Proofs.Ytlbahilobbdpjaa.Q
