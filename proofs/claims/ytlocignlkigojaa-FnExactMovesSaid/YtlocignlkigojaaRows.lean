/-
  No cell of these rows narrows 'for every input' (looked for: loops, veiled, ifaces, maps, wideKeys, modest, calm, conditions, laid).
  DERIVED. THE GIVEN ROWS OF THIS SEAT. 16 by the template 'for every input the law returns true; each argument reads behind the call as it read before'; 0 by the template 'total and deterministic' (their statements: YtlocignlkigojaaTotals.lean).
  GIVEN WITH THE SEED: the statements are not yours to turn. If you find one false, say at which input.
  Laid BY PROGRAM, IN A SANDBOX (cutbox-rows.mjs): the forced cells as the released guide's own fill.sh prints them over the translation d5f19e272e600b50… (all of the seat's roots in one cut). By AI agents, Wed Nov 11 2026. No macro, syntax, notation, axiom, sorry.
-/
import Derived.Test.YtlocignlkigojaaChecked
import GoSem.Claim
import GoSem.ClaimJoined
import GoSem.ClaimMapViews
import Derived.JoinedTies
import Derived.KernelRfl
namespace Go.Proofs.Ytlocignlkigojaa
/- THE CELL 'sum', in the pinned program and in every row, IS THE sha256 OF THE DUMP (.gsa) THAT YtlocignlkigojaaProg.lean LOADS. Nothing in Lean hashes anything: it is a label: what it is worth is what the hold of that sum in a sandbox is worth. -/
noncomputable def Try.pinned : Pinned := { name := "ytlocignlkigojaa", sum := "d5f19e272e600b50cd63f8f3782a3ed723b56619b08b332d612d07238e12236c", checked := Try.checked }
namespace Rows
def none {H : Type} : Left H := { results := [], args := [] }

/-- 'laws.FnExactBestTicket': WHATEVER THE INPUT: true; the input reads as it did. -/
def fnExactBestTicketSpec : ChangeSpec := { name := "fnExactBestTicket", fn := fun _ => fun
  | [d1, d2, d3] => { results := [.lit (.bool true)], args := [d1, d2, d3] }
  | _ => none }
def fnExactBestTicketRow : OpenClaim := { program := "ytlocignlkigojaa", sum := "d5f19e272e600b50cd63f8f3782a3ed723b56619b08b332d612d07238e12236c", func := "loop.example/g00849/laws.FnExactBestTicket", spec := "fnExactBestTicket", apart := false }
def FnExactBestTicketSaid : Prop := fnExactBestTicketRow.holds Try.pinned (OpenSpec.ofChange fnExactBestTicketSpec)

/-- ITS FALSE NEIGHBOUR: 'it returns false'. Refute it at one input. -/
def fnExactBestTicketWrong : ChangeSpec := { name := "fnExactBestTicket", fn := fun _ => fun
  | [d1, d2, d3] => { results := [.lit (.bool false)], args := [d1, d2, d3] }
  | _ => none }
def FnExactBestTicketWrongFalsely : Prop := fnExactBestTicketRow.holds Try.pinned (OpenSpec.ofChange fnExactBestTicketWrong)

/-- 'laws.FnExactItemsOk': WHATEVER THE INPUT: true; the input reads as it did. -/
def fnExactItemsOkSpec : ChangeSpec := { name := "fnExactItemsOk", fn := fun _ => fun
  | [d] => { results := [.lit (.bool true)], args := [d] }
  | _ => none }
def fnExactItemsOkRow : OpenClaim := { program := "ytlocignlkigojaa", sum := "d5f19e272e600b50cd63f8f3782a3ed723b56619b08b332d612d07238e12236c", func := "loop.example/g00849/laws.FnExactItemsOk", spec := "fnExactItemsOk", unfollowed := true, recurses := true, apart := false }
def FnExactItemsOkSaid : Prop := fnExactItemsOkRow.holds Try.pinned (OpenSpec.ofChange fnExactItemsOkSpec)

/-- ITS FALSE NEIGHBOUR: 'it returns false'. Refute it at one input. -/
def fnExactItemsOkWrong : ChangeSpec := { name := "fnExactItemsOk", fn := fun _ => fun
  | [d] => { results := [.lit (.bool false)], args := [d] }
  | _ => none }
def FnExactItemsOkWrongFalsely : Prop := fnExactItemsOkRow.holds Try.pinned (OpenSpec.ofChange fnExactItemsOkWrong)

/-- 'laws.FnExactMatrixOk': WHATEVER THE INPUT: true; the input reads as it did. -/
def fnExactMatrixOkSpec : ChangeSpec := { name := "fnExactMatrixOk", fn := fun _ => fun
  | [d] => { results := [.lit (.bool true)], args := [d] }
  | _ => none }
def fnExactMatrixOkRow : OpenClaim := { program := "ytlocignlkigojaa", sum := "d5f19e272e600b50cd63f8f3782a3ed723b56619b08b332d612d07238e12236c", func := "loop.example/g00849/laws.FnExactMatrixOk", spec := "fnExactMatrixOk", unfollowed := true, recurses := true, apart := false }
def FnExactMatrixOkSaid : Prop := fnExactMatrixOkRow.holds Try.pinned (OpenSpec.ofChange fnExactMatrixOkSpec)

/-- ITS FALSE NEIGHBOUR: 'it returns false'. Refute it at one input. -/
def fnExactMatrixOkWrong : ChangeSpec := { name := "fnExactMatrixOk", fn := fun _ => fun
  | [d] => { results := [.lit (.bool false)], args := [d] }
  | _ => none }
def FnExactMatrixOkWrongFalsely : Prop := fnExactMatrixOkRow.holds Try.pinned (OpenSpec.ofChange fnExactMatrixOkWrong)

/-- 'laws.FnExactMatUnit': WHATEVER THE INPUT: true; the input reads as it did. -/
def fnExactMatUnitSpec : ChangeSpec := { name := "fnExactMatUnit", fn := fun _ => fun
  | [d] => { results := [.lit (.bool true)], args := [d] }
  | _ => none }
def fnExactMatUnitRow : OpenClaim := { program := "ytlocignlkigojaa", sum := "d5f19e272e600b50cd63f8f3782a3ed723b56619b08b332d612d07238e12236c", func := "loop.example/g00849/laws.FnExactMatUnit", spec := "fnExactMatUnit", apart := false }
def FnExactMatUnitSaid : Prop := fnExactMatUnitRow.holds Try.pinned (OpenSpec.ofChange fnExactMatUnitSpec)

/-- ITS FALSE NEIGHBOUR: 'it returns false'. Refute it at one input. -/
def fnExactMatUnitWrong : ChangeSpec := { name := "fnExactMatUnit", fn := fun _ => fun
  | [d] => { results := [.lit (.bool false)], args := [d] }
  | _ => none }
def FnExactMatUnitWrongFalsely : Prop := fnExactMatUnitRow.holds Try.pinned (OpenSpec.ofChange fnExactMatUnitWrong)

/-- 'laws.FnExactPgOf': WHATEVER THE INPUT: true; the input reads as it did. -/
def fnExactPgOfSpec : ChangeSpec := { name := "fnExactPgOf", fn := fun _ => fun
  | [d1, d2] => { results := [.lit (.bool true)], args := [d1, d2] }
  | _ => none }
def fnExactPgOfRow : OpenClaim := { program := "ytlocignlkigojaa", sum := "d5f19e272e600b50cd63f8f3782a3ed723b56619b08b332d612d07238e12236c", func := "loop.example/g00849/laws.FnExactPgOf", spec := "fnExactPgOf", apart := false }
def FnExactPgOfSaid : Prop := fnExactPgOfRow.holds Try.pinned (OpenSpec.ofChange fnExactPgOfSpec)

/-- ITS FALSE NEIGHBOUR: 'it returns false'. Refute it at one input. -/
def fnExactPgOfWrong : ChangeSpec := { name := "fnExactPgOf", fn := fun _ => fun
  | [d1, d2] => { results := [.lit (.bool false)], args := [d1, d2] }
  | _ => none }
def FnExactPgOfWrongFalsely : Prop := fnExactPgOfRow.holds Try.pinned (OpenSpec.ofChange fnExactPgOfWrong)

/-- 'laws.FnExactSameMatrix': WHATEVER THE INPUT: true; the input reads as it did. -/
def fnExactSameMatrixSpec : ChangeSpec := { name := "fnExactSameMatrix", fn := fun _ => fun
  | [d1, d2] => { results := [.lit (.bool true)], args := [d1, d2] }
  | _ => none }
def fnExactSameMatrixRow : OpenClaim := { program := "ytlocignlkigojaa", sum := "d5f19e272e600b50cd63f8f3782a3ed723b56619b08b332d612d07238e12236c", func := "loop.example/g00849/laws.FnExactSameMatrix", spec := "fnExactSameMatrix", unfollowed := true, recurses := true, apart := false }
def FnExactSameMatrixSaid : Prop := fnExactSameMatrixRow.holds Try.pinned (OpenSpec.ofChange fnExactSameMatrixSpec)

/-- ITS FALSE NEIGHBOUR: 'it returns false'. Refute it at one input. -/
def fnExactSameMatrixWrong : ChangeSpec := { name := "fnExactSameMatrix", fn := fun _ => fun
  | [d1, d2] => { results := [.lit (.bool false)], args := [d1, d2] }
  | _ => none }
def FnExactSameMatrixWrongFalsely : Prop := fnExactSameMatrixRow.holds Try.pinned (OpenSpec.ofChange fnExactSameMatrixWrong)

/-- 'laws.FnVars': WHATEVER THE INPUT: true; the input reads as it did. -/
def fnVarsSpec : ChangeSpec := { name := "fnVars", fn := fun _ => fun
  | [d] => { results := [.lit (.bool true)], args := [d] }
  | _ => none }
def fnVarsRow : OpenClaim := { program := "ytlocignlkigojaa", sum := "d5f19e272e600b50cd63f8f3782a3ed723b56619b08b332d612d07238e12236c", func := "loop.example/g00849/laws.FnVars", spec := "fnVars", inPlace := ["internal/bytealg.IndexByteString"], apart := false }
def FnVarsSaid : Prop := fnVarsRow.holds Try.pinned (OpenSpec.ofChange fnVarsSpec)

/-- ITS FALSE NEIGHBOUR: 'it returns false'. Refute it at one input. -/
def fnVarsWrong : ChangeSpec := { name := "fnVars", fn := fun _ => fun
  | [d] => { results := [.lit (.bool false)], args := [d] }
  | _ => none }
def FnVarsWrongFalsely : Prop := fnVarsRow.holds Try.pinned (OpenSpec.ofChange fnVarsWrong)

/-- 'laws.FnExactWideOk': WHATEVER THE INPUT: true; the input reads as it did. -/
def fnExactWideOkSpec : ChangeSpec := { name := "fnExactWideOk", fn := fun _ => fun
  | [d] => { results := [.lit (.bool true)], args := [d] }
  | _ => none }
def fnExactWideOkRow : OpenClaim := { program := "ytlocignlkigojaa", sum := "d5f19e272e600b50cd63f8f3782a3ed723b56619b08b332d612d07238e12236c", func := "loop.example/g00849/laws.FnExactWideOk", spec := "fnExactWideOk", unfollowed := true, recurses := true, apart := false }
def FnExactWideOkSaid : Prop := fnExactWideOkRow.holds Try.pinned (OpenSpec.ofChange fnExactWideOkSpec)

/-- ITS FALSE NEIGHBOUR: 'it returns false'. Refute it at one input. -/
def fnExactWideOkWrong : ChangeSpec := { name := "fnExactWideOk", fn := fun _ => fun
  | [d] => { results := [.lit (.bool false)], args := [d] }
  | _ => none }
def FnExactWideOkWrongFalsely : Prop := fnExactWideOkRow.holds Try.pinned (OpenSpec.ofChange fnExactWideOkWrong)

/-- 'laws.FnExactMoves': WHATEVER THE INPUT: true; the input reads as it did. -/
def fnExactMovesSpec : ChangeSpec := { name := "fnExactMoves", fn := fun _ => fun
  | [d1, d2] => { results := [.lit (.bool true)], args := [d1, d2] }
  | _ => none }
def fnExactMovesRow : OpenClaim := { program := "ytlocignlkigojaa", sum := "d5f19e272e600b50cd63f8f3782a3ed723b56619b08b332d612d07238e12236c", func := "loop.example/g00849/laws.FnExactMoves", spec := "fnExactMoves", unfollowed := true, recurses := true, apart := false }
def FnExactMovesSaid : Prop := fnExactMovesRow.holds Try.pinned (OpenSpec.ofChange fnExactMovesSpec)

/-- ITS FALSE NEIGHBOUR: 'it returns false'. Refute it at one input. -/
def fnExactMovesWrong : ChangeSpec := { name := "fnExactMoves", fn := fun _ => fun
  | [d1, d2] => { results := [.lit (.bool false)], args := [d1, d2] }
  | _ => none }
def FnExactMovesWrongFalsely : Prop := fnExactMovesRow.holds Try.pinned (OpenSpec.ofChange fnExactMovesWrong)

/-- 'laws.FnTickets': WHATEVER THE INPUT: true; the input reads as it did. -/
def fnTicketsSpec : ChangeSpec := { name := "fnTickets", fn := fun _ => fun
  | [d] => { results := [.lit (.bool true)], args := [d] }
  | _ => none }
def fnTicketsRow : OpenClaim := { program := "ytlocignlkigojaa", sum := "d5f19e272e600b50cd63f8f3782a3ed723b56619b08b332d612d07238e12236c", func := "loop.example/g00849/laws.FnTickets", spec := "fnTickets", unfollowed := true, recurses := true, apart := false }
def FnTicketsSaid : Prop := fnTicketsRow.holds Try.pinned (OpenSpec.ofChange fnTicketsSpec)

/-- ITS FALSE NEIGHBOUR: 'it returns false'. Refute it at one input. -/
def fnTicketsWrong : ChangeSpec := { name := "fnTickets", fn := fun _ => fun
  | [d] => { results := [.lit (.bool false)], args := [d] }
  | _ => none }
def FnTicketsWrongFalsely : Prop := fnTicketsRow.holds Try.pinned (OpenSpec.ofChange fnTicketsWrong)

/-- 'laws.FnExactExceptsOk': WHATEVER THE INPUT: true; the input reads as it did. -/
def fnExactExceptsOkSpec : ChangeSpec := { name := "fnExactExceptsOk", fn := fun _ => fun
  | [d] => { results := [.lit (.bool true)], args := [d] }
  | _ => none }
def fnExactExceptsOkRow : OpenClaim := { program := "ytlocignlkigojaa", sum := "d5f19e272e600b50cd63f8f3782a3ed723b56619b08b332d612d07238e12236c", func := "loop.example/g00849/laws.FnExactExceptsOk", spec := "fnExactExceptsOk", unfollowed := true, recurses := true, apart := false }
def FnExactExceptsOkSaid : Prop := fnExactExceptsOkRow.holds Try.pinned (OpenSpec.ofChange fnExactExceptsOkSpec)

/-- ITS FALSE NEIGHBOUR: 'it returns false'. Refute it at one input. -/
def fnExactExceptsOkWrong : ChangeSpec := { name := "fnExactExceptsOk", fn := fun _ => fun
  | [d] => { results := [.lit (.bool false)], args := [d] }
  | _ => none }
def FnExactExceptsOkWrongFalsely : Prop := fnExactExceptsOkRow.holds Try.pinned (OpenSpec.ofChange fnExactExceptsOkWrong)

/-- 'laws.FnShares': WHATEVER THE INPUT: true; the input reads as it did. -/
def fnSharesSpec : ChangeSpec := { name := "fnShares", fn := fun _ => fun
  | [d] => { results := [.lit (.bool true)], args := [d] }
  | _ => none }
def fnSharesRow : OpenClaim := { program := "ytlocignlkigojaa", sum := "d5f19e272e600b50cd63f8f3782a3ed723b56619b08b332d612d07238e12236c", func := "loop.example/g00849/laws.FnShares", spec := "fnShares", unfollowed := true, recurses := true, apart := false }
def FnSharesSaid : Prop := fnSharesRow.holds Try.pinned (OpenSpec.ofChange fnSharesSpec)

/-- ITS FALSE NEIGHBOUR: 'it returns false'. Refute it at one input. -/
def fnSharesWrong : ChangeSpec := { name := "fnShares", fn := fun _ => fun
  | [d] => { results := [.lit (.bool false)], args := [d] }
  | _ => none }
def FnSharesWrongFalsely : Prop := fnSharesRow.holds Try.pinned (OpenSpec.ofChange fnSharesWrong)

/-- 'laws.FnExactCellOf': WHATEVER THE INPUT: true; the input reads as it did. -/
def fnExactCellOfSpec : ChangeSpec := { name := "fnExactCellOf", fn := fun _ => fun
  | [d1, d2] => { results := [.lit (.bool true)], args := [d1, d2] }
  | _ => none }
def fnExactCellOfRow : OpenClaim := { program := "ytlocignlkigojaa", sum := "d5f19e272e600b50cd63f8f3782a3ed723b56619b08b332d612d07238e12236c", func := "loop.example/g00849/laws.FnExactCellOf", spec := "fnExactCellOf", unfollowed := true, recurses := true, apart := false }
def FnExactCellOfSaid : Prop := fnExactCellOfRow.holds Try.pinned (OpenSpec.ofChange fnExactCellOfSpec)

/-- ITS FALSE NEIGHBOUR: 'it returns false'. Refute it at one input. -/
def fnExactCellOfWrong : ChangeSpec := { name := "fnExactCellOf", fn := fun _ => fun
  | [d1, d2] => { results := [.lit (.bool false)], args := [d1, d2] }
  | _ => none }
def FnExactCellOfWrongFalsely : Prop := fnExactCellOfRow.holds Try.pinned (OpenSpec.ofChange fnExactCellOfWrong)

/-- 'laws.FnExactMatRows': WHATEVER THE INPUT: true; the input reads as it did. -/
def fnExactMatRowsSpec : ChangeSpec := { name := "fnExactMatRows", fn := fun _ => fun
  | [d1, d2] => { results := [.lit (.bool true)], args := [d1, d2] }
  | _ => none }
def fnExactMatRowsRow : OpenClaim := { program := "ytlocignlkigojaa", sum := "d5f19e272e600b50cd63f8f3782a3ed723b56619b08b332d612d07238e12236c", func := "loop.example/g00849/laws.FnExactMatRows", spec := "fnExactMatRows", unfollowed := true, recurses := true, apart := false }
def FnExactMatRowsSaid : Prop := fnExactMatRowsRow.holds Try.pinned (OpenSpec.ofChange fnExactMatRowsSpec)

/-- ITS FALSE NEIGHBOUR: 'it returns false'. Refute it at one input. -/
def fnExactMatRowsWrong : ChangeSpec := { name := "fnExactMatRows", fn := fun _ => fun
  | [d1, d2] => { results := [.lit (.bool false)], args := [d1, d2] }
  | _ => none }
def FnExactMatRowsWrongFalsely : Prop := fnExactMatRowsRow.holds Try.pinned (OpenSpec.ofChange fnExactMatRowsWrong)

/-- 'laws.FnExactChooseOne': WHATEVER THE INPUT: true; the input reads as it did. -/
def fnExactChooseOneSpec : ChangeSpec := { name := "fnExactChooseOne", fn := fun _ => fun
  | [d1, d2, d3] => { results := [.lit (.bool true)], args := [d1, d2, d3] }
  | _ => none }
def fnExactChooseOneRow : OpenClaim := { program := "ytlocignlkigojaa", sum := "d5f19e272e600b50cd63f8f3782a3ed723b56619b08b332d612d07238e12236c", func := "loop.example/g00849/laws.FnExactChooseOne", spec := "fnExactChooseOne", unfollowed := true, recurses := true, apart := false }
def FnExactChooseOneSaid : Prop := fnExactChooseOneRow.holds Try.pinned (OpenSpec.ofChange fnExactChooseOneSpec)

/-- ITS FALSE NEIGHBOUR: 'it returns false'. Refute it at one input. -/
def fnExactChooseOneWrong : ChangeSpec := { name := "fnExactChooseOne", fn := fun _ => fun
  | [d1, d2, d3] => { results := [.lit (.bool false)], args := [d1, d2, d3] }
  | _ => none }
def FnExactChooseOneWrongFalsely : Prop := fnExactChooseOneRow.holds Try.pinned (OpenSpec.ofChange fnExactChooseOneWrong)

/-- 'laws.FnExactDraws': WHATEVER THE INPUT: true; the input reads as it did. -/
def fnExactDrawsSpec : ChangeSpec := { name := "fnExactDraws", fn := fun _ => fun
  | [d1, d2, d3] => { results := [.lit (.bool true)], args := [d1, d2, d3] }
  | _ => none }
def fnExactDrawsRow : OpenClaim := { program := "ytlocignlkigojaa", sum := "d5f19e272e600b50cd63f8f3782a3ed723b56619b08b332d612d07238e12236c", func := "loop.example/g00849/laws.FnExactDraws", spec := "fnExactDraws", unfollowed := true, recurses := true, apart := false }
def FnExactDrawsSaid : Prop := fnExactDrawsRow.holds Try.pinned (OpenSpec.ofChange fnExactDrawsSpec)

/-- ITS FALSE NEIGHBOUR: 'it returns false'. Refute it at one input. -/
def fnExactDrawsWrong : ChangeSpec := { name := "fnExactDraws", fn := fun _ => fun
  | [d1, d2, d3] => { results := [.lit (.bool false)], args := [d1, d2, d3] }
  | _ => none }
def FnExactDrawsWrongFalsely : Prop := fnExactDrawsRow.holds Try.pinned (OpenSpec.ofChange fnExactDrawsWrong)

/- THE SECOND FORM. 'bulk': how many values and letters a reading holds, each counted each time it is reached (what is shared counts as often as it is met; a slice's spare places count too). A statement '..UptoSaid' is the law's where the arguments, and the package variables that the reading takes, are together of bulk at most 1048576: NARROWER than '..Said'. Prove '..Said' where nothing that the law and all that it calls make is longer than what came in: it says more and counts as full. Else prove '..UptoSaid'. A law counts once. -/
mutual
def uptoBulk {H : Type} : DataW H → Nat
  | .lit (.string bytes) => bytes.length + 1
  | .lit _ => 1
  | .nil => 1
  | .ptr d => uptoBulk d + 1
  | .slice elems spare => uptoBulkAll elems + uptoBulkAll spare + 1
  | .agg parts => uptoBulkAll parts + 1
  | .iface _ d => uptoBulk d + 1
  | .map entries => uptoBulkEntries entries + 1
  | .held _ => 1
def uptoBulkAll {H : Type} : List (DataW H) → Nat
  | [] => 0
  | d :: r => uptoBulk d + uptoBulkAll r
def uptoBulkEntries {H : Type} : List (Lit × DataW H) → Nat
  | [] => 0
  | x :: r => uptoBulkEntry x + uptoBulkEntries r
def uptoBulkEntry {H : Type} : Lit × DataW H → Nat
  | (.string bytes, d) => bytes.length + uptoBulk d + 1
  | (_, d) => uptoBulk d + 1
 end
def uptoSmall : (H : Type) → List (DataW H) → Bool := fun _ ds => decide (uptoBulkAll ds ≤ 1048576)
def OpenSpec.upto (s : _root_.Go.ChangeSpec) : _root_.Go.OpenSpec := { _root_.Go.OpenSpec.ofChange s with cond := some uptoSmall }

/-- 'laws.FnExactBestTicket', WHERE WHAT IT READS IS OF BULK AT MOST 1048576: true; the input reads as it did. -/
def fnExactBestTicketUptoRow : OpenClaim := { program := "ytlocignlkigojaa", sum := "d5f19e272e600b50cd63f8f3782a3ed723b56619b08b332d612d07238e12236c", func := "loop.example/g00849/laws.FnExactBestTicket", spec := "fnExactBestTicket", apart := false, narrowed := true }
def FnExactBestTicketUptoSaid : Prop := fnExactBestTicketUptoRow.holds Try.pinned (OpenSpec.upto fnExactBestTicketSpec)

/-- 'laws.FnExactItemsOk', WHERE WHAT IT READS IS OF BULK AT MOST 1048576: true; the input reads as it did. -/
def fnExactItemsOkUptoRow : OpenClaim := { program := "ytlocignlkigojaa", sum := "d5f19e272e600b50cd63f8f3782a3ed723b56619b08b332d612d07238e12236c", func := "loop.example/g00849/laws.FnExactItemsOk", spec := "fnExactItemsOk", unfollowed := true, recurses := true, apart := false, narrowed := true }
def FnExactItemsOkUptoSaid : Prop := fnExactItemsOkUptoRow.holds Try.pinned (OpenSpec.upto fnExactItemsOkSpec)

/-- 'laws.FnExactMatrixOk', WHERE WHAT IT READS IS OF BULK AT MOST 1048576: true; the input reads as it did. -/
def fnExactMatrixOkUptoRow : OpenClaim := { program := "ytlocignlkigojaa", sum := "d5f19e272e600b50cd63f8f3782a3ed723b56619b08b332d612d07238e12236c", func := "loop.example/g00849/laws.FnExactMatrixOk", spec := "fnExactMatrixOk", unfollowed := true, recurses := true, apart := false, narrowed := true }
def FnExactMatrixOkUptoSaid : Prop := fnExactMatrixOkUptoRow.holds Try.pinned (OpenSpec.upto fnExactMatrixOkSpec)

/-- 'laws.FnExactMatUnit', WHERE WHAT IT READS IS OF BULK AT MOST 1048576: true; the input reads as it did. -/
def fnExactMatUnitUptoRow : OpenClaim := { program := "ytlocignlkigojaa", sum := "d5f19e272e600b50cd63f8f3782a3ed723b56619b08b332d612d07238e12236c", func := "loop.example/g00849/laws.FnExactMatUnit", spec := "fnExactMatUnit", apart := false, narrowed := true }
def FnExactMatUnitUptoSaid : Prop := fnExactMatUnitUptoRow.holds Try.pinned (OpenSpec.upto fnExactMatUnitSpec)

/-- 'laws.FnExactPgOf', WHERE WHAT IT READS IS OF BULK AT MOST 1048576: true; the input reads as it did. -/
def fnExactPgOfUptoRow : OpenClaim := { program := "ytlocignlkigojaa", sum := "d5f19e272e600b50cd63f8f3782a3ed723b56619b08b332d612d07238e12236c", func := "loop.example/g00849/laws.FnExactPgOf", spec := "fnExactPgOf", apart := false, narrowed := true }
def FnExactPgOfUptoSaid : Prop := fnExactPgOfUptoRow.holds Try.pinned (OpenSpec.upto fnExactPgOfSpec)

/-- 'laws.FnExactSameMatrix', WHERE WHAT IT READS IS OF BULK AT MOST 1048576: true; the input reads as it did. -/
def fnExactSameMatrixUptoRow : OpenClaim := { program := "ytlocignlkigojaa", sum := "d5f19e272e600b50cd63f8f3782a3ed723b56619b08b332d612d07238e12236c", func := "loop.example/g00849/laws.FnExactSameMatrix", spec := "fnExactSameMatrix", unfollowed := true, recurses := true, apart := false, narrowed := true }
def FnExactSameMatrixUptoSaid : Prop := fnExactSameMatrixUptoRow.holds Try.pinned (OpenSpec.upto fnExactSameMatrixSpec)

/-- 'laws.FnVars', WHERE WHAT IT READS IS OF BULK AT MOST 1048576: true; the input reads as it did. -/
def fnVarsUptoRow : OpenClaim := { program := "ytlocignlkigojaa", sum := "d5f19e272e600b50cd63f8f3782a3ed723b56619b08b332d612d07238e12236c", func := "loop.example/g00849/laws.FnVars", spec := "fnVars", inPlace := ["internal/bytealg.IndexByteString"], apart := false, narrowed := true }
def FnVarsUptoSaid : Prop := fnVarsUptoRow.holds Try.pinned (OpenSpec.upto fnVarsSpec)

/-- 'laws.FnExactWideOk', WHERE WHAT IT READS IS OF BULK AT MOST 1048576: true; the input reads as it did. -/
def fnExactWideOkUptoRow : OpenClaim := { program := "ytlocignlkigojaa", sum := "d5f19e272e600b50cd63f8f3782a3ed723b56619b08b332d612d07238e12236c", func := "loop.example/g00849/laws.FnExactWideOk", spec := "fnExactWideOk", unfollowed := true, recurses := true, apart := false, narrowed := true }
def FnExactWideOkUptoSaid : Prop := fnExactWideOkUptoRow.holds Try.pinned (OpenSpec.upto fnExactWideOkSpec)

/-- 'laws.FnExactMoves', WHERE WHAT IT READS IS OF BULK AT MOST 1048576: true; the input reads as it did. -/
def fnExactMovesUptoRow : OpenClaim := { program := "ytlocignlkigojaa", sum := "d5f19e272e600b50cd63f8f3782a3ed723b56619b08b332d612d07238e12236c", func := "loop.example/g00849/laws.FnExactMoves", spec := "fnExactMoves", unfollowed := true, recurses := true, apart := false, narrowed := true }
def FnExactMovesUptoSaid : Prop := fnExactMovesUptoRow.holds Try.pinned (OpenSpec.upto fnExactMovesSpec)

/-- 'laws.FnTickets', WHERE WHAT IT READS IS OF BULK AT MOST 1048576: true; the input reads as it did. -/
def fnTicketsUptoRow : OpenClaim := { program := "ytlocignlkigojaa", sum := "d5f19e272e600b50cd63f8f3782a3ed723b56619b08b332d612d07238e12236c", func := "loop.example/g00849/laws.FnTickets", spec := "fnTickets", unfollowed := true, recurses := true, apart := false, narrowed := true }
def FnTicketsUptoSaid : Prop := fnTicketsUptoRow.holds Try.pinned (OpenSpec.upto fnTicketsSpec)

/-- 'laws.FnExactExceptsOk', WHERE WHAT IT READS IS OF BULK AT MOST 1048576: true; the input reads as it did. -/
def fnExactExceptsOkUptoRow : OpenClaim := { program := "ytlocignlkigojaa", sum := "d5f19e272e600b50cd63f8f3782a3ed723b56619b08b332d612d07238e12236c", func := "loop.example/g00849/laws.FnExactExceptsOk", spec := "fnExactExceptsOk", unfollowed := true, recurses := true, apart := false, narrowed := true }
def FnExactExceptsOkUptoSaid : Prop := fnExactExceptsOkUptoRow.holds Try.pinned (OpenSpec.upto fnExactExceptsOkSpec)

/-- 'laws.FnShares', WHERE WHAT IT READS IS OF BULK AT MOST 1048576: true; the input reads as it did. -/
def fnSharesUptoRow : OpenClaim := { program := "ytlocignlkigojaa", sum := "d5f19e272e600b50cd63f8f3782a3ed723b56619b08b332d612d07238e12236c", func := "loop.example/g00849/laws.FnShares", spec := "fnShares", unfollowed := true, recurses := true, apart := false, narrowed := true }
def FnSharesUptoSaid : Prop := fnSharesUptoRow.holds Try.pinned (OpenSpec.upto fnSharesSpec)

/-- 'laws.FnExactCellOf', WHERE WHAT IT READS IS OF BULK AT MOST 1048576: true; the input reads as it did. -/
def fnExactCellOfUptoRow : OpenClaim := { program := "ytlocignlkigojaa", sum := "d5f19e272e600b50cd63f8f3782a3ed723b56619b08b332d612d07238e12236c", func := "loop.example/g00849/laws.FnExactCellOf", spec := "fnExactCellOf", unfollowed := true, recurses := true, apart := false, narrowed := true }
def FnExactCellOfUptoSaid : Prop := fnExactCellOfUptoRow.holds Try.pinned (OpenSpec.upto fnExactCellOfSpec)

/-- 'laws.FnExactMatRows', WHERE WHAT IT READS IS OF BULK AT MOST 1048576: true; the input reads as it did. -/
def fnExactMatRowsUptoRow : OpenClaim := { program := "ytlocignlkigojaa", sum := "d5f19e272e600b50cd63f8f3782a3ed723b56619b08b332d612d07238e12236c", func := "loop.example/g00849/laws.FnExactMatRows", spec := "fnExactMatRows", unfollowed := true, recurses := true, apart := false, narrowed := true }
def FnExactMatRowsUptoSaid : Prop := fnExactMatRowsUptoRow.holds Try.pinned (OpenSpec.upto fnExactMatRowsSpec)

/-- 'laws.FnExactChooseOne', WHERE WHAT IT READS IS OF BULK AT MOST 1048576: true; the input reads as it did. -/
def fnExactChooseOneUptoRow : OpenClaim := { program := "ytlocignlkigojaa", sum := "d5f19e272e600b50cd63f8f3782a3ed723b56619b08b332d612d07238e12236c", func := "loop.example/g00849/laws.FnExactChooseOne", spec := "fnExactChooseOne", unfollowed := true, recurses := true, apart := false, narrowed := true }
def FnExactChooseOneUptoSaid : Prop := fnExactChooseOneUptoRow.holds Try.pinned (OpenSpec.upto fnExactChooseOneSpec)

/-- 'laws.FnExactDraws', WHERE WHAT IT READS IS OF BULK AT MOST 1048576: true; the input reads as it did. -/
def fnExactDrawsUptoRow : OpenClaim := { program := "ytlocignlkigojaa", sum := "d5f19e272e600b50cd63f8f3782a3ed723b56619b08b332d612d07238e12236c", func := "loop.example/g00849/laws.FnExactDraws", spec := "fnExactDraws", unfollowed := true, recurses := true, apart := false, narrowed := true }
def FnExactDrawsUptoSaid : Prop := fnExactDrawsUptoRow.holds Try.pinned (OpenSpec.upto fnExactDrawsSpec)

end Rows
end Go.Proofs.Ytlocignlkigojaa
