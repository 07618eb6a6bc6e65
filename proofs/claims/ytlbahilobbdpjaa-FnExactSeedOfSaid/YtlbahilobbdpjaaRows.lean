/-
  No cell of these rows narrows 'for every input' (looked for: loops, veiled, ifaces, maps, wideKeys, modest, calm, conditions, laid).
  DERIVED. THE GIVEN ROWS OF THIS SEAT. 12 by the template 'for every input the law returns true; each argument reads behind the call as it read before'; 0 by the template 'total and deterministic' (their statements: YtlbahilobbdpjaaTotals.lean).
  GIVEN WITH THE SEED: the statements are not yours to turn. If you find one false, say at which input.
  Laid BY PROGRAM, IN A SANDBOX (cutbox-rows.mjs): the forced cells as the released guide's own fill.sh prints them over the translation 9512a2926e86cd1a… (all of the seat's roots in one cut). By AI agents, Wed Nov 11 2026. No macro, syntax, notation, axiom, sorry.
-/
import Derived.Test.YtlbahilobbdpjaaChecked
import GoSem.Claim
import GoSem.ClaimJoined
import GoSem.ClaimMapViews
import Derived.JoinedTies
import Derived.KernelRfl
namespace Go.Proofs.Ytlbahilobbdpjaa
/- THE CELL 'sum', in the pinned program and in every row, IS THE sha256 OF THE DUMP (.gsa) THAT YtlbahilobbdpjaaProg.lean LOADS. Nothing in Lean hashes anything: it is a label: what it is worth is what the hold of that sum in a sandbox is worth. -/
noncomputable def Try.pinned : Pinned := { name := "ytlbahilobbdpjaa", sum := "9512a2926e86cd1afebb23264e2aaebea96bec0ce4828e6cf63aedcd0fa2b7e3", checked := Try.checked }
namespace Rows
def none {H : Type} : Left H := { results := [], args := [] }

/-- 'laws.FnExactGfSum': WHATEVER THE INPUT: true; the input reads as it did. -/
def fnExactGfSumSpec : ChangeSpec := { name := "fnExactGfSum", fn := fun _ => fun
  | [d1, d2] => { results := [.lit (.bool true)], args := [d1, d2] }
  | _ => none }
def fnExactGfSumRow : OpenClaim := { program := "ytlbahilobbdpjaa", sum := "9512a2926e86cd1afebb23264e2aaebea96bec0ce4828e6cf63aedcd0fa2b7e3", func := "loop.example/g00849/laws.FnExactGfSum", spec := "fnExactGfSum", apart := false }
def FnExactGfSumSaid : Prop := fnExactGfSumRow.holds Try.pinned (OpenSpec.ofChange fnExactGfSumSpec)

/-- ITS FALSE NEIGHBOUR: 'it returns false'. Refute it at one input. -/
def fnExactGfSumWrong : ChangeSpec := { name := "fnExactGfSum", fn := fun _ => fun
  | [d1, d2] => { results := [.lit (.bool false)], args := [d1, d2] }
  | _ => none }
def FnExactGfSumWrongFalsely : Prop := fnExactGfSumRow.holds Try.pinned (OpenSpec.ofChange fnExactGfSumWrong)

/-- 'laws.FnExactTicketOf': WHATEVER THE INPUT: true; the input reads as it did. -/
def fnExactTicketOfSpec : ChangeSpec := { name := "fnExactTicketOf", fn := fun _ => fun
  | [d1, d2, d3, d4] => { results := [.lit (.bool true)], args := [d1, d2, d3, d4] }
  | _ => none }
def fnExactTicketOfRow : OpenClaim := { program := "ytlbahilobbdpjaa", sum := "9512a2926e86cd1afebb23264e2aaebea96bec0ce4828e6cf63aedcd0fa2b7e3", func := "loop.example/g00849/laws.FnExactTicketOf", spec := "fnExactTicketOf", apart := false }
def FnExactTicketOfSaid : Prop := fnExactTicketOfRow.holds Try.pinned (OpenSpec.ofChange fnExactTicketOfSpec)

/-- ITS FALSE NEIGHBOUR: 'it returns false'. Refute it at one input. -/
def fnExactTicketOfWrong : ChangeSpec := { name := "fnExactTicketOf", fn := fun _ => fun
  | [d1, d2, d3, d4] => { results := [.lit (.bool false)], args := [d1, d2, d3, d4] }
  | _ => none }
def FnExactTicketOfWrongFalsely : Prop := fnExactTicketOfRow.holds Try.pinned (OpenSpec.ofChange fnExactTicketOfWrong)

/-- 'laws.FnExactPutText': WHATEVER THE INPUT: true; the input reads as it did. -/
def fnExactPutTextSpec : ChangeSpec := { name := "fnExactPutText", fn := fun _ => fun
  | [d] => { results := [.lit (.bool true)], args := [d] }
  | _ => none }
def fnExactPutTextRow : OpenClaim := { program := "ytlbahilobbdpjaa", sum := "9512a2926e86cd1afebb23264e2aaebea96bec0ce4828e6cf63aedcd0fa2b7e3", func := "loop.example/g00849/laws.FnExactPutText", spec := "fnExactPutText", apart := false }
def FnExactPutTextSaid : Prop := fnExactPutTextRow.holds Try.pinned (OpenSpec.ofChange fnExactPutTextSpec)

/-- ITS FALSE NEIGHBOUR: 'it returns false'. Refute it at one input. -/
def fnExactPutTextWrong : ChangeSpec := { name := "fnExactPutText", fn := fun _ => fun
  | [d] => { results := [.lit (.bool false)], args := [d] }
  | _ => none }
def FnExactPutTextWrongFalsely : Prop := fnExactPutTextRow.holds Try.pinned (OpenSpec.ofChange fnExactPutTextWrong)

/-- 'laws.FnExactPutVar': WHATEVER THE INPUT: true; the input reads as it did. -/
def fnExactPutVarSpec : ChangeSpec := { name := "fnExactPutVar", fn := fun _ => fun
  | [d] => { results := [.lit (.bool true)], args := [d] }
  | _ => none }
def fnExactPutVarRow : OpenClaim := { program := "ytlbahilobbdpjaa", sum := "9512a2926e86cd1afebb23264e2aaebea96bec0ce4828e6cf63aedcd0fa2b7e3", func := "loop.example/g00849/laws.FnExactPutVar", spec := "fnExactPutVar", apart := false }
def FnExactPutVarSaid : Prop := fnExactPutVarRow.holds Try.pinned (OpenSpec.ofChange fnExactPutVarSpec)

/-- ITS FALSE NEIGHBOUR: 'it returns false'. Refute it at one input. -/
def fnExactPutVarWrong : ChangeSpec := { name := "fnExactPutVar", fn := fun _ => fun
  | [d] => { results := [.lit (.bool false)], args := [d] }
  | _ => none }
def FnExactPutVarWrongFalsely : Prop := fnExactPutVarRow.holds Try.pinned (OpenSpec.ofChange fnExactPutVarWrong)

/-- 'laws.FnExactSeedOf': WHATEVER THE INPUT: true; the input reads as it did. -/
def fnExactSeedOfSpec : ChangeSpec := { name := "fnExactSeedOf", fn := fun _ => fun
  | [d] => { results := [.lit (.bool true)], args := [d] }
  | _ => none }
def fnExactSeedOfRow : OpenClaim := { program := "ytlbahilobbdpjaa", sum := "9512a2926e86cd1afebb23264e2aaebea96bec0ce4828e6cf63aedcd0fa2b7e3", func := "loop.example/g00849/laws.FnExactSeedOf", spec := "fnExactSeedOf", apart := false }
def FnExactSeedOfSaid : Prop := fnExactSeedOfRow.holds Try.pinned (OpenSpec.ofChange fnExactSeedOfSpec)

/-- ITS FALSE NEIGHBOUR: 'it returns false'. Refute it at one input. -/
def fnExactSeedOfWrong : ChangeSpec := { name := "fnExactSeedOf", fn := fun _ => fun
  | [d] => { results := [.lit (.bool false)], args := [d] }
  | _ => none }
def FnExactSeedOfWrongFalsely : Prop := fnExactSeedOfRow.holds Try.pinned (OpenSpec.ofChange fnExactSeedOfWrong)

/-- 'laws.FnExactPoolOk': WHATEVER THE INPUT: true; the input reads as it did. -/
def fnExactPoolOkSpec : ChangeSpec := { name := "fnExactPoolOk", fn := fun _ => fun
  | [d] => { results := [.lit (.bool true)], args := [d] }
  | _ => none }
def fnExactPoolOkRow : OpenClaim := { program := "ytlbahilobbdpjaa", sum := "9512a2926e86cd1afebb23264e2aaebea96bec0ce4828e6cf63aedcd0fa2b7e3", func := "loop.example/g00849/laws.FnExactPoolOk", spec := "fnExactPoolOk", apart := false }
def FnExactPoolOkSaid : Prop := fnExactPoolOkRow.holds Try.pinned (OpenSpec.ofChange fnExactPoolOkSpec)

/-- ITS FALSE NEIGHBOUR: 'it returns false'. Refute it at one input. -/
def fnExactPoolOkWrong : ChangeSpec := { name := "fnExactPoolOk", fn := fun _ => fun
  | [d] => { results := [.lit (.bool false)], args := [d] }
  | _ => none }
def FnExactPoolOkWrongFalsely : Prop := fnExactPoolOkRow.holds Try.pinned (OpenSpec.ofChange fnExactPoolOkWrong)

/-- 'laws.FnExactGetVar': WHATEVER THE INPUT: true; the input reads as it did. -/
def fnExactGetVarSpec : ChangeSpec := { name := "fnExactGetVar", fn := fun _ => fun
  | [d] => { results := [.lit (.bool true)], args := [d] }
  | _ => none }
def fnExactGetVarRow : OpenClaim := { program := "ytlbahilobbdpjaa", sum := "9512a2926e86cd1afebb23264e2aaebea96bec0ce4828e6cf63aedcd0fa2b7e3", func := "loop.example/g00849/laws.FnExactGetVar", spec := "fnExactGetVar", apart := false }
def FnExactGetVarSaid : Prop := fnExactGetVarRow.holds Try.pinned (OpenSpec.ofChange fnExactGetVarSpec)

/-- ITS FALSE NEIGHBOUR: 'it returns false'. Refute it at one input. -/
def fnExactGetVarWrong : ChangeSpec := { name := "fnExactGetVar", fn := fun _ => fun
  | [d] => { results := [.lit (.bool false)], args := [d] }
  | _ => none }
def FnExactGetVarWrongFalsely : Prop := fnExactGetVarRow.holds Try.pinned (OpenSpec.ofChange fnExactGetVarWrong)

/-- 'laws.FnExactMix': WHATEVER THE INPUT: true; the input reads as it did. -/
def fnExactMixSpec : ChangeSpec := { name := "fnExactMix", fn := fun _ => fun
  | [d] => { results := [.lit (.bool true)], args := [d] }
  | _ => none }
def fnExactMixRow : OpenClaim := { program := "ytlbahilobbdpjaa", sum := "9512a2926e86cd1afebb23264e2aaebea96bec0ce4828e6cf63aedcd0fa2b7e3", func := "loop.example/g00849/laws.FnExactMix", spec := "fnExactMix", apart := false }
def FnExactMixSaid : Prop := fnExactMixRow.holds Try.pinned (OpenSpec.ofChange fnExactMixSpec)

/-- ITS FALSE NEIGHBOUR: 'it returns false'. Refute it at one input. -/
def fnExactMixWrong : ChangeSpec := { name := "fnExactMix", fn := fun _ => fun
  | [d] => { results := [.lit (.bool false)], args := [d] }
  | _ => none }
def FnExactMixWrongFalsely : Prop := fnExactMixRow.holds Try.pinned (OpenSpec.ofChange fnExactMixWrong)

/-- 'laws.FnExactGetHex': WHATEVER THE INPUT: true; the input reads as it did. -/
def fnExactGetHexSpec : ChangeSpec := { name := "fnExactGetHex", fn := fun _ => fun
  | [d] => { results := [.lit (.bool true)], args := [d] }
  | _ => none }
def fnExactGetHexRow : OpenClaim := { program := "ytlbahilobbdpjaa", sum := "9512a2926e86cd1afebb23264e2aaebea96bec0ce4828e6cf63aedcd0fa2b7e3", func := "loop.example/g00849/laws.FnExactGetHex", spec := "fnExactGetHex", inPlace := ["internal/bytealg.IndexByteString"], apart := false }
def FnExactGetHexSaid : Prop := fnExactGetHexRow.holds Try.pinned (OpenSpec.ofChange fnExactGetHexSpec)

/-- ITS FALSE NEIGHBOUR: 'it returns false'. Refute it at one input. -/
def fnExactGetHexWrong : ChangeSpec := { name := "fnExactGetHex", fn := fun _ => fun
  | [d] => { results := [.lit (.bool false)], args := [d] }
  | _ => none }
def FnExactGetHexWrongFalsely : Prop := fnExactGetHexRow.holds Try.pinned (OpenSpec.ofChange fnExactGetHexWrong)

/-- 'laws.FnExactGetText': WHATEVER THE INPUT: true; the input reads as it did. -/
def fnExactGetTextSpec : ChangeSpec := { name := "fnExactGetText", fn := fun _ => fun
  | [d] => { results := [.lit (.bool true)], args := [d] }
  | _ => none }
def fnExactGetTextRow : OpenClaim := { program := "ytlbahilobbdpjaa", sum := "9512a2926e86cd1afebb23264e2aaebea96bec0ce4828e6cf63aedcd0fa2b7e3", func := "loop.example/g00849/laws.FnExactGetText", spec := "fnExactGetText", apart := false }
def FnExactGetTextSaid : Prop := fnExactGetTextRow.holds Try.pinned (OpenSpec.ofChange fnExactGetTextSpec)

/-- ITS FALSE NEIGHBOUR: 'it returns false'. Refute it at one input. -/
def fnExactGetTextWrong : ChangeSpec := { name := "fnExactGetText", fn := fun _ => fun
  | [d] => { results := [.lit (.bool false)], args := [d] }
  | _ => none }
def FnExactGetTextWrongFalsely : Prop := fnExactGetTextRow.holds Try.pinned (OpenSpec.ofChange fnExactGetTextWrong)

/-- 'laws.FnMixSame': WHATEVER THE INPUT: true; the input reads as it did. -/
def fnMixSameSpec : ChangeSpec := { name := "fnMixSame", fn := fun _ => fun
  | [d] => { results := [.lit (.bool true)], args := [d] }
  | _ => none }
def fnMixSameRow : OpenClaim := { program := "ytlbahilobbdpjaa", sum := "9512a2926e86cd1afebb23264e2aaebea96bec0ce4828e6cf63aedcd0fa2b7e3", func := "loop.example/g00849/laws.FnMixSame", spec := "fnMixSame", apart := false }
def FnMixSameSaid : Prop := fnMixSameRow.holds Try.pinned (OpenSpec.ofChange fnMixSameSpec)

/-- ITS FALSE NEIGHBOUR: 'it returns false'. Refute it at one input. -/
def fnMixSameWrong : ChangeSpec := { name := "fnMixSame", fn := fun _ => fun
  | [d] => { results := [.lit (.bool false)], args := [d] }
  | _ => none }
def FnMixSameWrongFalsely : Prop := fnMixSameRow.holds Try.pinned (OpenSpec.ofChange fnMixSameWrong)

/-- 'laws.FnExactSplit': WHATEVER THE INPUT: true; the input reads as it did. -/
def fnExactSplitSpec : ChangeSpec := { name := "fnExactSplit", fn := fun _ => fun
  | [d] => { results := [.lit (.bool true)], args := [d] }
  | _ => none }
def fnExactSplitRow : OpenClaim := { program := "ytlbahilobbdpjaa", sum := "9512a2926e86cd1afebb23264e2aaebea96bec0ce4828e6cf63aedcd0fa2b7e3", func := "loop.example/g00849/laws.FnExactSplit", spec := "fnExactSplit", apart := false }
def FnExactSplitSaid : Prop := fnExactSplitRow.holds Try.pinned (OpenSpec.ofChange fnExactSplitSpec)

/-- ITS FALSE NEIGHBOUR: 'it returns false'. Refute it at one input. -/
def fnExactSplitWrong : ChangeSpec := { name := "fnExactSplit", fn := fun _ => fun
  | [d] => { results := [.lit (.bool false)], args := [d] }
  | _ => none }
def FnExactSplitWrongFalsely : Prop := fnExactSplitRow.holds Try.pinned (OpenSpec.ofChange fnExactSplitWrong)

/- THE SECOND FORM. 'bulk': how many values and letters a reading holds, each counted each time it is reached (what is shared counts as often as it is met; a slice's spare places count too). A statement '..UptoSaid' is the law's where the arguments, and the package variables that the reading takes, are together of bulk at most 1048576: NARROWER than '..Said'. Prove '..Said' where nothing that the law and all that it calls make is longer than what came in: it says more and counts as full. Else prove '..UptoSaid'. A law counts once. -/
mutual
def uptoBulk {H : Type} : DataW H → Nat
  | .lit (.string bytes) => bytes.length + 1
  | .lit _ => 1
  | .nil => 1
  | .ptr d => uptoBulk d + 1
  | .slice elems spare => uptoBulkAll elems + uptoBulkAll spare + 1
  | .agg parts => uptoBulkAll parts + 1
  | .iface _ d => uptoBulk d + 1
  | .map entries => uptoBulkEntries entries + 1
  | .held _ => 1
def uptoBulkAll {H : Type} : List (DataW H) → Nat
  | [] => 0
  | d :: r => uptoBulk d + uptoBulkAll r
def uptoBulkEntries {H : Type} : List (Lit × DataW H) → Nat
  | [] => 0
  | x :: r => uptoBulkEntry x + uptoBulkEntries r
def uptoBulkEntry {H : Type} : Lit × DataW H → Nat
  | (.string bytes, d) => bytes.length + uptoBulk d + 1
  | (_, d) => uptoBulk d + 1
 end
def uptoSmall : (H : Type) → List (DataW H) → Bool := fun _ ds => decide (uptoBulkAll ds ≤ 1048576)
def OpenSpec.upto (s : _root_.Go.ChangeSpec) : _root_.Go.OpenSpec := { _root_.Go.OpenSpec.ofChange s with cond := some uptoSmall }

/-- 'laws.FnExactGfSum', WHERE WHAT IT READS IS OF BULK AT MOST 1048576: true; the input reads as it did. -/
def fnExactGfSumUptoRow : OpenClaim := { program := "ytlbahilobbdpjaa", sum := "9512a2926e86cd1afebb23264e2aaebea96bec0ce4828e6cf63aedcd0fa2b7e3", func := "loop.example/g00849/laws.FnExactGfSum", spec := "fnExactGfSum", apart := false, narrowed := true }
def FnExactGfSumUptoSaid : Prop := fnExactGfSumUptoRow.holds Try.pinned (OpenSpec.upto fnExactGfSumSpec)

/-- 'laws.FnExactTicketOf', WHERE WHAT IT READS IS OF BULK AT MOST 1048576: true; the input reads as it did. -/
def fnExactTicketOfUptoRow : OpenClaim := { program := "ytlbahilobbdpjaa", sum := "9512a2926e86cd1afebb23264e2aaebea96bec0ce4828e6cf63aedcd0fa2b7e3", func := "loop.example/g00849/laws.FnExactTicketOf", spec := "fnExactTicketOf", apart := false, narrowed := true }
def FnExactTicketOfUptoSaid : Prop := fnExactTicketOfUptoRow.holds Try.pinned (OpenSpec.upto fnExactTicketOfSpec)

/-- 'laws.FnExactPutText', WHERE WHAT IT READS IS OF BULK AT MOST 1048576: true; the input reads as it did. -/
def fnExactPutTextUptoRow : OpenClaim := { program := "ytlbahilobbdpjaa", sum := "9512a2926e86cd1afebb23264e2aaebea96bec0ce4828e6cf63aedcd0fa2b7e3", func := "loop.example/g00849/laws.FnExactPutText", spec := "fnExactPutText", apart := false, narrowed := true }
def FnExactPutTextUptoSaid : Prop := fnExactPutTextUptoRow.holds Try.pinned (OpenSpec.upto fnExactPutTextSpec)

/-- 'laws.FnExactPutVar', WHERE WHAT IT READS IS OF BULK AT MOST 1048576: true; the input reads as it did. -/
def fnExactPutVarUptoRow : OpenClaim := { program := "ytlbahilobbdpjaa", sum := "9512a2926e86cd1afebb23264e2aaebea96bec0ce4828e6cf63aedcd0fa2b7e3", func := "loop.example/g00849/laws.FnExactPutVar", spec := "fnExactPutVar", apart := false, narrowed := true }
def FnExactPutVarUptoSaid : Prop := fnExactPutVarUptoRow.holds Try.pinned (OpenSpec.upto fnExactPutVarSpec)

/-- 'laws.FnExactSeedOf', WHERE WHAT IT READS IS OF BULK AT MOST 1048576: true; the input reads as it did. -/
def fnExactSeedOfUptoRow : OpenClaim := { program := "ytlbahilobbdpjaa", sum := "9512a2926e86cd1afebb23264e2aaebea96bec0ce4828e6cf63aedcd0fa2b7e3", func := "loop.example/g00849/laws.FnExactSeedOf", spec := "fnExactSeedOf", apart := false, narrowed := true }
def FnExactSeedOfUptoSaid : Prop := fnExactSeedOfUptoRow.holds Try.pinned (OpenSpec.upto fnExactSeedOfSpec)

/-- 'laws.FnExactPoolOk', WHERE WHAT IT READS IS OF BULK AT MOST 1048576: true; the input reads as it did. -/
def fnExactPoolOkUptoRow : OpenClaim := { program := "ytlbahilobbdpjaa", sum := "9512a2926e86cd1afebb23264e2aaebea96bec0ce4828e6cf63aedcd0fa2b7e3", func := "loop.example/g00849/laws.FnExactPoolOk", spec := "fnExactPoolOk", apart := false, narrowed := true }
def FnExactPoolOkUptoSaid : Prop := fnExactPoolOkUptoRow.holds Try.pinned (OpenSpec.upto fnExactPoolOkSpec)

/-- 'laws.FnExactGetVar', WHERE WHAT IT READS IS OF BULK AT MOST 1048576: true; the input reads as it did. -/
def fnExactGetVarUptoRow : OpenClaim := { program := "ytlbahilobbdpjaa", sum := "9512a2926e86cd1afebb23264e2aaebea96bec0ce4828e6cf63aedcd0fa2b7e3", func := "loop.example/g00849/laws.FnExactGetVar", spec := "fnExactGetVar", apart := false, narrowed := true }
def FnExactGetVarUptoSaid : Prop := fnExactGetVarUptoRow.holds Try.pinned (OpenSpec.upto fnExactGetVarSpec)

/-- 'laws.FnExactMix', WHERE WHAT IT READS IS OF BULK AT MOST 1048576: true; the input reads as it did. -/
def fnExactMixUptoRow : OpenClaim := { program := "ytlbahilobbdpjaa", sum := "9512a2926e86cd1afebb23264e2aaebea96bec0ce4828e6cf63aedcd0fa2b7e3", func := "loop.example/g00849/laws.FnExactMix", spec := "fnExactMix", apart := false, narrowed := true }
def FnExactMixUptoSaid : Prop := fnExactMixUptoRow.holds Try.pinned (OpenSpec.upto fnExactMixSpec)

/-- 'laws.FnExactGetHex', WHERE WHAT IT READS IS OF BULK AT MOST 1048576: true; the input reads as it did. -/
def fnExactGetHexUptoRow : OpenClaim := { program := "ytlbahilobbdpjaa", sum := "9512a2926e86cd1afebb23264e2aaebea96bec0ce4828e6cf63aedcd0fa2b7e3", func := "loop.example/g00849/laws.FnExactGetHex", spec := "fnExactGetHex", inPlace := ["internal/bytealg.IndexByteString"], apart := false, narrowed := true }
def FnExactGetHexUptoSaid : Prop := fnExactGetHexUptoRow.holds Try.pinned (OpenSpec.upto fnExactGetHexSpec)

/-- 'laws.FnExactGetText', WHERE WHAT IT READS IS OF BULK AT MOST 1048576: true; the input reads as it did. -/
def fnExactGetTextUptoRow : OpenClaim := { program := "ytlbahilobbdpjaa", sum := "9512a2926e86cd1afebb23264e2aaebea96bec0ce4828e6cf63aedcd0fa2b7e3", func := "loop.example/g00849/laws.FnExactGetText", spec := "fnExactGetText", apart := false, narrowed := true }
def FnExactGetTextUptoSaid : Prop := fnExactGetTextUptoRow.holds Try.pinned (OpenSpec.upto fnExactGetTextSpec)

/-- 'laws.FnMixSame', WHERE WHAT IT READS IS OF BULK AT MOST 1048576: true; the input reads as it did. -/
def fnMixSameUptoRow : OpenClaim := { program := "ytlbahilobbdpjaa", sum := "9512a2926e86cd1afebb23264e2aaebea96bec0ce4828e6cf63aedcd0fa2b7e3", func := "loop.example/g00849/laws.FnMixSame", spec := "fnMixSame", apart := false, narrowed := true }
def FnMixSameUptoSaid : Prop := fnMixSameUptoRow.holds Try.pinned (OpenSpec.upto fnMixSameSpec)

/-- 'laws.FnExactSplit', WHERE WHAT IT READS IS OF BULK AT MOST 1048576: true; the input reads as it did. -/
def fnExactSplitUptoRow : OpenClaim := { program := "ytlbahilobbdpjaa", sum := "9512a2926e86cd1afebb23264e2aaebea96bec0ce4828e6cf63aedcd0fa2b7e3", func := "loop.example/g00849/laws.FnExactSplit", spec := "fnExactSplit", apart := false, narrowed := true }
def FnExactSplitUptoSaid : Prop := fnExactSplitUptoRow.holds Try.pinned (OpenSpec.upto fnExactSplitSpec)

end Rows
end Go.Proofs.Ytlbahilobbdpjaa
