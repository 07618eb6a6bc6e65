/-
  No cell of these rows narrows 'for every input' (looked for: loops, veiled, ifaces, maps, wideKeys, modest, calm, conditions, laid).
  DERIVED. THE GIVEN ROWS OF THIS SEAT. 6 by the template 'for every input the law returns true; each argument reads behind the call as it read before'; 0 by the template 'total and deterministic' (their statements: YtncbjkcpibajaaaTotals.lean).
  GIVEN WITH THE SEED: the statements are not yours to turn. If you find one false, say at which input.
  Laid BY PROGRAM, IN A SANDBOX (cutbox-rows.mjs): the forced cells as the released guide's own fill.sh prints them over the translation 6a515adb56b40f66… (all of the seat's roots in one cut). By AI agents, Wed Nov 11 2026. No macro, syntax, notation, axiom, sorry.
-/
import Derived.Test.YtncbjkcpibajaaaChecked
import GoSem.Claim
import GoSem.ClaimJoined
import GoSem.ClaimMapViews
import Derived.JoinedTies
import Derived.KernelRfl
namespace Go.Proofs.Ytncbjkcpibajaaa
/- THE CELL 'sum', in the pinned program and in every row, IS THE sha256 OF THE DUMP (.gsa) THAT YtncbjkcpibajaaaProg.lean LOADS. Nothing in Lean hashes anything: it is a label: what it is worth is what the hold of that sum in a sandbox is worth. -/
noncomputable def Try.pinned : Pinned := { name := "ytncbjkcpibajaaa", sum := "6a515adb56b40f666effb95af3f8d89e5a82c2b71215d6acb8c4b185dcb6f173", checked := Try.checked }
namespace Rows
def none {H : Type} : Left H := { results := [], args := [] }

/-- 'laws.FnExactConstants': WHATEVER THE INPUT: true; the input reads as it did. -/
def fnExactConstantsSpec : ChangeSpec := { name := "fnExactConstants", fn := fun _ => fun
  | [] => { results := [.lit (.bool true)], args := [] }
  | _ => none }
def fnExactConstantsRow : OpenClaim := { program := "ytncbjkcpibajaaa", sum := "6a515adb56b40f666effb95af3f8d89e5a82c2b71215d6acb8c4b185dcb6f173", func := "loop.example/g00849/laws.FnExactConstants", spec := "fnExactConstants", apart := false }
def FnExactConstantsSaid : Prop := fnExactConstantsRow.holds Try.pinned (OpenSpec.ofChange fnExactConstantsSpec)

/-- ITS FALSE NEIGHBOUR: 'it returns false'. Refute it at one input. -/
def fnExactConstantsWrong : ChangeSpec := { name := "fnExactConstants", fn := fun _ => fun
  | [] => { results := [.lit (.bool false)], args := [] }
  | _ => none }
def FnExactConstantsWrongFalsely : Prop := fnExactConstantsRow.holds Try.pinned (OpenSpec.ofChange fnExactConstantsWrong)

/-- 'laws.FnExactPutHex': WHATEVER THE INPUT: true; the input reads as it did. -/
def fnExactPutHexSpec : ChangeSpec := { name := "fnExactPutHex", fn := fun _ => fun
  | [d] => { results := [.lit (.bool true)], args := [d] }
  | _ => none }
def fnExactPutHexRow : OpenClaim := { program := "ytncbjkcpibajaaa", sum := "6a515adb56b40f666effb95af3f8d89e5a82c2b71215d6acb8c4b185dcb6f173", func := "loop.example/g00849/laws.FnExactPutHex", spec := "fnExactPutHex", apart := false }
def FnExactPutHexSaid : Prop := fnExactPutHexRow.holds Try.pinned (OpenSpec.ofChange fnExactPutHexSpec)

/-- ITS FALSE NEIGHBOUR: 'it returns false'. Refute it at one input. -/
def fnExactPutHexWrong : ChangeSpec := { name := "fnExactPutHex", fn := fun _ => fun
  | [d] => { results := [.lit (.bool false)], args := [d] }
  | _ => none }
def FnExactPutHexWrongFalsely : Prop := fnExactPutHexRow.holds Try.pinned (OpenSpec.ofChange fnExactPutHexWrong)

/-- 'laws.FnExactCodeOk': WHATEVER THE INPUT: true; the input reads as it did. -/
def fnExactCodeOkSpec : ChangeSpec := { name := "fnExactCodeOk", fn := fun _ => fun
  | [d] => { results := [.lit (.bool true)], args := [d] }
  | _ => none }
def fnExactCodeOkRow : OpenClaim := { program := "ytncbjkcpibajaaa", sum := "6a515adb56b40f666effb95af3f8d89e5a82c2b71215d6acb8c4b185dcb6f173", func := "loop.example/g00849/laws.FnExactCodeOk", spec := "fnExactCodeOk", apart := false }
def FnExactCodeOkSaid : Prop := fnExactCodeOkRow.holds Try.pinned (OpenSpec.ofChange fnExactCodeOkSpec)

/-- ITS FALSE NEIGHBOUR: 'it returns false'. Refute it at one input. -/
def fnExactCodeOkWrong : ChangeSpec := { name := "fnExactCodeOk", fn := fun _ => fun
  | [d] => { results := [.lit (.bool false)], args := [d] }
  | _ => none }
def FnExactCodeOkWrongFalsely : Prop := fnExactCodeOkRow.holds Try.pinned (OpenSpec.ofChange fnExactCodeOkWrong)

/-- 'laws.FnExactGfAdd': WHATEVER THE INPUT: true; the input reads as it did. -/
def fnExactGfAddSpec : ChangeSpec := { name := "fnExactGfAdd", fn := fun _ => fun
  | [d1, d2] => { results := [.lit (.bool true)], args := [d1, d2] }
  | _ => none }
def fnExactGfAddRow : OpenClaim := { program := "ytncbjkcpibajaaa", sum := "6a515adb56b40f666effb95af3f8d89e5a82c2b71215d6acb8c4b185dcb6f173", func := "loop.example/g00849/laws.FnExactGfAdd", spec := "fnExactGfAdd", apart := false }
def FnExactGfAddSaid : Prop := fnExactGfAddRow.holds Try.pinned (OpenSpec.ofChange fnExactGfAddSpec)

/-- ITS FALSE NEIGHBOUR: 'it returns false'. Refute it at one input. -/
def fnExactGfAddWrong : ChangeSpec := { name := "fnExactGfAdd", fn := fun _ => fun
  | [d1, d2] => { results := [.lit (.bool false)], args := [d1, d2] }
  | _ => none }
def FnExactGfAddWrongFalsely : Prop := fnExactGfAddRow.holds Try.pinned (OpenSpec.ofChange fnExactGfAddWrong)

/-- 'laws.FnExactCodeWord': WHATEVER THE INPUT: true; the input reads as it did. -/
def fnExactCodeWordSpec : ChangeSpec := { name := "fnExactCodeWord", fn := fun _ => fun
  | [d] => { results := [.lit (.bool true)], args := [d] }
  | _ => none }
def fnExactCodeWordRow : OpenClaim := { program := "ytncbjkcpibajaaa", sum := "6a515adb56b40f666effb95af3f8d89e5a82c2b71215d6acb8c4b185dcb6f173", func := "loop.example/g00849/laws.FnExactCodeWord", spec := "fnExactCodeWord", apart := false }
def FnExactCodeWordSaid : Prop := fnExactCodeWordRow.holds Try.pinned (OpenSpec.ofChange fnExactCodeWordSpec)

/-- ITS FALSE NEIGHBOUR: 'it returns false'. Refute it at one input. -/
def fnExactCodeWordWrong : ChangeSpec := { name := "fnExactCodeWord", fn := fun _ => fun
  | [d] => { results := [.lit (.bool false)], args := [d] }
  | _ => none }
def FnExactCodeWordWrongFalsely : Prop := fnExactCodeWordRow.holds Try.pinned (OpenSpec.ofChange fnExactCodeWordWrong)

/-- 'laws.FnExactNameOk': WHATEVER THE INPUT: true; the input reads as it did. -/
def fnExactNameOkSpec : ChangeSpec := { name := "fnExactNameOk", fn := fun _ => fun
  | [d] => { results := [.lit (.bool true)], args := [d] }
  | _ => none }
def fnExactNameOkRow : OpenClaim := { program := "ytncbjkcpibajaaa", sum := "6a515adb56b40f666effb95af3f8d89e5a82c2b71215d6acb8c4b185dcb6f173", func := "loop.example/g00849/laws.FnExactNameOk", spec := "fnExactNameOk", apart := false }
def FnExactNameOkSaid : Prop := fnExactNameOkRow.holds Try.pinned (OpenSpec.ofChange fnExactNameOkSpec)

/-- ITS FALSE NEIGHBOUR: 'it returns false'. Refute it at one input. -/
def fnExactNameOkWrong : ChangeSpec := { name := "fnExactNameOk", fn := fun _ => fun
  | [d] => { results := [.lit (.bool false)], args := [d] }
  | _ => none }
def FnExactNameOkWrongFalsely : Prop := fnExactNameOkRow.holds Try.pinned (OpenSpec.ofChange fnExactNameOkWrong)

/- THE SECOND FORM. 'bulk': how many values and letters a reading holds, each counted each time it is reached (what is shared counts as often as it is met; a slice's spare places count too). A statement '..UptoSaid' is the law's where the arguments, and the package variables that the reading takes, are together of bulk at most 1048576: NARROWER than '..Said'. Prove '..Said' where nothing that the law and all that it calls make is longer than what came in: it says more and counts as full. Else prove '..UptoSaid'. A law counts once. -/
mutual
def uptoBulk {H : Type} : DataW H → Nat
  | .lit (.string bytes) => bytes.length + 1
  | .lit _ => 1
  | .nil => 1
  | .ptr d => uptoBulk d + 1
  | .slice elems spare => uptoBulkAll elems + uptoBulkAll spare + 1
  | .agg parts => uptoBulkAll parts + 1
  | .iface _ d => uptoBulk d + 1
  | .map entries => uptoBulkEntries entries + 1
  | .held _ => 1
def uptoBulkAll {H : Type} : List (DataW H) → Nat
  | [] => 0
  | d :: r => uptoBulk d + uptoBulkAll r
def uptoBulkEntries {H : Type} : List (Lit × DataW H) → Nat
  | [] => 0
  | x :: r => uptoBulkEntry x + uptoBulkEntries r
def uptoBulkEntry {H : Type} : Lit × DataW H → Nat
  | (.string bytes, d) => bytes.length + uptoBulk d + 1
  | (_, d) => uptoBulk d + 1
 end
def uptoSmall : (H : Type) → List (DataW H) → Bool := fun _ ds => decide (uptoBulkAll ds ≤ 1048576)
def OpenSpec.upto (s : _root_.Go.ChangeSpec) : _root_.Go.OpenSpec := { _root_.Go.OpenSpec.ofChange s with cond := some uptoSmall }

/-- 'laws.FnExactConstants', WHERE WHAT IT READS IS OF BULK AT MOST 1048576: true; the input reads as it did. -/
def fnExactConstantsUptoRow : OpenClaim := { program := "ytncbjkcpibajaaa", sum := "6a515adb56b40f666effb95af3f8d89e5a82c2b71215d6acb8c4b185dcb6f173", func := "loop.example/g00849/laws.FnExactConstants", spec := "fnExactConstants", apart := false, narrowed := true }
def FnExactConstantsUptoSaid : Prop := fnExactConstantsUptoRow.holds Try.pinned (OpenSpec.upto fnExactConstantsSpec)

/-- 'laws.FnExactPutHex', WHERE WHAT IT READS IS OF BULK AT MOST 1048576: true; the input reads as it did. -/
def fnExactPutHexUptoRow : OpenClaim := { program := "ytncbjkcpibajaaa", sum := "6a515adb56b40f666effb95af3f8d89e5a82c2b71215d6acb8c4b185dcb6f173", func := "loop.example/g00849/laws.FnExactPutHex", spec := "fnExactPutHex", apart := false, narrowed := true }
def FnExactPutHexUptoSaid : Prop := fnExactPutHexUptoRow.holds Try.pinned (OpenSpec.upto fnExactPutHexSpec)

/-- 'laws.FnExactCodeOk', WHERE WHAT IT READS IS OF BULK AT MOST 1048576: true; the input reads as it did. -/
def fnExactCodeOkUptoRow : OpenClaim := { program := "ytncbjkcpibajaaa", sum := "6a515adb56b40f666effb95af3f8d89e5a82c2b71215d6acb8c4b185dcb6f173", func := "loop.example/g00849/laws.FnExactCodeOk", spec := "fnExactCodeOk", apart := false, narrowed := true }
def FnExactCodeOkUptoSaid : Prop := fnExactCodeOkUptoRow.holds Try.pinned (OpenSpec.upto fnExactCodeOkSpec)

/-- 'laws.FnExactGfAdd', WHERE WHAT IT READS IS OF BULK AT MOST 1048576: true; the input reads as it did. -/
def fnExactGfAddUptoRow : OpenClaim := { program := "ytncbjkcpibajaaa", sum := "6a515adb56b40f666effb95af3f8d89e5a82c2b71215d6acb8c4b185dcb6f173", func := "loop.example/g00849/laws.FnExactGfAdd", spec := "fnExactGfAdd", apart := false, narrowed := true }
def FnExactGfAddUptoSaid : Prop := fnExactGfAddUptoRow.holds Try.pinned (OpenSpec.upto fnExactGfAddSpec)

/-- 'laws.FnExactCodeWord', WHERE WHAT IT READS IS OF BULK AT MOST 1048576: true; the input reads as it did. -/
def fnExactCodeWordUptoRow : OpenClaim := { program := "ytncbjkcpibajaaa", sum := "6a515adb56b40f666effb95af3f8d89e5a82c2b71215d6acb8c4b185dcb6f173", func := "loop.example/g00849/laws.FnExactCodeWord", spec := "fnExactCodeWord", apart := false, narrowed := true }
def FnExactCodeWordUptoSaid : Prop := fnExactCodeWordUptoRow.holds Try.pinned (OpenSpec.upto fnExactCodeWordSpec)

/-- 'laws.FnExactNameOk', WHERE WHAT IT READS IS OF BULK AT MOST 1048576: true; the input reads as it did. -/
def fnExactNameOkUptoRow : OpenClaim := { program := "ytncbjkcpibajaaa", sum := "6a515adb56b40f666effb95af3f8d89e5a82c2b71215d6acb8c4b185dcb6f173", func := "loop.example/g00849/laws.FnExactNameOk", spec := "fnExactNameOk", apart := false, narrowed := true }
def FnExactNameOkUptoSaid : Prop := fnExactNameOkUptoRow.holds Try.pinned (OpenSpec.upto fnExactNameOkSpec)

end Rows
end Go.Proofs.Ytncbjkcpibajaaa
