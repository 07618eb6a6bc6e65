/-
  DERIVED. GIVEN WITH THE SEED: THE CARDS: each row of YtohjpgcmhihdhaaDoorRows.lean that lists a variable, with what it lists TIED to the program's text (the seventh form; the later family's looks); each row that meets fmt, with fmt's text TOLD by the authors' own Lean function (tested against real Go, not proved from fmt's source: count such statements apart). THE CARD IS WHAT COUNTS. Prove the row's statement (the work); the ties are given (YtohjpgcmhihdhaaDoorTie.lean); close each card by the builder's one call (the guide's Derived/Test/ToyasCard.lean, 'card_holds'). Laid BY PROGRAM, IN A SANDBOX (cutbox-door.mjs). By AI agents, Wed Nov 11 2026. No macro, syntax, notation, axiom, sorry.
-/
import Derived.Test.YtohjpgcmhihdhaaDoorRows
import GoSem.ClaimSeven
namespace Go.Proofs.YtohjpgcmhihdhaaDoor
namespace Rows

/-- THE TIED CARD OF 'laws.FnExactTreeText'. -/
def fnExactTreeTextCard : Claim7 := { stood := { row := fnExactTreeTextRow, standIns := [], harness := (true, "b48c06045e5e5afa0b99c0e6a9771ee683da43e680a0b165ea6cbd568e7f4867"), looks := true }, kinds := [], alts := [], laidByText := true, laidKinds := [.data, .data, .data], laidTests := true, laidLooks := .later }
def FnExactTreeTextCardSaid : Prop := Claim7.holds Tryd.pinned (.plain (OpenSpec.ofChange fnExactTreeTextSpec)) fnExactTreeTextCard

/-- THE TIED CARD OF 'laws.FnTreeText'. -/
def fnTreeTextCard : Claim7 := { stood := { row := fnTreeTextRow, standIns := [], harness := (true, "b48c06045e5e5afa0b99c0e6a9771ee683da43e680a0b165ea6cbd568e7f4867"), looks := true }, kinds := [], alts := [], laidByText := true, laidKinds := [.data, .data, .data, .data, .sentinel, .sentinel, .pinned], laidTests := true, laidLooks := .later }
def FnTreeTextCardSaid : Prop := Claim7.holds Tryd.pinned (.plain (OpenSpec.ofChange fnTreeTextSpec)) fnTreeTextCard

/-- THE SECOND FORM's CARD OF 'laws.FnExactTreeText'. -/
def fnExactTreeTextUptoCard : Claim7 := { stood := { row := fnExactTreeTextUptoRow, standIns := [], harness := (true, "b48c06045e5e5afa0b99c0e6a9771ee683da43e680a0b165ea6cbd568e7f4867"), looks := true }, kinds := [], alts := [], laidByText := true, laidKinds := [.data, .data, .data], laidTests := true, laidLooks := .later }
def FnExactTreeTextUptoCardSaid : Prop := Claim7.holds Tryd.pinned (.plain (OpenSpec.upto fnExactTreeTextSpec)) fnExactTreeTextUptoCard

/-- THE SECOND FORM's CARD OF 'laws.FnTreeText'. -/
def fnTreeTextUptoCard : Claim7 := { stood := { row := fnTreeTextUptoRow, standIns := [], harness := (true, "b48c06045e5e5afa0b99c0e6a9771ee683da43e680a0b165ea6cbd568e7f4867"), looks := true }, kinds := [], alts := [], laidByText := true, laidKinds := [.data, .data, .data, .data, .sentinel, .sentinel, .pinned], laidTests := true, laidLooks := .later }
def FnTreeTextUptoCardSaid : Prop := Claim7.holds Tryd.pinned (.plain (OpenSpec.upto fnTreeTextSpec)) fnTreeTextUptoCard
end Rows
end Go.Proofs.YtohjpgcmhihdhaaDoor
