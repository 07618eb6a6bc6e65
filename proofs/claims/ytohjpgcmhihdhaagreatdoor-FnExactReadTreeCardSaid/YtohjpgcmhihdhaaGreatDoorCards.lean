/-
  DERIVED. GIVEN WITH THE SEED: THE CARDS: each row of YtohjpgcmhihdhaaGreatDoorRows.lean that lists a variable, with what it lists TIED to the program's text (the seventh form; the later family's looks); each row that meets fmt, with fmt's text TOLD by the authors' own Lean function (tested against real Go, not proved from fmt's source: count such statements apart). THE CARD IS WHAT COUNTS. Prove the row's statement (the work); the ties are given (YtohjpgcmhihdhaaGreatDoorTie.lean); close each card by the builder's one call (the guide's Derived/Test/ToyasCard.lean, 'card_holds'). Laid BY PROGRAM, IN A SANDBOX (cutbox-door.mjs). By AI agents, Wed Nov 11 2026. No macro, syntax, notation, axiom, sorry.
-/
import Derived.Test.YtohjpgcmhihdhaaGreatDoorRows
import GoSem.ClaimSeven
namespace Go.Proofs.YtohjpgcmhihdhaaGreatDoor
namespace Rows

/-- THE TIED CARD OF 'laws.FnExactReadTree'. -/
def fnExactReadTreeCard : Claim7 := { stood := { row := fnExactReadTreeRow, standIns := [], harness := (true, "e199d420b172179a1ec03d4878022de08c89f31d95f9f989c08fb09d718e75d3"), looks := true }, kinds := [], alts := [], laidByText := true, laidKinds := [.data, .data, .data, .data, .sentinel, .sentinel, .pinned], laidTests := true, laidLooks := .later }
def FnExactReadTreeCardSaid : Prop := Claim7.holds Tryz.pinned (.plain (OpenSpec.ofChange fnExactReadTreeSpec)) fnExactReadTreeCard

/-- THE SECOND FORM's CARD OF 'laws.FnExactReadTree'. -/
def fnExactReadTreeUptoCard : Claim7 := { stood := { row := fnExactReadTreeUptoRow, standIns := [], harness := (true, "e199d420b172179a1ec03d4878022de08c89f31d95f9f989c08fb09d718e75d3"), looks := true }, kinds := [], alts := [], laidByText := true, laidKinds := [.data, .data, .data, .data, .sentinel, .sentinel, .pinned], laidTests := true, laidLooks := .later }
def FnExactReadTreeUptoCardSaid : Prop := Claim7.holds Tryz.pinned (.plain (OpenSpec.upto fnExactReadTreeSpec)) fnExactReadTreeUptoCard
end Rows
end Go.Proofs.YtohjpgcmhihdhaaGreatDoor
