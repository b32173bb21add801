/-
  DERIVED. GIVEN WITH THE SEED: THE CARDS: each row of YtphdjpfdelpecaaGreatDoorRows.lean that lists a variable, with what it lists TIED to the program's text (the seventh form; the later family's looks); each row that meets fmt, with fmt's text TOLD by the authors' own Lean function (tested against real Go, not proved from fmt's source: count such statements apart). THE CARD IS WHAT COUNTS. Prove the row's statement (the work); the ties are given (YtphdjpfdelpecaaGreatDoorTie.lean); close each card by the builder's one call (the guide's Derived/Test/ToyasCard.lean, 'card_holds'). Laid BY PROGRAM, IN A SANDBOX (cutbox-door.mjs). By AI agents, Wed Nov 11 2026. No macro, syntax, notation, axiom, sorry.
-/
import Derived.Test.YtphdjpfdelpecaaGreatDoorRows
import GoSem.ClaimSeven
namespace Go.Proofs.YtphdjpfdelpecaaGreatDoor
namespace Rows

/-- THE TIED CARD OF 'duettop.TopOrder'. -/
def topOrderCard : Claim7 := { stood := { row := topOrderRow, standIns := [], harness := (true, "2ee1e5a386a60f2d7272f6cdb957baa7bc19b5e21331be3305a48992fe60354d"), looks := true }, kinds := [], alts := [], laidByText := true, laidKinds := [.data, .data, .data, .data, .widerDeep, .widerDeep, .pinned], laidTests := true, laidLooks := .later }
def TopOrderCardSaid : Prop := Claim7.holds Tryz.pinned (.plain (OpenSpec.ofChange topOrderSpec)) topOrderCard

/-- THE TIED CARD OF 'duettop.TopFrames'. -/
def topFramesCard : Claim7 := { stood := { row := topFramesRow, standIns := [], harness := (true, "2ee1e5a386a60f2d7272f6cdb957baa7bc19b5e21331be3305a48992fe60354d"), looks := true }, kinds := [], alts := [], laidByText := true, laidKinds := [.data, .data, .data, .data, .widerDeep, .widerDeep, .pinned], laidTests := true, laidLooks := .later }
def TopFramesCardSaid : Prop := Claim7.holds Tryz.pinned (.plain (OpenSpec.ofChange topFramesSpec)) topFramesCard

/-- THE SECOND FORM's CARD OF 'duettop.TopOrder'. -/
def topOrderUptoCard : Claim7 := { stood := { row := topOrderUptoRow, standIns := [], harness := (true, "2ee1e5a386a60f2d7272f6cdb957baa7bc19b5e21331be3305a48992fe60354d"), looks := true }, kinds := [], alts := [], laidByText := true, laidKinds := [.data, .data, .data, .data, .widerDeep, .widerDeep, .pinned], laidTests := true, laidLooks := .later }
def TopOrderUptoCardSaid : Prop := Claim7.holds Tryz.pinned (.plain (OpenSpec.upto topOrderSpec)) topOrderUptoCard

/-- THE SECOND FORM's CARD OF 'duettop.TopFrames'. -/
def topFramesUptoCard : Claim7 := { stood := { row := topFramesUptoRow, standIns := [], harness := (true, "2ee1e5a386a60f2d7272f6cdb957baa7bc19b5e21331be3305a48992fe60354d"), looks := true }, kinds := [], alts := [], laidByText := true, laidKinds := [.data, .data, .data, .data, .widerDeep, .widerDeep, .pinned], laidTests := true, laidLooks := .later }
def TopFramesUptoCardSaid : Prop := Claim7.holds Tryz.pinned (.plain (OpenSpec.upto topFramesSpec)) topFramesUptoCard
end Rows
end Go.Proofs.YtphdjpfdelpecaaGreatDoor
