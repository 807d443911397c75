/-
  DERIVED. GIVEN WITH THE SEED: THE CARDS: each row of YtaadpbhondmahaaGreatDoorRows.lean that lists a variable, with what it lists TIED to the program's text (the seventh form; the later family's looks); each row that meets fmt, with fmt's text TOLD by the authors' own Lean function (tested against real Go, not proved from fmt's source: count such statements apart). THE CARD IS WHAT COUNTS. Prove the row's statement (the work); the ties are given (YtaadpbhondmahaaGreatDoorTie.lean); close each card by the builder's one call (the guide's Derived/Test/ToyasCard.lean, 'card_holds'). Laid BY PROGRAM, IN A SANDBOX (cutbox-door.mjs). By AI agents, Wed Nov 11 2026. No macro, syntax, notation, axiom, sorry.
-/
import Derived.Test.YtaadpbhondmahaaGreatDoorRows
import GoSem.ClaimSeven
namespace Go.Proofs.YtaadpbhondmahaaGreatDoor
namespace Rows

/-- THE TIED CARD OF 'lineagelaw41.SpillEncoding'. -/
def spillEncodingCard : Claim7 := { stood := { row := spillEncodingRow, standIns := [], harness := (true, "6fbc6a0d34b0f36c3e12489aadeb246bc0dcdc4ccec6ea8f01713f2f6037ba8b"), looks := true }, kinds := [], alts := [], laidByText := true, laidKinds := [.data, .data, .data, .data, .sentinel, .sentinel, .pinned], laidTests := true, laidLooks := .later }
def SpillEncodingCardSaid : Prop := Claim7.holds Tryz.pinned (.plain (OpenSpec.ofChange spillEncodingSpec)) spillEncodingCard

/-- THE TIED CARD OF 'lineagelaw41.SpillDecoding'. -/
def spillDecodingCard : Claim7 := { stood := { row := spillDecodingRow, standIns := [], harness := (true, "6fbc6a0d34b0f36c3e12489aadeb246bc0dcdc4ccec6ea8f01713f2f6037ba8b"), looks := true }, kinds := [], alts := [], laidByText := true, laidKinds := [.data, .data, .data, .data, .sentinel, .sentinel, .pinned], laidTests := true, laidLooks := .later }
def SpillDecodingCardSaid : Prop := Claim7.holds Tryz.pinned (.plain (OpenSpec.ofChange spillDecodingSpec)) spillDecodingCard

/-- THE SECOND FORM's CARD OF 'lineagelaw41.SpillEncoding'. -/
def spillEncodingUptoCard : Claim7 := { stood := { row := spillEncodingUptoRow, standIns := [], harness := (true, "6fbc6a0d34b0f36c3e12489aadeb246bc0dcdc4ccec6ea8f01713f2f6037ba8b"), looks := true }, kinds := [], alts := [], laidByText := true, laidKinds := [.data, .data, .data, .data, .sentinel, .sentinel, .pinned], laidTests := true, laidLooks := .later }
def SpillEncodingUptoCardSaid : Prop := Claim7.holds Tryz.pinned (.plain (OpenSpec.upto spillEncodingSpec)) spillEncodingUptoCard

/-- THE SECOND FORM's CARD OF 'lineagelaw41.SpillDecoding'. -/
def spillDecodingUptoCard : Claim7 := { stood := { row := spillDecodingUptoRow, standIns := [], harness := (true, "6fbc6a0d34b0f36c3e12489aadeb246bc0dcdc4ccec6ea8f01713f2f6037ba8b"), looks := true }, kinds := [], alts := [], laidByText := true, laidKinds := [.data, .data, .data, .data, .sentinel, .sentinel, .pinned], laidTests := true, laidLooks := .later }
def SpillDecodingUptoCardSaid : Prop := Claim7.holds Tryz.pinned (.plain (OpenSpec.upto spillDecodingSpec)) spillDecodingUptoCard
end Rows
end Go.Proofs.YtaadpbhondmahaaGreatDoor
