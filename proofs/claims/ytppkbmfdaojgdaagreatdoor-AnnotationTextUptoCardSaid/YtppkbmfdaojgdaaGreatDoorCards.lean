/-
  DERIVED. GIVEN WITH THE SEED: THE CARDS: each row of YtppkbmfdaojgdaaGreatDoorRows.lean that lists a variable, with what it lists TIED to the program's text (the seventh form; the later family's looks); each row that meets fmt, with fmt's text TOLD by the authors' own Lean function (tested against real Go, not proved from fmt's source: count such statements apart). THE CARD IS WHAT COUNTS. Prove the row's statement (the work); the ties are given (YtppkbmfdaojgdaaGreatDoorTie.lean); close each card by the builder's one call (the guide's Derived/Test/ToyasCard.lean, 'card_holds'). Laid BY PROGRAM, IN A SANDBOX (cutbox-door.mjs). By AI agents, Wed Nov 11 2026. No macro, syntax, notation, axiom, sorry.
-/
import Derived.Test.YtppkbmfdaojgdaaGreatDoorRows
import GoSem.ClaimSeven
namespace Go.Proofs.YtppkbmfdaojgdaaGreatDoor
namespace Rows

/-- THE TIED CARD OF 'lineagelaw05.AnnotationText'. -/
def annotationTextCard : Claim7 := { stood := { row := annotationTextRow, standIns := [], harness := (true, "e6826c770845ed99ec194bb2f6fb9cd6d33a08a8e48dd012b6b3b12a1f056d95"), looks := true }, kinds := [], alts := [], laidByText := true, laidKinds := [.data, .data, .data, .data, .sentinel, .sentinel, .pinned], laidTests := true, laidLooks := .later }
def AnnotationTextCardSaid : Prop := Claim7.holds Tryz.pinned (.plain (OpenSpec.ofChange annotationTextSpec)) annotationTextCard

/-- THE SECOND FORM's CARD OF 'lineagelaw05.AnnotationText'. -/
def annotationTextUptoCard : Claim7 := { stood := { row := annotationTextUptoRow, standIns := [], harness := (true, "e6826c770845ed99ec194bb2f6fb9cd6d33a08a8e48dd012b6b3b12a1f056d95"), looks := true }, kinds := [], alts := [], laidByText := true, laidKinds := [.data, .data, .data, .data, .sentinel, .sentinel, .pinned], laidTests := true, laidLooks := .later }
def AnnotationTextUptoCardSaid : Prop := Claim7.holds Tryz.pinned (.plain (OpenSpec.upto annotationTextSpec)) annotationTextUptoCard
end Rows
end Go.Proofs.YtppkbmfdaojgdaaGreatDoor
