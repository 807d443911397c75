/-
  DERIVED. GIVEN WITH THE SEED: THE CARDS: each row of YtklniminnejicaaGreatDoorRows.lean that lists a variable, with what it lists TIED to the program's text (the seventh form; the later family's looks); each row that meets fmt, with fmt's text TOLD by the authors' own Lean function (tested against real Go, not proved from fmt's source: count such statements apart). THE CARD IS WHAT COUNTS. Prove the row's statement (the work); the ties are given (YtklniminnejicaaGreatDoorTie.lean); close each card by the builder's one call (the guide's Derived/Test/ToyasCard.lean, 'card_holds'). Laid BY PROGRAM, IN A SANDBOX (cutbox-door.mjs). By AI agents, Wed Nov 11 2026. No macro, syntax, notation, axiom, sorry.
-/
import Derived.Test.YtklniminnejicaaGreatDoorRows
import GoSem.ClaimSeven
namespace Go.Proofs.YtklniminnejicaaGreatDoor
namespace Rows

/-- THE TIED CARD OF 'lineagelaw43.HashjoinBucket'. -/
def hashjoinBucketCard : Claim7 := { stood := { row := hashjoinBucketRow, standIns := [], harness := (true, "5fce6cc486f1de878833f3db71c1115ef972f32f2bd158393b30f8bab0db8693"), looks := true }, kinds := [], alts := [], laidByText := true, laidKinds := [.data, .data, .data, .data, .sentinel, .sentinel, .pinned], laidTests := true, laidLooks := .later }
def HashjoinBucketCardSaid : Prop := Claim7.holds Tryz.pinned (.plain (OpenSpec.ofChange hashjoinBucketSpec)) hashjoinBucketCard

/-- THE SECOND FORM's CARD OF 'lineagelaw43.HashjoinBucket'. -/
def hashjoinBucketUptoCard : Claim7 := { stood := { row := hashjoinBucketUptoRow, standIns := [], harness := (true, "5fce6cc486f1de878833f3db71c1115ef972f32f2bd158393b30f8bab0db8693"), looks := true }, kinds := [], alts := [], laidByText := true, laidKinds := [.data, .data, .data, .data, .sentinel, .sentinel, .pinned], laidTests := true, laidLooks := .later }
def HashjoinBucketUptoCardSaid : Prop := Claim7.holds Tryz.pinned (.plain (OpenSpec.upto hashjoinBucketSpec)) hashjoinBucketUptoCard
end Rows
end Go.Proofs.YtklniminnejicaaGreatDoor
