/-
  DERIVED. GIVEN WITH THE SEED: THE CARDS: each row of YtcipamnhmeplkaaGreatDoorRows.lean that lists a variable, with what it lists TIED to the program's text (the seventh form; the later family's looks); each row that meets fmt, with fmt's text TOLD by the authors' own Lean function (tested against real Go, not proved from fmt's source: count such statements apart). THE CARD IS WHAT COUNTS. Prove the row's statement (the work); the ties are given (YtcipamnhmeplkaaGreatDoorTie.lean); close each card by the builder's one call (the guide's Derived/Test/ToyasCard.lean, 'card_holds'). Laid BY PROGRAM, IN A SANDBOX (cutbox-door.mjs). By AI agents, Wed Nov 11 2026. No macro, syntax, notation, axiom, sorry.
-/
import Derived.Test.YtcipamnhmeplkaaGreatDoorRows
import GoSem.ClaimSeven
namespace Go.Proofs.YtcipamnhmeplkaaGreatDoor
namespace Rows

/-- THE TIED CARD OF 'lapstonetop.WholeJudged'. -/
def wholeJudgedCard : Claim7 := { stood := { row := wholeJudgedRow, standIns := [], harness := (true, "9872984334b22fe3eef162b1016419bb5acd405e7fe3f0688eb91e2b30002314"), looks := false }, kinds := [], alts := [], laidByText := true, laidKinds := [.data], laidTests := true, laidLooks := .later }
def WholeJudgedCardSaid : Prop := Claim7.holds Tryz.pinned (.plain (OpenSpec.ofChange wholeJudgedSpec)) wholeJudgedCard

/-- THE SECOND FORM's CARD OF 'lapstonetop.WholeJudged'. -/
def wholeJudgedUptoCard : Claim7 := { stood := { row := wholeJudgedUptoRow, standIns := [], harness := (true, "9872984334b22fe3eef162b1016419bb5acd405e7fe3f0688eb91e2b30002314"), looks := false }, kinds := [], alts := [], laidByText := true, laidKinds := [.data], laidTests := true, laidLooks := .later }
def WholeJudgedUptoCardSaid : Prop := Claim7.holds Tryz.pinned (.plain (OpenSpec.upto wholeJudgedSpec)) wholeJudgedUptoCard
end Rows
end Go.Proofs.YtcipamnhmeplkaaGreatDoor
