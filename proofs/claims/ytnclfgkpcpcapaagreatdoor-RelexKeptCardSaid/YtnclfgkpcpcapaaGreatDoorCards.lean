/-
  DERIVED. GIVEN WITH THE SEED: THE CARDS: each row of YtnclfgkpcpcapaaGreatDoorRows.lean that lists a variable, with what it lists TIED to the program's text (the seventh form; the later family's looks); each row that meets fmt, with fmt's text TOLD by the authors' own Lean function (tested against real Go, not proved from fmt's source: count such statements apart). THE CARD IS WHAT COUNTS. Prove the row's statement (the work); the ties are given (YtnclfgkpcpcapaaGreatDoorTie.lean); close each card by the builder's one call (the guide's Derived/Test/ToyasCard.lean, 'card_holds'). Laid BY PROGRAM, IN A SANDBOX (cutbox-door.mjs). By AI agents, Wed Nov 11 2026. No macro, syntax, notation, axiom, sorry.
-/
import Derived.Test.YtnclfgkpcpcapaaGreatDoorRows
import GoSem.ClaimSeven
namespace Go.Proofs.YtnclfgkpcpcapaaGreatDoor
namespace Rows

/-- THE TIED CARD OF 'quillwortlaw10.RelexKept'. -/
def relexKeptCard : Claim7 := { stood := { row := relexKeptRow, standIns := [], harness := (true, "14e76f775b9ef5b3ea155fb236e18b5d4579ceb115c092016dd1a96d5fc0f700"), looks := false }, kinds := [], alts := [], laidByText := true, laidKinds := [.data, .pinned], laidTests := true, laidLooks := .later }
def RelexKeptCardSaid : Prop := Claim7.holds Tryz.pinned (.plain (OpenSpec.ofChange relexKeptSpec)) relexKeptCard

/-- THE SECOND FORM's CARD OF 'quillwortlaw10.RelexKept'. -/
def relexKeptUptoCard : Claim7 := { stood := { row := relexKeptUptoRow, standIns := [], harness := (true, "14e76f775b9ef5b3ea155fb236e18b5d4579ceb115c092016dd1a96d5fc0f700"), looks := false }, kinds := [], alts := [], laidByText := true, laidKinds := [.data, .pinned], laidTests := true, laidLooks := .later }
def RelexKeptUptoCardSaid : Prop := Claim7.holds Tryz.pinned (.plain (OpenSpec.upto relexKeptSpec)) relexKeptUptoCard
end Rows
end Go.Proofs.YtnclfgkpcpcapaaGreatDoor
