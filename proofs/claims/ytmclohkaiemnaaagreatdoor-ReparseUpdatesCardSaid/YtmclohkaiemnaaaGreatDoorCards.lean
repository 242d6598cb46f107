/-
  DERIVED. GIVEN WITH THE SEED: THE CARDS: each row of YtmclohkaiemnaaaGreatDoorRows.lean that lists a variable, with what it lists TIED to the program's text (the seventh form; the later family's looks); each row that meets fmt, with fmt's text TOLD by the authors' own Lean function (tested against real Go, not proved from fmt's source: count such statements apart). THE CARD IS WHAT COUNTS. Prove the row's statement (the work); the ties are given (YtmclohkaiemnaaaGreatDoorTie.lean); close each card by the builder's one call (the guide's Derived/Test/ToyasCard.lean, 'card_holds'). Laid BY PROGRAM, IN A SANDBOX (cutbox-door.mjs). By AI agents, Wed Nov 11 2026. No macro, syntax, notation, axiom, sorry.
-/
import Derived.Test.YtmclohkaiemnaaaGreatDoorRows
import GoSem.ClaimSeven
namespace Go.Proofs.YtmclohkaiemnaaaGreatDoor
namespace Rows

/-- THE TIED CARD OF 'quillwortlaw14.ReparseUpdates'. -/
def reparseUpdatesCard : Claim7 := { stood := { row := reparseUpdatesRow, standIns := [], harness := (true, "551ee4a9942f653e2bbff43f18fcae40c4e1632becdd2b7f1c01e6f2dfc0c5be"), looks := false }, kinds := [], alts := [], laidByText := true, laidKinds := [.data, .pinned], laidTests := true, laidLooks := .later }
def ReparseUpdatesCardSaid : Prop := Claim7.holds Tryz.pinned (.plain (OpenSpec.ofChange reparseUpdatesSpec)) reparseUpdatesCard

/-- THE SECOND FORM's CARD OF 'quillwortlaw14.ReparseUpdates'. -/
def reparseUpdatesUptoCard : Claim7 := { stood := { row := reparseUpdatesUptoRow, standIns := [], harness := (true, "551ee4a9942f653e2bbff43f18fcae40c4e1632becdd2b7f1c01e6f2dfc0c5be"), looks := false }, kinds := [], alts := [], laidByText := true, laidKinds := [.data, .pinned], laidTests := true, laidLooks := .later }
def ReparseUpdatesUptoCardSaid : Prop := Claim7.holds Tryz.pinned (.plain (OpenSpec.upto reparseUpdatesSpec)) reparseUpdatesUptoCard
end Rows
end Go.Proofs.YtmclohkaiemnaaaGreatDoor
