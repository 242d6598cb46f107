/-
  DERIVED. GIVEN WITH THE SEED: THE CARDS: each row of YtlbfdbinaekjoaaGreatDoorRows.lean that lists a variable, with what it lists TIED to the program's text (the seventh form; the later family's looks); each row that meets fmt, with fmt's text TOLD by the authors' own Lean function (tested against real Go, not proved from fmt's source: count such statements apart). THE CARD IS WHAT COUNTS. Prove the row's statement (the work); the ties are given (YtlbfdbinaekjoaaGreatDoorTie.lean); close each card by the builder's one call (the guide's Derived/Test/ToyasCard.lean, 'card_holds'). Laid BY PROGRAM, IN A SANDBOX (cutbox-door.mjs). By AI agents, Wed Nov 11 2026. No macro, syntax, notation, axiom, sorry.
-/
import Derived.Test.YtlbfdbinaekjoaaGreatDoorRows
import GoSem.ClaimSeven
namespace Go.Proofs.YtlbfdbinaekjoaaGreatDoor
namespace Rows

/-- THE TIED CARD OF 'quillwortlaw13.ParseFinds'. -/
def parseFindsCard : Claim7 := { stood := { row := parseFindsRow, standIns := [], harness := (true, "cf98e5451e2f0e8e75c2915b0922bffa65ace139acb72b2e87d209d35460e8ff"), looks := false }, kinds := [], alts := [], laidByText := true, laidKinds := [.data, .pinned], laidTests := true, laidLooks := .later }
def ParseFindsCardSaid : Prop := Claim7.holds Tryz.pinned (.plain (OpenSpec.ofChange parseFindsSpec)) parseFindsCard

/-- THE SECOND FORM's CARD OF 'quillwortlaw13.ParseFinds'. -/
def parseFindsUptoCard : Claim7 := { stood := { row := parseFindsUptoRow, standIns := [], harness := (true, "cf98e5451e2f0e8e75c2915b0922bffa65ace139acb72b2e87d209d35460e8ff"), looks := false }, kinds := [], alts := [], laidByText := true, laidKinds := [.data, .pinned], laidTests := true, laidLooks := .later }
def ParseFindsUptoCardSaid : Prop := Claim7.holds Tryz.pinned (.plain (OpenSpec.upto parseFindsSpec)) parseFindsUptoCard
end Rows
end Go.Proofs.YtlbfdbinaekjoaaGreatDoor
