/-
  DERIVED. GIVEN WITH THE SEED: THE CARDS: each row of YtfagdpfgifgnoaaGreatDoorRows.lean that lists a variable, with what it lists TIED to the program's text (the seventh form; the later family's looks); each row that meets fmt, with fmt's text TOLD by the authors' own Lean function (tested against real Go, not proved from fmt's source: count such statements apart). THE CARD IS WHAT COUNTS. Prove the row's statement (the work); the ties are given (YtfagdpfgifgnoaaGreatDoorTie.lean); close each card by the builder's one call (the guide's Derived/Test/ToyasCard.lean, 'card_holds'). Laid BY PROGRAM, IN A SANDBOX (cutbox-door.mjs). By AI agents, Wed Nov 11 2026. No macro, syntax, notation, axiom, sorry.
-/
import Derived.Test.YtfagdpfgifgnoaaGreatDoorRows
import GoSem.ClaimSeven
namespace Go.Proofs.YtfagdpfgifgnoaaGreatDoor
namespace Rows

/-- THE TIED CARD OF 'quillwortlaw14.ReparseUpdates'. -/
def reparseUpdatesCard : Claim7 := { stood := { row := reparseUpdatesRow, standIns := [], harness := (true, "0494ce5a275d28eb8a1bdfc5c2a1f88207b6f230e153f56454010b6bb48d6b0e"), looks := false }, kinds := [], alts := [], laidByText := true, laidKinds := [.data, .pinned], laidTests := true, laidLooks := .later }
def ReparseUpdatesCardSaid : Prop := Claim7.holds Tryz.pinned (.plain (OpenSpec.ofChange reparseUpdatesSpec)) reparseUpdatesCard

/-- THE TIED CARD OF 'quillwortlaw14.ReparseUndone'. -/
def reparseUndoneCard : Claim7 := { stood := { row := reparseUndoneRow, standIns := [], harness := (true, "0494ce5a275d28eb8a1bdfc5c2a1f88207b6f230e153f56454010b6bb48d6b0e"), looks := false }, kinds := [], alts := [], laidByText := true, laidKinds := [.data, .pinned], laidTests := true, laidLooks := .later }
def ReparseUndoneCardSaid : Prop := Claim7.holds Tryz.pinned (.plain (OpenSpec.ofChange reparseUndoneSpec)) reparseUndoneCard

/-- THE TIED CARD OF 'quillwortlaw14.ReparseTops'. -/
def reparseTopsCard : Claim7 := { stood := { row := reparseTopsRow, standIns := [], harness := (true, "0494ce5a275d28eb8a1bdfc5c2a1f88207b6f230e153f56454010b6bb48d6b0e"), looks := false }, kinds := [], alts := [], laidByText := true, laidKinds := [.data, .pinned], laidTests := true, laidLooks := .later }
def ReparseTopsCardSaid : Prop := Claim7.holds Tryz.pinned (.plain (OpenSpec.ofChange reparseTopsSpec)) reparseTopsCard

/-- THE TIED CARD OF 'quillwortlaw14.ReparseHistory'. -/
def reparseHistoryCard : Claim7 := { stood := { row := reparseHistoryRow, standIns := [], harness := (true, "0494ce5a275d28eb8a1bdfc5c2a1f88207b6f230e153f56454010b6bb48d6b0e"), looks := false }, kinds := [], alts := [], laidByText := true, laidKinds := [.data, .pinned], laidTests := true, laidLooks := .later }
def ReparseHistoryCardSaid : Prop := Claim7.holds Tryz.pinned (.plain (OpenSpec.ofChange reparseHistorySpec)) reparseHistoryCard

/-- THE SECOND FORM's CARD OF 'quillwortlaw14.ReparseUpdates'. -/
def reparseUpdatesUptoCard : Claim7 := { stood := { row := reparseUpdatesUptoRow, standIns := [], harness := (true, "0494ce5a275d28eb8a1bdfc5c2a1f88207b6f230e153f56454010b6bb48d6b0e"), looks := false }, kinds := [], alts := [], laidByText := true, laidKinds := [.data, .pinned], laidTests := true, laidLooks := .later }
def ReparseUpdatesUptoCardSaid : Prop := Claim7.holds Tryz.pinned (.plain (OpenSpec.upto reparseUpdatesSpec)) reparseUpdatesUptoCard

/-- THE SECOND FORM's CARD OF 'quillwortlaw14.ReparseUndone'. -/
def reparseUndoneUptoCard : Claim7 := { stood := { row := reparseUndoneUptoRow, standIns := [], harness := (true, "0494ce5a275d28eb8a1bdfc5c2a1f88207b6f230e153f56454010b6bb48d6b0e"), looks := false }, kinds := [], alts := [], laidByText := true, laidKinds := [.data, .pinned], laidTests := true, laidLooks := .later }
def ReparseUndoneUptoCardSaid : Prop := Claim7.holds Tryz.pinned (.plain (OpenSpec.upto reparseUndoneSpec)) reparseUndoneUptoCard

/-- THE SECOND FORM's CARD OF 'quillwortlaw14.ReparseTops'. -/
def reparseTopsUptoCard : Claim7 := { stood := { row := reparseTopsUptoRow, standIns := [], harness := (true, "0494ce5a275d28eb8a1bdfc5c2a1f88207b6f230e153f56454010b6bb48d6b0e"), looks := false }, kinds := [], alts := [], laidByText := true, laidKinds := [.data, .pinned], laidTests := true, laidLooks := .later }
def ReparseTopsUptoCardSaid : Prop := Claim7.holds Tryz.pinned (.plain (OpenSpec.upto reparseTopsSpec)) reparseTopsUptoCard

/-- THE SECOND FORM's CARD OF 'quillwortlaw14.ReparseHistory'. -/
def reparseHistoryUptoCard : Claim7 := { stood := { row := reparseHistoryUptoRow, standIns := [], harness := (true, "0494ce5a275d28eb8a1bdfc5c2a1f88207b6f230e153f56454010b6bb48d6b0e"), looks := false }, kinds := [], alts := [], laidByText := true, laidKinds := [.data, .pinned], laidTests := true, laidLooks := .later }
def ReparseHistoryUptoCardSaid : Prop := Claim7.holds Tryz.pinned (.plain (OpenSpec.upto reparseHistorySpec)) reparseHistoryUptoCard
end Rows
end Go.Proofs.YtfagdpfgifgnoaaGreatDoor
