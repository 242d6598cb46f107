/-
  DERIVED. GIVEN WITH THE SEED: THE CARDS: each row of YtgdifhhioahakaaGreatDoorRows.lean that lists a variable, with what it lists TIED to the program's text (the seventh form; the later family's looks); each row that meets fmt, with fmt's text TOLD by the authors' own Lean function (tested against real Go, not proved from fmt's source: count such statements apart). THE CARD IS WHAT COUNTS. Prove the row's statement (the work); the ties are given (YtgdifhhioahakaaGreatDoorTie.lean); close each card by the builder's one call (the guide's Derived/Test/ToyasCard.lean, 'card_holds'). Laid BY PROGRAM, IN A SANDBOX (cutbox-door.mjs). By AI agents, Wed Nov 11 2026. No macro, syntax, notation, axiom, sorry.
-/
import Derived.Test.YtgdifhhioahakaaGreatDoorRows
import GoSem.ClaimSeven
namespace Go.Proofs.YtgdifhhioahakaaGreatDoor
namespace Rows

/-- THE TIED CARD OF 'quillwortlaw24.PaintWords'. -/
def paintWordsCard : Claim7 := { stood := { row := paintWordsRow, standIns := [], harness := (true, "5c4d6dcade1788dcf7a4bfe20ec8f882e91304d7457b958a5a52fa14a661cd8c"), looks := false }, kinds := [], alts := [], laidByText := true, laidKinds := [.data, .pinned], laidTests := true, laidLooks := .later }
def PaintWordsCardSaid : Prop := Claim7.holds Tryz.pinned (.plain (OpenSpec.ofChange paintWordsSpec)) paintWordsCard

/-- THE TIED CARD OF 'quillwortlaw24.PaintNames'. -/
def paintNamesCard : Claim7 := { stood := { row := paintNamesRow, standIns := [], harness := (true, "5c4d6dcade1788dcf7a4bfe20ec8f882e91304d7457b958a5a52fa14a661cd8c"), looks := false }, kinds := [], alts := [], laidByText := true, laidKinds := [.data, .data, .pinned], laidTests := true, laidLooks := .later }
def PaintNamesCardSaid : Prop := Claim7.holds Tryz.pinned (.plain (OpenSpec.ofChange paintNamesSpec)) paintNamesCard

/-- THE TIED CARD OF 'quillwortlaw24.PaintClips'. -/
def paintClipsCard : Claim7 := { stood := { row := paintClipsRow, standIns := [], harness := (true, "5c4d6dcade1788dcf7a4bfe20ec8f882e91304d7457b958a5a52fa14a661cd8c"), looks := false }, kinds := [], alts := [], laidByText := true, laidKinds := [.data, .pinned], laidTests := true, laidLooks := .later }
def PaintClipsCardSaid : Prop := Claim7.holds Tryz.pinned (.plain (OpenSpec.ofChange paintClipsSpec)) paintClipsCard

/-- THE TIED CARD OF 'quillwortlaw24.PaintTiles'. -/
def paintTilesCard : Claim7 := { stood := { row := paintTilesRow, standIns := [], harness := (true, "5c4d6dcade1788dcf7a4bfe20ec8f882e91304d7457b958a5a52fa14a661cd8c"), looks := false }, kinds := [], alts := [], laidByText := true, laidKinds := [.data, .pinned], laidTests := true, laidLooks := .later }
def PaintTilesCardSaid : Prop := Claim7.holds Tryz.pinned (.plain (OpenSpec.ofChange paintTilesSpec)) paintTilesCard

/-- THE TIED CARD OF 'quillwortlaw29.MotionTwice'. -/
def motionTwiceCard : Claim7 := { stood := { row := motionTwiceRow, standIns := [], harness := (true, "5c4d6dcade1788dcf7a4bfe20ec8f882e91304d7457b958a5a52fa14a661cd8c"), looks := false }, kinds := [], alts := [], laidByText := true, laidKinds := [.data, .pinned], laidTests := true, laidLooks := .later }
def MotionTwiceCardSaid : Prop := Claim7.holds Tryz.pinned (.plain (OpenSpec.ofChange motionTwiceSpec)) motionTwiceCard

/-- THE TIED CARD OF 'quillwortlaw29.MotionThere'. -/
def motionThereCard : Claim7 := { stood := { row := motionThereRow, standIns := [], harness := (true, "5c4d6dcade1788dcf7a4bfe20ec8f882e91304d7457b958a5a52fa14a661cd8c"), looks := false }, kinds := [], alts := [], laidByText := true, laidKinds := [.data, .pinned], laidTests := true, laidLooks := .later }
def MotionThereCardSaid : Prop := Claim7.holds Tryz.pinned (.plain (OpenSpec.ofChange motionThereSpec)) motionThereCard

/-- THE SECOND FORM's CARD OF 'quillwortlaw24.PaintWords'. -/
def paintWordsUptoCard : Claim7 := { stood := { row := paintWordsUptoRow, standIns := [], harness := (true, "5c4d6dcade1788dcf7a4bfe20ec8f882e91304d7457b958a5a52fa14a661cd8c"), looks := false }, kinds := [], alts := [], laidByText := true, laidKinds := [.data, .pinned], laidTests := true, laidLooks := .later }
def PaintWordsUptoCardSaid : Prop := Claim7.holds Tryz.pinned (.plain (OpenSpec.upto paintWordsSpec)) paintWordsUptoCard

/-- THE SECOND FORM's CARD OF 'quillwortlaw24.PaintNames'. -/
def paintNamesUptoCard : Claim7 := { stood := { row := paintNamesUptoRow, standIns := [], harness := (true, "5c4d6dcade1788dcf7a4bfe20ec8f882e91304d7457b958a5a52fa14a661cd8c"), looks := false }, kinds := [], alts := [], laidByText := true, laidKinds := [.data, .data, .pinned], laidTests := true, laidLooks := .later }
def PaintNamesUptoCardSaid : Prop := Claim7.holds Tryz.pinned (.plain (OpenSpec.upto paintNamesSpec)) paintNamesUptoCard

/-- THE SECOND FORM's CARD OF 'quillwortlaw24.PaintClips'. -/
def paintClipsUptoCard : Claim7 := { stood := { row := paintClipsUptoRow, standIns := [], harness := (true, "5c4d6dcade1788dcf7a4bfe20ec8f882e91304d7457b958a5a52fa14a661cd8c"), looks := false }, kinds := [], alts := [], laidByText := true, laidKinds := [.data, .pinned], laidTests := true, laidLooks := .later }
def PaintClipsUptoCardSaid : Prop := Claim7.holds Tryz.pinned (.plain (OpenSpec.upto paintClipsSpec)) paintClipsUptoCard

/-- THE SECOND FORM's CARD OF 'quillwortlaw24.PaintTiles'. -/
def paintTilesUptoCard : Claim7 := { stood := { row := paintTilesUptoRow, standIns := [], harness := (true, "5c4d6dcade1788dcf7a4bfe20ec8f882e91304d7457b958a5a52fa14a661cd8c"), looks := false }, kinds := [], alts := [], laidByText := true, laidKinds := [.data, .pinned], laidTests := true, laidLooks := .later }
def PaintTilesUptoCardSaid : Prop := Claim7.holds Tryz.pinned (.plain (OpenSpec.upto paintTilesSpec)) paintTilesUptoCard

/-- THE SECOND FORM's CARD OF 'quillwortlaw29.MotionTwice'. -/
def motionTwiceUptoCard : Claim7 := { stood := { row := motionTwiceUptoRow, standIns := [], harness := (true, "5c4d6dcade1788dcf7a4bfe20ec8f882e91304d7457b958a5a52fa14a661cd8c"), looks := false }, kinds := [], alts := [], laidByText := true, laidKinds := [.data, .pinned], laidTests := true, laidLooks := .later }
def MotionTwiceUptoCardSaid : Prop := Claim7.holds Tryz.pinned (.plain (OpenSpec.upto motionTwiceSpec)) motionTwiceUptoCard

/-- THE SECOND FORM's CARD OF 'quillwortlaw29.MotionThere'. -/
def motionThereUptoCard : Claim7 := { stood := { row := motionThereUptoRow, standIns := [], harness := (true, "5c4d6dcade1788dcf7a4bfe20ec8f882e91304d7457b958a5a52fa14a661cd8c"), looks := false }, kinds := [], alts := [], laidByText := true, laidKinds := [.data, .pinned], laidTests := true, laidLooks := .later }
def MotionThereUptoCardSaid : Prop := Claim7.holds Tryz.pinned (.plain (OpenSpec.upto motionThereSpec)) motionThereUptoCard
end Rows
end Go.Proofs.YtgdifhhioahakaaGreatDoor
