/-
  DERIVED. GIVEN WITH THE SEED: THE CARDS: each row of YtcagfamdoaoimaaGreatDoorRows.lean that lists a variable, with what it lists TIED to the program's text (the seventh form; the later family's looks); each row that meets fmt, with fmt's text TOLD by the authors' own Lean function (tested against real Go, not proved from fmt's source: count such statements apart). THE CARD IS WHAT COUNTS. Prove the row's statement (the work); the ties are given (YtcagfamdoaoimaaGreatDoorTie.lean); close each card by the builder's one call (the guide's Derived/Test/ToyasCard.lean, 'card_holds'). Laid BY PROGRAM, IN A SANDBOX (cutbox-door.mjs). By AI agents, Wed Nov 11 2026. No macro, syntax, notation, axiom, sorry.
-/
import Derived.Test.YtcagfamdoaoimaaGreatDoorRows
import GoSem.ClaimSeven
namespace Go.Proofs.YtcagfamdoaoimaaGreatDoor
namespace Rows

/-- THE TIED CARD OF 'quillwortlaw13.ParseTexts'. -/
def parseTextsCard : Claim7 := { stood := { row := parseTextsRow, standIns := [], harness := (true, "1705362d337c1b68cc5b458ce92a615623f76b4715b811623780d490fd0eb08a"), looks := false }, kinds := [], alts := [], laidByText := true, laidKinds := [.data, .pinned], laidTests := true, laidLooks := .later }
def ParseTextsCardSaid : Prop := Claim7.holds Tryz.pinned (.plain (OpenSpec.ofChange parseTextsSpec)) parseTextsCard

/-- THE TIED CARD OF 'quillwortlaw24.PaintClasses'. -/
def paintClassesCard : Claim7 := { stood := { row := paintClassesRow, standIns := [], harness := (true, "1705362d337c1b68cc5b458ce92a615623f76b4715b811623780d490fd0eb08a"), looks := false }, kinds := [], alts := [], laidByText := true, laidKinds := [.data, .pinned], laidTests := true, laidLooks := .later }
def PaintClassesCardSaid : Prop := Claim7.holds Tryz.pinned (.plain (OpenSpec.ofChange paintClassesSpec)) paintClassesCard

/-- THE TIED CARD OF 'quillwortlaw29.MotionStops'. -/
def motionStopsCard : Claim7 := { stood := { row := motionStopsRow, standIns := [], harness := (true, "1705362d337c1b68cc5b458ce92a615623f76b4715b811623780d490fd0eb08a"), looks := false }, kinds := [], alts := [], laidByText := true, laidKinds := [.data, .pinned], laidTests := true, laidLooks := .later }
def MotionStopsCardSaid : Prop := Claim7.holds Tryz.pinned (.plain (OpenSpec.ofChange motionStopsSpec)) motionStopsCard

/-- THE TIED CARD OF 'quillwortlaw29.MotionMates'. -/
def motionMatesCard : Claim7 := { stood := { row := motionMatesRow, standIns := [], harness := (true, "1705362d337c1b68cc5b458ce92a615623f76b4715b811623780d490fd0eb08a"), looks := false }, kinds := [], alts := [], laidByText := true, laidKinds := [.data, .pinned], laidTests := true, laidLooks := .later }
def MotionMatesCardSaid : Prop := Claim7.holds Tryz.pinned (.plain (OpenSpec.ofChange motionMatesSpec)) motionMatesCard

/-- THE TIED CARD OF 'quillwortlaw29.MotionTwice'. -/
def motionTwiceCard : Claim7 := { stood := { row := motionTwiceRow, standIns := [], harness := (true, "1705362d337c1b68cc5b458ce92a615623f76b4715b811623780d490fd0eb08a"), looks := false }, kinds := [], alts := [], laidByText := true, laidKinds := [.data, .pinned], laidTests := true, laidLooks := .later }
def MotionTwiceCardSaid : Prop := Claim7.holds Tryz.pinned (.plain (OpenSpec.ofChange motionTwiceSpec)) motionTwiceCard

/-- THE TIED CARD OF 'quillwortlaw29.MotionThere'. -/
def motionThereCard : Claim7 := { stood := { row := motionThereRow, standIns := [], harness := (true, "1705362d337c1b68cc5b458ce92a615623f76b4715b811623780d490fd0eb08a"), looks := false }, kinds := [], alts := [], laidByText := true, laidKinds := [.data, .pinned], laidTests := true, laidLooks := .later }
def MotionThereCardSaid : Prop := Claim7.holds Tryz.pinned (.plain (OpenSpec.ofChange motionThereSpec)) motionThereCard

/-- THE TIED CARD OF 'quillwortlaw29.MotionMoves'. -/
def motionMovesCard : Claim7 := { stood := { row := motionMovesRow, standIns := [], harness := (true, "1705362d337c1b68cc5b458ce92a615623f76b4715b811623780d490fd0eb08a"), looks := false }, kinds := [], alts := [], laidByText := true, laidKinds := [.data, .pinned], laidTests := true, laidLooks := .later }
def MotionMovesCardSaid : Prop := Claim7.holds Tryz.pinned (.plain (OpenSpec.ofChange motionMovesSpec)) motionMovesCard

/-- THE SECOND FORM's CARD OF 'quillwortlaw13.ParseTexts'. -/
def parseTextsUptoCard : Claim7 := { stood := { row := parseTextsUptoRow, standIns := [], harness := (true, "1705362d337c1b68cc5b458ce92a615623f76b4715b811623780d490fd0eb08a"), looks := false }, kinds := [], alts := [], laidByText := true, laidKinds := [.data, .pinned], laidTests := true, laidLooks := .later }
def ParseTextsUptoCardSaid : Prop := Claim7.holds Tryz.pinned (.plain (OpenSpec.upto parseTextsSpec)) parseTextsUptoCard

/-- THE SECOND FORM's CARD OF 'quillwortlaw24.PaintClasses'. -/
def paintClassesUptoCard : Claim7 := { stood := { row := paintClassesUptoRow, standIns := [], harness := (true, "1705362d337c1b68cc5b458ce92a615623f76b4715b811623780d490fd0eb08a"), looks := false }, kinds := [], alts := [], laidByText := true, laidKinds := [.data, .pinned], laidTests := true, laidLooks := .later }
def PaintClassesUptoCardSaid : Prop := Claim7.holds Tryz.pinned (.plain (OpenSpec.upto paintClassesSpec)) paintClassesUptoCard

/-- THE SECOND FORM's CARD OF 'quillwortlaw29.MotionStops'. -/
def motionStopsUptoCard : Claim7 := { stood := { row := motionStopsUptoRow, standIns := [], harness := (true, "1705362d337c1b68cc5b458ce92a615623f76b4715b811623780d490fd0eb08a"), looks := false }, kinds := [], alts := [], laidByText := true, laidKinds := [.data, .pinned], laidTests := true, laidLooks := .later }
def MotionStopsUptoCardSaid : Prop := Claim7.holds Tryz.pinned (.plain (OpenSpec.upto motionStopsSpec)) motionStopsUptoCard

/-- THE SECOND FORM's CARD OF 'quillwortlaw29.MotionMates'. -/
def motionMatesUptoCard : Claim7 := { stood := { row := motionMatesUptoRow, standIns := [], harness := (true, "1705362d337c1b68cc5b458ce92a615623f76b4715b811623780d490fd0eb08a"), looks := false }, kinds := [], alts := [], laidByText := true, laidKinds := [.data, .pinned], laidTests := true, laidLooks := .later }
def MotionMatesUptoCardSaid : Prop := Claim7.holds Tryz.pinned (.plain (OpenSpec.upto motionMatesSpec)) motionMatesUptoCard

/-- THE SECOND FORM's CARD OF 'quillwortlaw29.MotionTwice'. -/
def motionTwiceUptoCard : Claim7 := { stood := { row := motionTwiceUptoRow, standIns := [], harness := (true, "1705362d337c1b68cc5b458ce92a615623f76b4715b811623780d490fd0eb08a"), looks := false }, kinds := [], alts := [], laidByText := true, laidKinds := [.data, .pinned], laidTests := true, laidLooks := .later }
def MotionTwiceUptoCardSaid : Prop := Claim7.holds Tryz.pinned (.plain (OpenSpec.upto motionTwiceSpec)) motionTwiceUptoCard

/-- THE SECOND FORM's CARD OF 'quillwortlaw29.MotionThere'. -/
def motionThereUptoCard : Claim7 := { stood := { row := motionThereUptoRow, standIns := [], harness := (true, "1705362d337c1b68cc5b458ce92a615623f76b4715b811623780d490fd0eb08a"), looks := false }, kinds := [], alts := [], laidByText := true, laidKinds := [.data, .pinned], laidTests := true, laidLooks := .later }
def MotionThereUptoCardSaid : Prop := Claim7.holds Tryz.pinned (.plain (OpenSpec.upto motionThereSpec)) motionThereUptoCard

/-- THE SECOND FORM's CARD OF 'quillwortlaw29.MotionMoves'. -/
def motionMovesUptoCard : Claim7 := { stood := { row := motionMovesUptoRow, standIns := [], harness := (true, "1705362d337c1b68cc5b458ce92a615623f76b4715b811623780d490fd0eb08a"), looks := false }, kinds := [], alts := [], laidByText := true, laidKinds := [.data, .pinned], laidTests := true, laidLooks := .later }
def MotionMovesUptoCardSaid : Prop := Claim7.holds Tryz.pinned (.plain (OpenSpec.upto motionMovesSpec)) motionMovesUptoCard
end Rows
end Go.Proofs.YtcagfamdoaoimaaGreatDoor
