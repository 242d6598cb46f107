/-
  NARROWER THAN 'FOR EVERY INPUT', by the rows' own cells (each row's printed sentence says how): ParseTexts: laid · PaintClasses: laid · MotionStops: laid · MotionMates: laid · MotionTwice: laid · MotionThere: laid · MotionMoves: laid.
  DERIVED. THE GIVEN ROWS OF THIS SEAT. 7 by the template 'for every input the law returns true; each argument reads behind the call as it read before'; 0 by the template 'total and deterministic' (their statements: YtcagfamdoaoimaaGreatDoorTotals.lean).
  GIVEN WITH THE SEED: the statements are not yours to turn. If you find one false, say at which input.
  Laid BY PROGRAM, IN A SANDBOX (cutbox-rows.mjs): the forced cells as the released guide's own fill.sh prints them over the translation e3444d678882f5aa… (all of the seat's roots in one cut). By AI agents, Wed Nov 11 2026. No macro, syntax, notation, axiom, sorry.
-/
import Derived.Test.YtcagfamdoaoimaaGreatDoorChecked
import GoSem.PinnedTables
import GoSem.Claim
import GoSem.ClaimJoined
import GoSem.ClaimMapViews
import Derived.JoinedTies
import Derived.KernelRfl
namespace Go.Proofs.YtcagfamdoaoimaaGreatDoor
/- THE CELL 'sum', in the pinned program and in every row, IS THE sha256 OF THE DUMP (.gsa) THAT YtcagfamdoaoimaaGreatDoorProg.lean LOADS. Nothing in Lean hashes anything: it is a label: what it is worth is what the hold of that sum in a sandbox is worth. -/
noncomputable def Tryz.pinned : Pinned := { name := "ytcagfamdoaoimaagreatdoor", sum := "e3444d678882f5aaf4cb98c511c40acda925f462c0b4154d35bc511b26154c1b", checked := Tryz.checked }
namespace Rows
def none {H : Type} : Left H := { results := [], args := [] }

/- WHAT THE LISTED PACKAGE-LEVEL VARIABLES READ AS WHEN THE CALL BEGINS. Each datum BY PROGRAM (the guide's laid-datum.mjs) off the statement by which the dump's own 'gosem.cut.vars' lays the variable. In a bare row this is a premise. The card (YtcagfamdoaoimaaGreatDoorCards.lean) ties it to the program's text. -/
def laid_unicode_utf8_acceptRanges {H : Type} : DataW H := .agg [.agg [.lit (.int .u8 128), .lit (.int .u8 191)], .agg [.lit (.int .u8 160), .lit (.int .u8 191)], .agg [.lit (.int .u8 128), .lit (.int .u8 159)], .agg [.lit (.int .u8 144), .lit (.int .u8 191)], .agg [.lit (.int .u8 128), .lit (.int .u8 143)], .agg [.lit (.int .u8 0), .lit (.int .u8 0)], .agg [.lit (.int .u8 0), .lit (.int .u8 0)], .agg [.lit (.int .u8 0), .lit (.int .u8 0)], .agg [.lit (.int .u8 0), .lit (.int .u8 0)], .agg [.lit (.int .u8 0), .lit (.int .u8 0)], .agg [.lit (.int .u8 0), .lit (.int .u8 0)], .agg [.lit (.int .u8 0), .lit (.int .u8 0)], .agg [.lit (.int .u8 0), .lit (.int .u8 0)], .agg [.lit (.int .u8 0), .lit (.int .u8 0)], .agg [.lit (.int .u8 0), .lit (.int .u8 0)], .agg [.lit (.int .u8 0), .lit (.int .u8 0)]]
/-- One of Go's own tables, pinned by name: the form's constant. -/
def laid_unicode_utf8_first : DataW Unit := Go.Pinned.utf8First

/-- 'quillwortlaw13.ParseTexts': WHATEVER THE INPUT: true; the input reads as it did. -/
def parseTextsSpec : ChangeSpec := { name := "parseTexts", fn := fun _ => fun
  | [d] => { results := [.lit (.bool true)], args := [d] }
  | _ => none }
def parseTextsRow : OpenClaim := { program := "ytcagfamdoaoimaagreatdoor", sum := "e3444d678882f5aaf4cb98c511c40acda925f462c0b4154d35bc511b26154c1b", func := "quillwort/quillwortlaw13.ParseTexts", spec := "parseTexts", inPlace := ["internal/bytealg.IndexByteString", "internal/bytealg.IndexString", "internal/abi.NoEscape"], unfollowed := true, recurses := true, named := ["unicode/utf8.first", "unicode/utf8.acceptRanges", "internal/bytealg.MaxLen"], apart := false, laid := [("unicode/utf8.acceptRanges", laid_unicode_utf8_acceptRanges), ("unicode/utf8.first", laid_unicode_utf8_first)] }
def ParseTextsSaid : Prop := parseTextsRow.holds Tryz.pinned (OpenSpec.ofChange parseTextsSpec)

/-- ITS FALSE NEIGHBOUR: 'it returns false'. Refute it at one input. -/
def parseTextsWrong : ChangeSpec := { name := "parseTexts", fn := fun _ => fun
  | [d] => { results := [.lit (.bool false)], args := [d] }
  | _ => none }
def ParseTextsWrongFalsely : Prop := parseTextsRow.holds Tryz.pinned (OpenSpec.ofChange parseTextsWrong)

/-- 'quillwortlaw24.PaintClasses': WHATEVER THE INPUT: true; the input reads as it did. -/
def paintClassesSpec : ChangeSpec := { name := "paintClasses", fn := fun _ => fun
  | [d] => { results := [.lit (.bool true)], args := [d] }
  | _ => none }
def paintClassesRow : OpenClaim := { program := "ytcagfamdoaoimaagreatdoor", sum := "e3444d678882f5aaf4cb98c511c40acda925f462c0b4154d35bc511b26154c1b", func := "quillwort/quillwortlaw24.PaintClasses", spec := "paintClasses", inPlace := ["internal/bytealg.IndexByteString", "internal/bytealg.IndexString", "internal/abi.NoEscape"], unfollowed := true, recurses := true, named := ["unicode/utf8.first", "unicode/utf8.acceptRanges", "internal/bytealg.MaxLen"], apart := false, laid := [("unicode/utf8.acceptRanges", laid_unicode_utf8_acceptRanges), ("unicode/utf8.first", laid_unicode_utf8_first)] }
def PaintClassesSaid : Prop := paintClassesRow.holds Tryz.pinned (OpenSpec.ofChange paintClassesSpec)

/-- ITS FALSE NEIGHBOUR: 'it returns false'. Refute it at one input. -/
def paintClassesWrong : ChangeSpec := { name := "paintClasses", fn := fun _ => fun
  | [d] => { results := [.lit (.bool false)], args := [d] }
  | _ => none }
def PaintClassesWrongFalsely : Prop := paintClassesRow.holds Tryz.pinned (OpenSpec.ofChange paintClassesWrong)

/-- 'quillwortlaw29.MotionStops': WHATEVER THE INPUT: true; the input reads as it did. -/
def motionStopsSpec : ChangeSpec := { name := "motionStops", fn := fun _ => fun
  | [d1, d2] => { results := [.lit (.bool true)], args := [d1, d2] }
  | _ => none }
def motionStopsRow : OpenClaim := { program := "ytcagfamdoaoimaagreatdoor", sum := "e3444d678882f5aaf4cb98c511c40acda925f462c0b4154d35bc511b26154c1b", func := "quillwort/quillwortlaw29.MotionStops", spec := "motionStops", inPlace := ["internal/bytealg.IndexByteString", "internal/bytealg.IndexString", "internal/abi.NoEscape"], unfollowed := true, recurses := true, named := ["unicode/utf8.first", "unicode/utf8.acceptRanges", "internal/bytealg.MaxLen"], apart := false, laid := [("unicode/utf8.acceptRanges", laid_unicode_utf8_acceptRanges), ("unicode/utf8.first", laid_unicode_utf8_first)] }
def MotionStopsSaid : Prop := motionStopsRow.holds Tryz.pinned (OpenSpec.ofChange motionStopsSpec)

/-- ITS FALSE NEIGHBOUR: 'it returns false'. Refute it at one input. -/
def motionStopsWrong : ChangeSpec := { name := "motionStops", fn := fun _ => fun
  | [d1, d2] => { results := [.lit (.bool false)], args := [d1, d2] }
  | _ => none }
def MotionStopsWrongFalsely : Prop := motionStopsRow.holds Tryz.pinned (OpenSpec.ofChange motionStopsWrong)

/-- 'quillwortlaw29.MotionMates': WHATEVER THE INPUT: true; the input reads as it did. -/
def motionMatesSpec : ChangeSpec := { name := "motionMates", fn := fun _ => fun
  | [d1, d2] => { results := [.lit (.bool true)], args := [d1, d2] }
  | _ => none }
def motionMatesRow : OpenClaim := { program := "ytcagfamdoaoimaagreatdoor", sum := "e3444d678882f5aaf4cb98c511c40acda925f462c0b4154d35bc511b26154c1b", func := "quillwort/quillwortlaw29.MotionMates", spec := "motionMates", inPlace := ["internal/bytealg.IndexByteString", "internal/bytealg.IndexString", "internal/abi.NoEscape"], unfollowed := true, recurses := true, named := ["unicode/utf8.first", "unicode/utf8.acceptRanges", "internal/bytealg.MaxLen"], apart := false, laid := [("unicode/utf8.acceptRanges", laid_unicode_utf8_acceptRanges), ("unicode/utf8.first", laid_unicode_utf8_first)] }
def MotionMatesSaid : Prop := motionMatesRow.holds Tryz.pinned (OpenSpec.ofChange motionMatesSpec)

/-- ITS FALSE NEIGHBOUR: 'it returns false'. Refute it at one input. -/
def motionMatesWrong : ChangeSpec := { name := "motionMates", fn := fun _ => fun
  | [d1, d2] => { results := [.lit (.bool false)], args := [d1, d2] }
  | _ => none }
def MotionMatesWrongFalsely : Prop := motionMatesRow.holds Tryz.pinned (OpenSpec.ofChange motionMatesWrong)

/-- 'quillwortlaw29.MotionTwice': WHATEVER THE INPUT: true; the input reads as it did. -/
def motionTwiceSpec : ChangeSpec := { name := "motionTwice", fn := fun _ => fun
  | [d] => { results := [.lit (.bool true)], args := [d] }
  | _ => none }
def motionTwiceRow : OpenClaim := { program := "ytcagfamdoaoimaagreatdoor", sum := "e3444d678882f5aaf4cb98c511c40acda925f462c0b4154d35bc511b26154c1b", func := "quillwort/quillwortlaw29.MotionTwice", spec := "motionTwice", inPlace := ["internal/bytealg.IndexByteString", "internal/bytealg.IndexString", "internal/abi.NoEscape"], unfollowed := true, recurses := true, named := ["unicode/utf8.first", "unicode/utf8.acceptRanges", "internal/bytealg.MaxLen"], apart := false, laid := [("unicode/utf8.acceptRanges", laid_unicode_utf8_acceptRanges), ("unicode/utf8.first", laid_unicode_utf8_first)] }
def MotionTwiceSaid : Prop := motionTwiceRow.holds Tryz.pinned (OpenSpec.ofChange motionTwiceSpec)

/-- ITS FALSE NEIGHBOUR: 'it returns false'. Refute it at one input. -/
def motionTwiceWrong : ChangeSpec := { name := "motionTwice", fn := fun _ => fun
  | [d] => { results := [.lit (.bool false)], args := [d] }
  | _ => none }
def MotionTwiceWrongFalsely : Prop := motionTwiceRow.holds Tryz.pinned (OpenSpec.ofChange motionTwiceWrong)

/-- 'quillwortlaw29.MotionThere': WHATEVER THE INPUT: true; the input reads as it did. -/
def motionThereSpec : ChangeSpec := { name := "motionThere", fn := fun _ => fun
  | [d1, d2] => { results := [.lit (.bool true)], args := [d1, d2] }
  | _ => none }
def motionThereRow : OpenClaim := { program := "ytcagfamdoaoimaagreatdoor", sum := "e3444d678882f5aaf4cb98c511c40acda925f462c0b4154d35bc511b26154c1b", func := "quillwort/quillwortlaw29.MotionThere", spec := "motionThere", inPlace := ["internal/bytealg.IndexByteString", "internal/bytealg.IndexString", "internal/abi.NoEscape"], unfollowed := true, recurses := true, named := ["unicode/utf8.first", "unicode/utf8.acceptRanges", "internal/bytealg.MaxLen"], apart := false, laid := [("unicode/utf8.acceptRanges", laid_unicode_utf8_acceptRanges), ("unicode/utf8.first", laid_unicode_utf8_first)] }
def MotionThereSaid : Prop := motionThereRow.holds Tryz.pinned (OpenSpec.ofChange motionThereSpec)

/-- ITS FALSE NEIGHBOUR: 'it returns false'. Refute it at one input. -/
def motionThereWrong : ChangeSpec := { name := "motionThere", fn := fun _ => fun
  | [d1, d2] => { results := [.lit (.bool false)], args := [d1, d2] }
  | _ => none }
def MotionThereWrongFalsely : Prop := motionThereRow.holds Tryz.pinned (OpenSpec.ofChange motionThereWrong)

/-- 'quillwortlaw29.MotionMoves': WHATEVER THE INPUT: true; the input reads as it did. -/
def motionMovesSpec : ChangeSpec := { name := "motionMoves", fn := fun _ => fun
  | [d1, d2, d3] => { results := [.lit (.bool true)], args := [d1, d2, d3] }
  | _ => none }
def motionMovesRow : OpenClaim := { program := "ytcagfamdoaoimaagreatdoor", sum := "e3444d678882f5aaf4cb98c511c40acda925f462c0b4154d35bc511b26154c1b", func := "quillwort/quillwortlaw29.MotionMoves", spec := "motionMoves", inPlace := ["internal/bytealg.IndexByteString", "internal/bytealg.IndexString", "internal/abi.NoEscape"], unfollowed := true, recurses := true, named := ["unicode/utf8.first", "unicode/utf8.acceptRanges", "internal/bytealg.MaxLen"], apart := false, laid := [("unicode/utf8.acceptRanges", laid_unicode_utf8_acceptRanges), ("unicode/utf8.first", laid_unicode_utf8_first)] }
def MotionMovesSaid : Prop := motionMovesRow.holds Tryz.pinned (OpenSpec.ofChange motionMovesSpec)

/-- ITS FALSE NEIGHBOUR: 'it returns false'. Refute it at one input. -/
def motionMovesWrong : ChangeSpec := { name := "motionMoves", fn := fun _ => fun
  | [d1, d2, d3] => { results := [.lit (.bool false)], args := [d1, d2, d3] }
  | _ => none }
def MotionMovesWrongFalsely : Prop := motionMovesRow.holds Tryz.pinned (OpenSpec.ofChange motionMovesWrong)

/- THE SECOND FORM. 'bulk': how many values and letters a reading holds, each counted each time it is reached (what is shared counts as often as it is met; a slice's spare places count too). A statement '..UptoSaid' is the law's where the arguments, and the package variables that the reading takes, are together of bulk at most 1048576: NARROWER than '..Said'. Prove '..Said' where nothing that the law and all that it calls make is longer than what came in: it says more and counts as full. Else prove '..UptoSaid'. A law counts once. -/
mutual
def uptoBulk {H : Type} : DataW H → Nat
  | .lit (.string bytes) => bytes.length + 1
  | .lit _ => 1
  | .nil => 1
  | .ptr d => uptoBulk d + 1
  | .slice elems spare => uptoBulkAll elems + uptoBulkAll spare + 1
  | .agg parts => uptoBulkAll parts + 1
  | .iface _ d => uptoBulk d + 1
  | .map entries => uptoBulkEntries entries + 1
  | .held _ => 1
def uptoBulkAll {H : Type} : List (DataW H) → Nat
  | [] => 0
  | d :: r => uptoBulk d + uptoBulkAll r
def uptoBulkEntries {H : Type} : List (Lit × DataW H) → Nat
  | [] => 0
  | x :: r => uptoBulkEntry x + uptoBulkEntries r
def uptoBulkEntry {H : Type} : Lit × DataW H → Nat
  | (.string bytes, d) => bytes.length + uptoBulk d + 1
  | (_, d) => uptoBulk d + 1
 end
def uptoSmall : (H : Type) → List (DataW H) → Bool := fun _ ds => decide (uptoBulkAll ds ≤ 1048576)
def OpenSpec.upto (s : _root_.Go.ChangeSpec) : _root_.Go.OpenSpec := { _root_.Go.OpenSpec.ofChange s with cond := some uptoSmall }

/-- 'quillwortlaw13.ParseTexts', WHERE WHAT IT READS IS OF BULK AT MOST 1048576: true; the input reads as it did. -/
def parseTextsUptoRow : OpenClaim := { program := "ytcagfamdoaoimaagreatdoor", sum := "e3444d678882f5aaf4cb98c511c40acda925f462c0b4154d35bc511b26154c1b", func := "quillwort/quillwortlaw13.ParseTexts", spec := "parseTexts", inPlace := ["internal/bytealg.IndexByteString", "internal/bytealg.IndexString", "internal/abi.NoEscape"], unfollowed := true, recurses := true, named := ["unicode/utf8.first", "unicode/utf8.acceptRanges", "internal/bytealg.MaxLen"], apart := false, laid := [("unicode/utf8.acceptRanges", laid_unicode_utf8_acceptRanges), ("unicode/utf8.first", laid_unicode_utf8_first)], narrowed := true }
def ParseTextsUptoSaid : Prop := parseTextsUptoRow.holds Tryz.pinned (OpenSpec.upto parseTextsSpec)

/-- 'quillwortlaw24.PaintClasses', WHERE WHAT IT READS IS OF BULK AT MOST 1048576: true; the input reads as it did. -/
def paintClassesUptoRow : OpenClaim := { program := "ytcagfamdoaoimaagreatdoor", sum := "e3444d678882f5aaf4cb98c511c40acda925f462c0b4154d35bc511b26154c1b", func := "quillwort/quillwortlaw24.PaintClasses", spec := "paintClasses", inPlace := ["internal/bytealg.IndexByteString", "internal/bytealg.IndexString", "internal/abi.NoEscape"], unfollowed := true, recurses := true, named := ["unicode/utf8.first", "unicode/utf8.acceptRanges", "internal/bytealg.MaxLen"], apart := false, laid := [("unicode/utf8.acceptRanges", laid_unicode_utf8_acceptRanges), ("unicode/utf8.first", laid_unicode_utf8_first)], narrowed := true }
def PaintClassesUptoSaid : Prop := paintClassesUptoRow.holds Tryz.pinned (OpenSpec.upto paintClassesSpec)

/-- 'quillwortlaw29.MotionStops', WHERE WHAT IT READS IS OF BULK AT MOST 1048576: true; the input reads as it did. -/
def motionStopsUptoRow : OpenClaim := { program := "ytcagfamdoaoimaagreatdoor", sum := "e3444d678882f5aaf4cb98c511c40acda925f462c0b4154d35bc511b26154c1b", func := "quillwort/quillwortlaw29.MotionStops", spec := "motionStops", inPlace := ["internal/bytealg.IndexByteString", "internal/bytealg.IndexString", "internal/abi.NoEscape"], unfollowed := true, recurses := true, named := ["unicode/utf8.first", "unicode/utf8.acceptRanges", "internal/bytealg.MaxLen"], apart := false, laid := [("unicode/utf8.acceptRanges", laid_unicode_utf8_acceptRanges), ("unicode/utf8.first", laid_unicode_utf8_first)], narrowed := true }
def MotionStopsUptoSaid : Prop := motionStopsUptoRow.holds Tryz.pinned (OpenSpec.upto motionStopsSpec)

/-- 'quillwortlaw29.MotionMates', WHERE WHAT IT READS IS OF BULK AT MOST 1048576: true; the input reads as it did. -/
def motionMatesUptoRow : OpenClaim := { program := "ytcagfamdoaoimaagreatdoor", sum := "e3444d678882f5aaf4cb98c511c40acda925f462c0b4154d35bc511b26154c1b", func := "quillwort/quillwortlaw29.MotionMates", spec := "motionMates", inPlace := ["internal/bytealg.IndexByteString", "internal/bytealg.IndexString", "internal/abi.NoEscape"], unfollowed := true, recurses := true, named := ["unicode/utf8.first", "unicode/utf8.acceptRanges", "internal/bytealg.MaxLen"], apart := false, laid := [("unicode/utf8.acceptRanges", laid_unicode_utf8_acceptRanges), ("unicode/utf8.first", laid_unicode_utf8_first)], narrowed := true }
def MotionMatesUptoSaid : Prop := motionMatesUptoRow.holds Tryz.pinned (OpenSpec.upto motionMatesSpec)

/-- 'quillwortlaw29.MotionTwice', WHERE WHAT IT READS IS OF BULK AT MOST 1048576: true; the input reads as it did. -/
def motionTwiceUptoRow : OpenClaim := { program := "ytcagfamdoaoimaagreatdoor", sum := "e3444d678882f5aaf4cb98c511c40acda925f462c0b4154d35bc511b26154c1b", func := "quillwort/quillwortlaw29.MotionTwice", spec := "motionTwice", inPlace := ["internal/bytealg.IndexByteString", "internal/bytealg.IndexString", "internal/abi.NoEscape"], unfollowed := true, recurses := true, named := ["unicode/utf8.first", "unicode/utf8.acceptRanges", "internal/bytealg.MaxLen"], apart := false, laid := [("unicode/utf8.acceptRanges", laid_unicode_utf8_acceptRanges), ("unicode/utf8.first", laid_unicode_utf8_first)], narrowed := true }
def MotionTwiceUptoSaid : Prop := motionTwiceUptoRow.holds Tryz.pinned (OpenSpec.upto motionTwiceSpec)

/-- 'quillwortlaw29.MotionThere', WHERE WHAT IT READS IS OF BULK AT MOST 1048576: true; the input reads as it did. -/
def motionThereUptoRow : OpenClaim := { program := "ytcagfamdoaoimaagreatdoor", sum := "e3444d678882f5aaf4cb98c511c40acda925f462c0b4154d35bc511b26154c1b", func := "quillwort/quillwortlaw29.MotionThere", spec := "motionThere", inPlace := ["internal/bytealg.IndexByteString", "internal/bytealg.IndexString", "internal/abi.NoEscape"], unfollowed := true, recurses := true, named := ["unicode/utf8.first", "unicode/utf8.acceptRanges", "internal/bytealg.MaxLen"], apart := false, laid := [("unicode/utf8.acceptRanges", laid_unicode_utf8_acceptRanges), ("unicode/utf8.first", laid_unicode_utf8_first)], narrowed := true }
def MotionThereUptoSaid : Prop := motionThereUptoRow.holds Tryz.pinned (OpenSpec.upto motionThereSpec)

/-- 'quillwortlaw29.MotionMoves', WHERE WHAT IT READS IS OF BULK AT MOST 1048576: true; the input reads as it did. -/
def motionMovesUptoRow : OpenClaim := { program := "ytcagfamdoaoimaagreatdoor", sum := "e3444d678882f5aaf4cb98c511c40acda925f462c0b4154d35bc511b26154c1b", func := "quillwort/quillwortlaw29.MotionMoves", spec := "motionMoves", inPlace := ["internal/bytealg.IndexByteString", "internal/bytealg.IndexString", "internal/abi.NoEscape"], unfollowed := true, recurses := true, named := ["unicode/utf8.first", "unicode/utf8.acceptRanges", "internal/bytealg.MaxLen"], apart := false, laid := [("unicode/utf8.acceptRanges", laid_unicode_utf8_acceptRanges), ("unicode/utf8.first", laid_unicode_utf8_first)], narrowed := true }
def MotionMovesUptoSaid : Prop := motionMovesUptoRow.holds Tryz.pinned (OpenSpec.upto motionMovesSpec)

end Rows
end Go.Proofs.YtcagfamdoaoimaaGreatDoor
