/-
  NARROWER THAN 'FOR EVERY INPUT', by the rows' own cells (each row's printed sentence says how): PaintWords: laid · PaintNames: laid · PaintClips: laid · PaintTiles: laid · MotionTwice: laid · MotionThere: laid.
  DERIVED. THE GIVEN ROWS OF THIS SEAT. 6 by the template 'for every input the law returns true; each argument reads behind the call as it read before'; 0 by the template 'total and deterministic' (their statements: YtgdifhhioahakaaGreatDoorTotals.lean).
  GIVEN WITH THE SEED: the statements are not yours to turn. If you find one false, say at which input.
  Laid BY PROGRAM, IN A SANDBOX (cutbox-rows.mjs): the forced cells as the released guide's own fill.sh prints them over the translation 48a4cbf3bc38dfe3… (all of the seat's roots in one cut). By AI agents, Wed Nov 11 2026. No macro, syntax, notation, axiom, sorry.
-/
import Derived.Test.YtgdifhhioahakaaGreatDoorChecked
import GoSem.PinnedTables
import GoSem.Claim
import GoSem.ClaimJoined
import GoSem.ClaimMapViews
import Derived.JoinedTies
import Derived.KernelRfl
namespace Go.Proofs.YtgdifhhioahakaaGreatDoor
/- THE CELL 'sum', in the pinned program and in every row, IS THE sha256 OF THE DUMP (.gsa) THAT YtgdifhhioahakaaGreatDoorProg.lean LOADS. Nothing in Lean hashes anything: it is a label: what it is worth is what the hold of that sum in a sandbox is worth. -/
noncomputable def Tryz.pinned : Pinned := { name := "ytgdifhhioahakaagreatdoor", sum := "48a4cbf3bc38dfe3ed7acbe97ccc58d34f69207908cf9056d40b88bd46b393f9", checked := Tryz.checked }
namespace Rows
def none {H : Type} : Left H := { results := [], args := [] }

/- WHAT THE LISTED PACKAGE-LEVEL VARIABLES READ AS WHEN THE CALL BEGINS. Each datum BY PROGRAM (the guide's laid-datum.mjs) off the statement by which the dump's own 'gosem.cut.vars' lays the variable. In a bare row this is a premise. The card (YtgdifhhioahakaaGreatDoorCards.lean) ties it to the program's text. -/
def laid_unicode_utf8_acceptRanges {H : Type} : DataW H := .agg [.agg [.lit (.int .u8 128), .lit (.int .u8 191)], .agg [.lit (.int .u8 160), .lit (.int .u8 191)], .agg [.lit (.int .u8 128), .lit (.int .u8 159)], .agg [.lit (.int .u8 144), .lit (.int .u8 191)], .agg [.lit (.int .u8 128), .lit (.int .u8 143)], .agg [.lit (.int .u8 0), .lit (.int .u8 0)], .agg [.lit (.int .u8 0), .lit (.int .u8 0)], .agg [.lit (.int .u8 0), .lit (.int .u8 0)], .agg [.lit (.int .u8 0), .lit (.int .u8 0)], .agg [.lit (.int .u8 0), .lit (.int .u8 0)], .agg [.lit (.int .u8 0), .lit (.int .u8 0)], .agg [.lit (.int .u8 0), .lit (.int .u8 0)], .agg [.lit (.int .u8 0), .lit (.int .u8 0)], .agg [.lit (.int .u8 0), .lit (.int .u8 0)], .agg [.lit (.int .u8 0), .lit (.int .u8 0)], .agg [.lit (.int .u8 0), .lit (.int .u8 0)]]
/-- One of Go's own tables, pinned by name: the form's constant. -/
def laid_unicode_utf8_first : DataW Unit := Go.Pinned.utf8First
def laid_quillwort_paint_names {H : Type} : DataW H := .agg [.lit (.string []), .lit (.string [98, 108, 97, 110, 107]), .lit (.string [99, 111, 109, 109, 101, 110, 116]), .lit (.string [111, 112, 101, 114, 97, 116, 111, 114]), .lit (.string [110, 117, 109, 98, 101, 114]), .lit (.string [114, 101, 115, 101, 114, 118, 101, 100]), .lit (.string [99, 111, 109, 109, 97, 110, 100]), .lit (.string [97, 114, 103, 117, 109, 101, 110, 116]), .lit (.string [110, 97, 109, 101]), .lit (.string [113, 117, 111, 116, 101, 100]), .lit (.string [112, 97, 114, 97, 109, 101, 116, 101, 114]), .lit (.string [115, 117, 98, 115, 116, 105, 116, 117, 116, 105, 111, 110]), .lit (.string [104, 101, 114, 101, 45, 100, 111, 99, 117, 109, 101, 110, 116]), .lit (.string [101, 114, 114, 111, 114])]

/-- 'quillwortlaw24.PaintWords': WHATEVER THE INPUT: true; the input reads as it did. -/
def paintWordsSpec : ChangeSpec := { name := "paintWords", fn := fun _ => fun
  | [d] => { results := [.lit (.bool true)], args := [d] }
  | _ => none }
def paintWordsRow : OpenClaim := { program := "ytgdifhhioahakaagreatdoor", sum := "48a4cbf3bc38dfe3ed7acbe97ccc58d34f69207908cf9056d40b88bd46b393f9", func := "quillwort/quillwortlaw24.PaintWords", spec := "paintWords", inPlace := ["internal/bytealg.IndexByteString", "internal/bytealg.IndexString", "internal/abi.NoEscape"], unfollowed := true, recurses := true, named := ["unicode/utf8.first", "unicode/utf8.acceptRanges", "internal/bytealg.MaxLen"], apart := false, laid := [("unicode/utf8.acceptRanges", laid_unicode_utf8_acceptRanges), ("unicode/utf8.first", laid_unicode_utf8_first)] }
def PaintWordsSaid : Prop := paintWordsRow.holds Tryz.pinned (OpenSpec.ofChange paintWordsSpec)

/-- ITS FALSE NEIGHBOUR: 'it returns false'. Refute it at one input. -/
def paintWordsWrong : ChangeSpec := { name := "paintWords", fn := fun _ => fun
  | [d] => { results := [.lit (.bool false)], args := [d] }
  | _ => none }
def PaintWordsWrongFalsely : Prop := paintWordsRow.holds Tryz.pinned (OpenSpec.ofChange paintWordsWrong)

/-- 'quillwortlaw24.PaintNames': WHATEVER THE INPUT: true; the input reads as it did. -/
def paintNamesSpec : ChangeSpec := { name := "paintNames", fn := fun _ => fun
  | [d1, d2] => { results := [.lit (.bool true)], args := [d1, d2] }
  | _ => none }
def paintNamesRow : OpenClaim := { program := "ytgdifhhioahakaagreatdoor", sum := "48a4cbf3bc38dfe3ed7acbe97ccc58d34f69207908cf9056d40b88bd46b393f9", func := "quillwort/quillwortlaw24.PaintNames", spec := "paintNames", inPlace := ["internal/bytealg.IndexByteString", "internal/bytealg.IndexString", "internal/abi.NoEscape"], unfollowed := true, recurses := true, named := ["unicode/utf8.first", "unicode/utf8.acceptRanges", "quillwort/paint.names", "internal/bytealg.MaxLen"], apart := false, laid := [("unicode/utf8.acceptRanges", laid_unicode_utf8_acceptRanges), ("quillwort/paint.names", laid_quillwort_paint_names), ("unicode/utf8.first", laid_unicode_utf8_first)] }
def PaintNamesSaid : Prop := paintNamesRow.holds Tryz.pinned (OpenSpec.ofChange paintNamesSpec)

/-- ITS FALSE NEIGHBOUR: 'it returns false'. Refute it at one input. -/
def paintNamesWrong : ChangeSpec := { name := "paintNames", fn := fun _ => fun
  | [d1, d2] => { results := [.lit (.bool false)], args := [d1, d2] }
  | _ => none }
def PaintNamesWrongFalsely : Prop := paintNamesRow.holds Tryz.pinned (OpenSpec.ofChange paintNamesWrong)

/-- 'quillwortlaw24.PaintClips': WHATEVER THE INPUT: true; the input reads as it did. -/
def paintClipsSpec : ChangeSpec := { name := "paintClips", fn := fun _ => fun
  | [d1, d2, d3] => { results := [.lit (.bool true)], args := [d1, d2, d3] }
  | _ => none }
def paintClipsRow : OpenClaim := { program := "ytgdifhhioahakaagreatdoor", sum := "48a4cbf3bc38dfe3ed7acbe97ccc58d34f69207908cf9056d40b88bd46b393f9", func := "quillwort/quillwortlaw24.PaintClips", spec := "paintClips", inPlace := ["internal/bytealg.IndexByteString", "internal/bytealg.IndexString", "internal/abi.NoEscape"], unfollowed := true, recurses := true, named := ["unicode/utf8.first", "unicode/utf8.acceptRanges", "internal/bytealg.MaxLen"], apart := false, laid := [("unicode/utf8.acceptRanges", laid_unicode_utf8_acceptRanges), ("unicode/utf8.first", laid_unicode_utf8_first)] }
def PaintClipsSaid : Prop := paintClipsRow.holds Tryz.pinned (OpenSpec.ofChange paintClipsSpec)

/-- ITS FALSE NEIGHBOUR: 'it returns false'. Refute it at one input. -/
def paintClipsWrong : ChangeSpec := { name := "paintClips", fn := fun _ => fun
  | [d1, d2, d3] => { results := [.lit (.bool false)], args := [d1, d2, d3] }
  | _ => none }
def PaintClipsWrongFalsely : Prop := paintClipsRow.holds Tryz.pinned (OpenSpec.ofChange paintClipsWrong)

/-- 'quillwortlaw24.PaintTiles': WHATEVER THE INPUT: true; the input reads as it did. -/
def paintTilesSpec : ChangeSpec := { name := "paintTiles", fn := fun _ => fun
  | [d] => { results := [.lit (.bool true)], args := [d] }
  | _ => none }
def paintTilesRow : OpenClaim := { program := "ytgdifhhioahakaagreatdoor", sum := "48a4cbf3bc38dfe3ed7acbe97ccc58d34f69207908cf9056d40b88bd46b393f9", func := "quillwort/quillwortlaw24.PaintTiles", spec := "paintTiles", inPlace := ["internal/bytealg.IndexByteString", "internal/bytealg.IndexString", "internal/abi.NoEscape"], unfollowed := true, recurses := true, named := ["unicode/utf8.first", "unicode/utf8.acceptRanges", "internal/bytealg.MaxLen"], apart := false, laid := [("unicode/utf8.acceptRanges", laid_unicode_utf8_acceptRanges), ("unicode/utf8.first", laid_unicode_utf8_first)] }
def PaintTilesSaid : Prop := paintTilesRow.holds Tryz.pinned (OpenSpec.ofChange paintTilesSpec)

/-- ITS FALSE NEIGHBOUR: 'it returns false'. Refute it at one input. -/
def paintTilesWrong : ChangeSpec := { name := "paintTiles", fn := fun _ => fun
  | [d] => { results := [.lit (.bool false)], args := [d] }
  | _ => none }
def PaintTilesWrongFalsely : Prop := paintTilesRow.holds Tryz.pinned (OpenSpec.ofChange paintTilesWrong)

/-- 'quillwortlaw29.MotionTwice': WHATEVER THE INPUT: true; the input reads as it did. -/
def motionTwiceSpec : ChangeSpec := { name := "motionTwice", fn := fun _ => fun
  | [d] => { results := [.lit (.bool true)], args := [d] }
  | _ => none }
def motionTwiceRow : OpenClaim := { program := "ytgdifhhioahakaagreatdoor", sum := "48a4cbf3bc38dfe3ed7acbe97ccc58d34f69207908cf9056d40b88bd46b393f9", func := "quillwort/quillwortlaw29.MotionTwice", spec := "motionTwice", inPlace := ["internal/bytealg.IndexByteString", "internal/bytealg.IndexString", "internal/abi.NoEscape"], unfollowed := true, recurses := true, named := ["unicode/utf8.first", "unicode/utf8.acceptRanges", "internal/bytealg.MaxLen"], apart := false, laid := [("unicode/utf8.acceptRanges", laid_unicode_utf8_acceptRanges), ("unicode/utf8.first", laid_unicode_utf8_first)] }
def MotionTwiceSaid : Prop := motionTwiceRow.holds Tryz.pinned (OpenSpec.ofChange motionTwiceSpec)

/-- ITS FALSE NEIGHBOUR: 'it returns false'. Refute it at one input. -/
def motionTwiceWrong : ChangeSpec := { name := "motionTwice", fn := fun _ => fun
  | [d] => { results := [.lit (.bool false)], args := [d] }
  | _ => none }
def MotionTwiceWrongFalsely : Prop := motionTwiceRow.holds Tryz.pinned (OpenSpec.ofChange motionTwiceWrong)

/-- 'quillwortlaw29.MotionThere': WHATEVER THE INPUT: true; the input reads as it did. -/
def motionThereSpec : ChangeSpec := { name := "motionThere", fn := fun _ => fun
  | [d1, d2] => { results := [.lit (.bool true)], args := [d1, d2] }
  | _ => none }
def motionThereRow : OpenClaim := { program := "ytgdifhhioahakaagreatdoor", sum := "48a4cbf3bc38dfe3ed7acbe97ccc58d34f69207908cf9056d40b88bd46b393f9", func := "quillwort/quillwortlaw29.MotionThere", spec := "motionThere", inPlace := ["internal/bytealg.IndexByteString", "internal/bytealg.IndexString", "internal/abi.NoEscape"], unfollowed := true, recurses := true, named := ["unicode/utf8.first", "unicode/utf8.acceptRanges", "internal/bytealg.MaxLen"], apart := false, laid := [("unicode/utf8.acceptRanges", laid_unicode_utf8_acceptRanges), ("unicode/utf8.first", laid_unicode_utf8_first)] }
def MotionThereSaid : Prop := motionThereRow.holds Tryz.pinned (OpenSpec.ofChange motionThereSpec)

/-- ITS FALSE NEIGHBOUR: 'it returns false'. Refute it at one input. -/
def motionThereWrong : ChangeSpec := { name := "motionThere", fn := fun _ => fun
  | [d1, d2] => { results := [.lit (.bool false)], args := [d1, d2] }
  | _ => none }
def MotionThereWrongFalsely : Prop := motionThereRow.holds Tryz.pinned (OpenSpec.ofChange motionThereWrong)

/- THE SECOND FORM. 'bulk': how many values and letters a reading holds, each counted each time it is reached (what is shared counts as often as it is met; a slice's spare places count too). A statement '..UptoSaid' is the law's where the arguments, and the package variables that the reading takes, are together of bulk at most 1048576: NARROWER than '..Said'. Prove '..Said' where nothing that the law and all that it calls make is longer than what came in: it says more and counts as full. Else prove '..UptoSaid'. A law counts once. -/
mutual
def uptoBulk {H : Type} : DataW H → Nat
  | .lit (.string bytes) => bytes.length + 1
  | .lit _ => 1
  | .nil => 1
  | .ptr d => uptoBulk d + 1
  | .slice elems spare => uptoBulkAll elems + uptoBulkAll spare + 1
  | .agg parts => uptoBulkAll parts + 1
  | .iface _ d => uptoBulk d + 1
  | .map entries => uptoBulkEntries entries + 1
  | .held _ => 1
def uptoBulkAll {H : Type} : List (DataW H) → Nat
  | [] => 0
  | d :: r => uptoBulk d + uptoBulkAll r
def uptoBulkEntries {H : Type} : List (Lit × DataW H) → Nat
  | [] => 0
  | x :: r => uptoBulkEntry x + uptoBulkEntries r
def uptoBulkEntry {H : Type} : Lit × DataW H → Nat
  | (.string bytes, d) => bytes.length + uptoBulk d + 1
  | (_, d) => uptoBulk d + 1
 end
def uptoSmall : (H : Type) → List (DataW H) → Bool := fun _ ds => decide (uptoBulkAll ds ≤ 1048576)
def OpenSpec.upto (s : _root_.Go.ChangeSpec) : _root_.Go.OpenSpec := { _root_.Go.OpenSpec.ofChange s with cond := some uptoSmall }

/-- 'quillwortlaw24.PaintWords', WHERE WHAT IT READS IS OF BULK AT MOST 1048576: true; the input reads as it did. -/
def paintWordsUptoRow : OpenClaim := { program := "ytgdifhhioahakaagreatdoor", sum := "48a4cbf3bc38dfe3ed7acbe97ccc58d34f69207908cf9056d40b88bd46b393f9", func := "quillwort/quillwortlaw24.PaintWords", spec := "paintWords", inPlace := ["internal/bytealg.IndexByteString", "internal/bytealg.IndexString", "internal/abi.NoEscape"], unfollowed := true, recurses := true, named := ["unicode/utf8.first", "unicode/utf8.acceptRanges", "internal/bytealg.MaxLen"], apart := false, laid := [("unicode/utf8.acceptRanges", laid_unicode_utf8_acceptRanges), ("unicode/utf8.first", laid_unicode_utf8_first)], narrowed := true }
def PaintWordsUptoSaid : Prop := paintWordsUptoRow.holds Tryz.pinned (OpenSpec.upto paintWordsSpec)

/-- 'quillwortlaw24.PaintNames', WHERE WHAT IT READS IS OF BULK AT MOST 1048576: true; the input reads as it did. -/
def paintNamesUptoRow : OpenClaim := { program := "ytgdifhhioahakaagreatdoor", sum := "48a4cbf3bc38dfe3ed7acbe97ccc58d34f69207908cf9056d40b88bd46b393f9", func := "quillwort/quillwortlaw24.PaintNames", spec := "paintNames", inPlace := ["internal/bytealg.IndexByteString", "internal/bytealg.IndexString", "internal/abi.NoEscape"], unfollowed := true, recurses := true, named := ["unicode/utf8.first", "unicode/utf8.acceptRanges", "quillwort/paint.names", "internal/bytealg.MaxLen"], apart := false, laid := [("unicode/utf8.acceptRanges", laid_unicode_utf8_acceptRanges), ("quillwort/paint.names", laid_quillwort_paint_names), ("unicode/utf8.first", laid_unicode_utf8_first)], narrowed := true }
def PaintNamesUptoSaid : Prop := paintNamesUptoRow.holds Tryz.pinned (OpenSpec.upto paintNamesSpec)

/-- 'quillwortlaw24.PaintClips', WHERE WHAT IT READS IS OF BULK AT MOST 1048576: true; the input reads as it did. -/
def paintClipsUptoRow : OpenClaim := { program := "ytgdifhhioahakaagreatdoor", sum := "48a4cbf3bc38dfe3ed7acbe97ccc58d34f69207908cf9056d40b88bd46b393f9", func := "quillwort/quillwortlaw24.PaintClips", spec := "paintClips", inPlace := ["internal/bytealg.IndexByteString", "internal/bytealg.IndexString", "internal/abi.NoEscape"], unfollowed := true, recurses := true, named := ["unicode/utf8.first", "unicode/utf8.acceptRanges", "internal/bytealg.MaxLen"], apart := false, laid := [("unicode/utf8.acceptRanges", laid_unicode_utf8_acceptRanges), ("unicode/utf8.first", laid_unicode_utf8_first)], narrowed := true }
def PaintClipsUptoSaid : Prop := paintClipsUptoRow.holds Tryz.pinned (OpenSpec.upto paintClipsSpec)

/-- 'quillwortlaw24.PaintTiles', WHERE WHAT IT READS IS OF BULK AT MOST 1048576: true; the input reads as it did. -/
def paintTilesUptoRow : OpenClaim := { program := "ytgdifhhioahakaagreatdoor", sum := "48a4cbf3bc38dfe3ed7acbe97ccc58d34f69207908cf9056d40b88bd46b393f9", func := "quillwort/quillwortlaw24.PaintTiles", spec := "paintTiles", inPlace := ["internal/bytealg.IndexByteString", "internal/bytealg.IndexString", "internal/abi.NoEscape"], unfollowed := true, recurses := true, named := ["unicode/utf8.first", "unicode/utf8.acceptRanges", "internal/bytealg.MaxLen"], apart := false, laid := [("unicode/utf8.acceptRanges", laid_unicode_utf8_acceptRanges), ("unicode/utf8.first", laid_unicode_utf8_first)], narrowed := true }
def PaintTilesUptoSaid : Prop := paintTilesUptoRow.holds Tryz.pinned (OpenSpec.upto paintTilesSpec)

/-- 'quillwortlaw29.MotionTwice', WHERE WHAT IT READS IS OF BULK AT MOST 1048576: true; the input reads as it did. -/
def motionTwiceUptoRow : OpenClaim := { program := "ytgdifhhioahakaagreatdoor", sum := "48a4cbf3bc38dfe3ed7acbe97ccc58d34f69207908cf9056d40b88bd46b393f9", func := "quillwort/quillwortlaw29.MotionTwice", spec := "motionTwice", inPlace := ["internal/bytealg.IndexByteString", "internal/bytealg.IndexString", "internal/abi.NoEscape"], unfollowed := true, recurses := true, named := ["unicode/utf8.first", "unicode/utf8.acceptRanges", "internal/bytealg.MaxLen"], apart := false, laid := [("unicode/utf8.acceptRanges", laid_unicode_utf8_acceptRanges), ("unicode/utf8.first", laid_unicode_utf8_first)], narrowed := true }
def MotionTwiceUptoSaid : Prop := motionTwiceUptoRow.holds Tryz.pinned (OpenSpec.upto motionTwiceSpec)

/-- 'quillwortlaw29.MotionThere', WHERE WHAT IT READS IS OF BULK AT MOST 1048576: true; the input reads as it did. -/
def motionThereUptoRow : OpenClaim := { program := "ytgdifhhioahakaagreatdoor", sum := "48a4cbf3bc38dfe3ed7acbe97ccc58d34f69207908cf9056d40b88bd46b393f9", func := "quillwort/quillwortlaw29.MotionThere", spec := "motionThere", inPlace := ["internal/bytealg.IndexByteString", "internal/bytealg.IndexString", "internal/abi.NoEscape"], unfollowed := true, recurses := true, named := ["unicode/utf8.first", "unicode/utf8.acceptRanges", "internal/bytealg.MaxLen"], apart := false, laid := [("unicode/utf8.acceptRanges", laid_unicode_utf8_acceptRanges), ("unicode/utf8.first", laid_unicode_utf8_first)], narrowed := true }
def MotionThereUptoSaid : Prop := motionThereUptoRow.holds Tryz.pinned (OpenSpec.upto motionThereSpec)

end Rows
end Go.Proofs.YtgdifhhioahakaaGreatDoor
