/-
  NARROWER THAN 'FOR EVERY INPUT', by the rows' own cells (each row's printed sentence says how): TokenAhead: laid · TokenHere: laid · TokenTile: laid · TokenSame: laid · TokenRaw: laid.
  DERIVED. THE GIVEN ROWS OF THIS SEAT. 5 by the template 'for every input the law returns true; each argument reads behind the call as it read before'; 0 by the template 'total and deterministic' (their statements: YtihmjejcikpibaaDoorTotals.lean).
  GIVEN WITH THE SEED: the statements are not yours to turn. If you find one false, say at which input.
  Laid BY PROGRAM, IN A SANDBOX (cutbox-rows.mjs): the forced cells as the released guide's own fill.sh prints them over the translation ffd2839bdd701086… (all of the seat's roots in one cut). By AI agents, Wed Nov 11 2026. No macro, syntax, notation, axiom, sorry.
-/
import Derived.Test.YtihmjejcikpibaaDoorChecked
import GoSem.PinnedTables
import GoSem.Claim
import GoSem.ClaimJoined
import GoSem.ClaimMapViews
import Derived.JoinedTies
import Derived.KernelRfl
namespace Go.Proofs.YtihmjejcikpibaaDoor
/- THE CELL 'sum', in the pinned program and in every row, IS THE sha256 OF THE DUMP (.gsa) THAT YtihmjejcikpibaaDoorProg.lean LOADS. Nothing in Lean hashes anything: it is a label: what it is worth is what the hold of that sum in a sandbox is worth. -/
noncomputable def Tryd.pinned : Pinned := { name := "ytihmjejcikpibaadoor", sum := "ffd2839bdd701086c2c1215b232e09a608307024911fe8f8ecd93f037993c24a", checked := Tryd.checked }
namespace Rows
def none {H : Type} : Left H := { results := [], args := [] }

/- WHAT THE LISTED PACKAGE-LEVEL VARIABLES READ AS WHEN THE CALL BEGINS. Each datum BY PROGRAM (the guide's laid-datum.mjs) off the statement by which the dump's own 'gosem.cut.vars' lays the variable. In a bare row this is a premise. The card (YtihmjejcikpibaaDoorCards.lean) ties it to the program's text. -/
def laid_unicode_utf8_acceptRanges {H : Type} : DataW H := .agg [.agg [.lit (.int .u8 128), .lit (.int .u8 191)], .agg [.lit (.int .u8 160), .lit (.int .u8 191)], .agg [.lit (.int .u8 128), .lit (.int .u8 159)], .agg [.lit (.int .u8 144), .lit (.int .u8 191)], .agg [.lit (.int .u8 128), .lit (.int .u8 143)], .agg [.lit (.int .u8 0), .lit (.int .u8 0)], .agg [.lit (.int .u8 0), .lit (.int .u8 0)], .agg [.lit (.int .u8 0), .lit (.int .u8 0)], .agg [.lit (.int .u8 0), .lit (.int .u8 0)], .agg [.lit (.int .u8 0), .lit (.int .u8 0)], .agg [.lit (.int .u8 0), .lit (.int .u8 0)], .agg [.lit (.int .u8 0), .lit (.int .u8 0)], .agg [.lit (.int .u8 0), .lit (.int .u8 0)], .agg [.lit (.int .u8 0), .lit (.int .u8 0)], .agg [.lit (.int .u8 0), .lit (.int .u8 0)], .agg [.lit (.int .u8 0), .lit (.int .u8 0)]]
/-- One of Go's own tables, pinned by name: the form's constant. -/
def laid_unicode_utf8_first : DataW Unit := Go.Pinned.utf8First

/-- 'quillwortlaw09.TokenAhead': WHATEVER THE INPUT: true; the input reads as it did. -/
def tokenAheadSpec : ChangeSpec := { name := "tokenAhead", fn := fun _ => fun
  | [d1, d2, d3] => { results := [.lit (.bool true)], args := [d1, d2, d3] }
  | _ => none }
def tokenAheadRow : OpenClaim := { program := "ytihmjejcikpibaadoor", sum := "ffd2839bdd701086c2c1215b232e09a608307024911fe8f8ecd93f037993c24a", func := "quillwort/quillwortlaw09.TokenAhead", spec := "tokenAhead", inPlace := ["internal/bytealg.IndexByteString", "internal/bytealg.IndexString", "internal/abi.NoEscape"], unfollowed := true, recurses := true, named := ["unicode/utf8.first", "unicode/utf8.acceptRanges", "internal/bytealg.MaxLen"], apart := false, laid := [("unicode/utf8.acceptRanges", laid_unicode_utf8_acceptRanges), ("unicode/utf8.first", laid_unicode_utf8_first)] }
def TokenAheadSaid : Prop := tokenAheadRow.holds Tryd.pinned (OpenSpec.ofChange tokenAheadSpec)

/-- ITS FALSE NEIGHBOUR: 'it returns false'. Refute it at one input. -/
def tokenAheadWrong : ChangeSpec := { name := "tokenAhead", fn := fun _ => fun
  | [d1, d2, d3] => { results := [.lit (.bool false)], args := [d1, d2, d3] }
  | _ => none }
def TokenAheadWrongFalsely : Prop := tokenAheadRow.holds Tryd.pinned (OpenSpec.ofChange tokenAheadWrong)

/-- 'quillwortlaw09.TokenHere': WHATEVER THE INPUT: true; the input reads as it did. -/
def tokenHereSpec : ChangeSpec := { name := "tokenHere", fn := fun _ => fun
  | [d1, d2, d3, d4] => { results := [.lit (.bool true)], args := [d1, d2, d3, d4] }
  | _ => none }
def tokenHereRow : OpenClaim := { program := "ytihmjejcikpibaadoor", sum := "ffd2839bdd701086c2c1215b232e09a608307024911fe8f8ecd93f037993c24a", func := "quillwort/quillwortlaw09.TokenHere", spec := "tokenHere", inPlace := ["internal/bytealg.IndexByteString", "internal/bytealg.IndexString", "internal/abi.NoEscape"], unfollowed := true, recurses := true, named := ["unicode/utf8.first", "unicode/utf8.acceptRanges", "internal/bytealg.MaxLen"], apart := false, laid := [("unicode/utf8.acceptRanges", laid_unicode_utf8_acceptRanges), ("unicode/utf8.first", laid_unicode_utf8_first)] }
def TokenHereSaid : Prop := tokenHereRow.holds Tryd.pinned (OpenSpec.ofChange tokenHereSpec)

/-- ITS FALSE NEIGHBOUR: 'it returns false'. Refute it at one input. -/
def tokenHereWrong : ChangeSpec := { name := "tokenHere", fn := fun _ => fun
  | [d1, d2, d3, d4] => { results := [.lit (.bool false)], args := [d1, d2, d3, d4] }
  | _ => none }
def TokenHereWrongFalsely : Prop := tokenHereRow.holds Tryd.pinned (OpenSpec.ofChange tokenHereWrong)

/-- 'quillwortlaw09.TokenTile': WHATEVER THE INPUT: true; the input reads as it did. -/
def tokenTileSpec : ChangeSpec := { name := "tokenTile", fn := fun _ => fun
  | [d] => { results := [.lit (.bool true)], args := [d] }
  | _ => none }
def tokenTileRow : OpenClaim := { program := "ytihmjejcikpibaadoor", sum := "ffd2839bdd701086c2c1215b232e09a608307024911fe8f8ecd93f037993c24a", func := "quillwort/quillwortlaw09.TokenTile", spec := "tokenTile", inPlace := ["internal/bytealg.IndexByteString", "internal/bytealg.IndexString", "internal/abi.NoEscape"], unfollowed := true, recurses := true, named := ["unicode/utf8.first", "unicode/utf8.acceptRanges", "internal/bytealg.MaxLen"], apart := false, laid := [("unicode/utf8.acceptRanges", laid_unicode_utf8_acceptRanges), ("unicode/utf8.first", laid_unicode_utf8_first)] }
def TokenTileSaid : Prop := tokenTileRow.holds Tryd.pinned (OpenSpec.ofChange tokenTileSpec)

/-- ITS FALSE NEIGHBOUR: 'it returns false'. Refute it at one input. -/
def tokenTileWrong : ChangeSpec := { name := "tokenTile", fn := fun _ => fun
  | [d] => { results := [.lit (.bool false)], args := [d] }
  | _ => none }
def TokenTileWrongFalsely : Prop := tokenTileRow.holds Tryd.pinned (OpenSpec.ofChange tokenTileWrong)

/-- 'quillwortlaw09.TokenSame': WHATEVER THE INPUT: true; the input reads as it did. -/
def tokenSameSpec : ChangeSpec := { name := "tokenSame", fn := fun _ => fun
  | [d1, d2] => { results := [.lit (.bool true)], args := [d1, d2] }
  | _ => none }
def tokenSameRow : OpenClaim := { program := "ytihmjejcikpibaadoor", sum := "ffd2839bdd701086c2c1215b232e09a608307024911fe8f8ecd93f037993c24a", func := "quillwort/quillwortlaw09.TokenSame", spec := "tokenSame", inPlace := ["internal/bytealg.IndexByteString", "internal/bytealg.IndexString", "internal/abi.NoEscape"], unfollowed := true, recurses := true, named := ["unicode/utf8.first", "unicode/utf8.acceptRanges", "internal/bytealg.MaxLen"], apart := false, laid := [("unicode/utf8.acceptRanges", laid_unicode_utf8_acceptRanges), ("unicode/utf8.first", laid_unicode_utf8_first)] }
def TokenSameSaid : Prop := tokenSameRow.holds Tryd.pinned (OpenSpec.ofChange tokenSameSpec)

/-- ITS FALSE NEIGHBOUR: 'it returns false'. Refute it at one input. -/
def tokenSameWrong : ChangeSpec := { name := "tokenSame", fn := fun _ => fun
  | [d1, d2] => { results := [.lit (.bool false)], args := [d1, d2] }
  | _ => none }
def TokenSameWrongFalsely : Prop := tokenSameRow.holds Tryd.pinned (OpenSpec.ofChange tokenSameWrong)

/-- 'quillwortlaw09.TokenRaw': WHATEVER THE INPUT: true; the input reads as it did. -/
def tokenRawSpec : ChangeSpec := { name := "tokenRaw", fn := fun _ => fun
  | [d1, d2, d3] => { results := [.lit (.bool true)], args := [d1, d2, d3] }
  | _ => none }
def tokenRawRow : OpenClaim := { program := "ytihmjejcikpibaadoor", sum := "ffd2839bdd701086c2c1215b232e09a608307024911fe8f8ecd93f037993c24a", func := "quillwort/quillwortlaw09.TokenRaw", spec := "tokenRaw", inPlace := ["internal/bytealg.IndexByteString", "internal/bytealg.IndexString", "internal/abi.NoEscape"], unfollowed := true, recurses := true, named := ["unicode/utf8.first", "unicode/utf8.acceptRanges", "internal/bytealg.MaxLen"], apart := false, laid := [("unicode/utf8.acceptRanges", laid_unicode_utf8_acceptRanges), ("unicode/utf8.first", laid_unicode_utf8_first)] }
def TokenRawSaid : Prop := tokenRawRow.holds Tryd.pinned (OpenSpec.ofChange tokenRawSpec)

/-- ITS FALSE NEIGHBOUR: 'it returns false'. Refute it at one input. -/
def tokenRawWrong : ChangeSpec := { name := "tokenRaw", fn := fun _ => fun
  | [d1, d2, d3] => { results := [.lit (.bool false)], args := [d1, d2, d3] }
  | _ => none }
def TokenRawWrongFalsely : Prop := tokenRawRow.holds Tryd.pinned (OpenSpec.ofChange tokenRawWrong)

/- THE SECOND FORM. 'bulk': how many values and letters a reading holds, each counted each time it is reached (what is shared counts as often as it is met; a slice's spare places count too). A statement '..UptoSaid' is the law's where the arguments, and the package variables that the reading takes, are together of bulk at most 1048576: NARROWER than '..Said'. Prove '..Said' where nothing that the law and all that it calls make is longer than what came in: it says more and counts as full. Else prove '..UptoSaid'. A law counts once. -/
mutual
def uptoBulk {H : Type} : DataW H → Nat
  | .lit (.string bytes) => bytes.length + 1
  | .lit _ => 1
  | .nil => 1
  | .ptr d => uptoBulk d + 1
  | .slice elems spare => uptoBulkAll elems + uptoBulkAll spare + 1
  | .agg parts => uptoBulkAll parts + 1
  | .iface _ d => uptoBulk d + 1
  | .map entries => uptoBulkEntries entries + 1
  | .held _ => 1
def uptoBulkAll {H : Type} : List (DataW H) → Nat
  | [] => 0
  | d :: r => uptoBulk d + uptoBulkAll r
def uptoBulkEntries {H : Type} : List (Lit × DataW H) → Nat
  | [] => 0
  | x :: r => uptoBulkEntry x + uptoBulkEntries r
def uptoBulkEntry {H : Type} : Lit × DataW H → Nat
  | (.string bytes, d) => bytes.length + uptoBulk d + 1
  | (_, d) => uptoBulk d + 1
 end
def uptoSmall : (H : Type) → List (DataW H) → Bool := fun _ ds => decide (uptoBulkAll ds ≤ 1048576)
def OpenSpec.upto (s : _root_.Go.ChangeSpec) : _root_.Go.OpenSpec := { _root_.Go.OpenSpec.ofChange s with cond := some uptoSmall }

/-- 'quillwortlaw09.TokenAhead', WHERE WHAT IT READS IS OF BULK AT MOST 1048576: true; the input reads as it did. -/
def tokenAheadUptoRow : OpenClaim := { program := "ytihmjejcikpibaadoor", sum := "ffd2839bdd701086c2c1215b232e09a608307024911fe8f8ecd93f037993c24a", func := "quillwort/quillwortlaw09.TokenAhead", spec := "tokenAhead", inPlace := ["internal/bytealg.IndexByteString", "internal/bytealg.IndexString", "internal/abi.NoEscape"], unfollowed := true, recurses := true, named := ["unicode/utf8.first", "unicode/utf8.acceptRanges", "internal/bytealg.MaxLen"], apart := false, laid := [("unicode/utf8.acceptRanges", laid_unicode_utf8_acceptRanges), ("unicode/utf8.first", laid_unicode_utf8_first)], narrowed := true }
def TokenAheadUptoSaid : Prop := tokenAheadUptoRow.holds Tryd.pinned (OpenSpec.upto tokenAheadSpec)

/-- 'quillwortlaw09.TokenHere', WHERE WHAT IT READS IS OF BULK AT MOST 1048576: true; the input reads as it did. -/
def tokenHereUptoRow : OpenClaim := { program := "ytihmjejcikpibaadoor", sum := "ffd2839bdd701086c2c1215b232e09a608307024911fe8f8ecd93f037993c24a", func := "quillwort/quillwortlaw09.TokenHere", spec := "tokenHere", inPlace := ["internal/bytealg.IndexByteString", "internal/bytealg.IndexString", "internal/abi.NoEscape"], unfollowed := true, recurses := true, named := ["unicode/utf8.first", "unicode/utf8.acceptRanges", "internal/bytealg.MaxLen"], apart := false, laid := [("unicode/utf8.acceptRanges", laid_unicode_utf8_acceptRanges), ("unicode/utf8.first", laid_unicode_utf8_first)], narrowed := true }
def TokenHereUptoSaid : Prop := tokenHereUptoRow.holds Tryd.pinned (OpenSpec.upto tokenHereSpec)

/-- 'quillwortlaw09.TokenTile', WHERE WHAT IT READS IS OF BULK AT MOST 1048576: true; the input reads as it did. -/
def tokenTileUptoRow : OpenClaim := { program := "ytihmjejcikpibaadoor", sum := "ffd2839bdd701086c2c1215b232e09a608307024911fe8f8ecd93f037993c24a", func := "quillwort/quillwortlaw09.TokenTile", spec := "tokenTile", inPlace := ["internal/bytealg.IndexByteString", "internal/bytealg.IndexString", "internal/abi.NoEscape"], unfollowed := true, recurses := true, named := ["unicode/utf8.first", "unicode/utf8.acceptRanges", "internal/bytealg.MaxLen"], apart := false, laid := [("unicode/utf8.acceptRanges", laid_unicode_utf8_acceptRanges), ("unicode/utf8.first", laid_unicode_utf8_first)], narrowed := true }
def TokenTileUptoSaid : Prop := tokenTileUptoRow.holds Tryd.pinned (OpenSpec.upto tokenTileSpec)

/-- 'quillwortlaw09.TokenSame', WHERE WHAT IT READS IS OF BULK AT MOST 1048576: true; the input reads as it did. -/
def tokenSameUptoRow : OpenClaim := { program := "ytihmjejcikpibaadoor", sum := "ffd2839bdd701086c2c1215b232e09a608307024911fe8f8ecd93f037993c24a", func := "quillwort/quillwortlaw09.TokenSame", spec := "tokenSame", inPlace := ["internal/bytealg.IndexByteString", "internal/bytealg.IndexString", "internal/abi.NoEscape"], unfollowed := true, recurses := true, named := ["unicode/utf8.first", "unicode/utf8.acceptRanges", "internal/bytealg.MaxLen"], apart := false, laid := [("unicode/utf8.acceptRanges", laid_unicode_utf8_acceptRanges), ("unicode/utf8.first", laid_unicode_utf8_first)], narrowed := true }
def TokenSameUptoSaid : Prop := tokenSameUptoRow.holds Tryd.pinned (OpenSpec.upto tokenSameSpec)

/-- 'quillwortlaw09.TokenRaw', WHERE WHAT IT READS IS OF BULK AT MOST 1048576: true; the input reads as it did. -/
def tokenRawUptoRow : OpenClaim := { program := "ytihmjejcikpibaadoor", sum := "ffd2839bdd701086c2c1215b232e09a608307024911fe8f8ecd93f037993c24a", func := "quillwort/quillwortlaw09.TokenRaw", spec := "tokenRaw", inPlace := ["internal/bytealg.IndexByteString", "internal/bytealg.IndexString", "internal/abi.NoEscape"], unfollowed := true, recurses := true, named := ["unicode/utf8.first", "unicode/utf8.acceptRanges", "internal/bytealg.MaxLen"], apart := false, laid := [("unicode/utf8.acceptRanges", laid_unicode_utf8_acceptRanges), ("unicode/utf8.first", laid_unicode_utf8_first)], narrowed := true }
def TokenRawUptoSaid : Prop := tokenRawUptoRow.holds Tryd.pinned (OpenSpec.upto tokenRawSpec)

end Rows
end Go.Proofs.YtihmjejcikpibaaDoor
