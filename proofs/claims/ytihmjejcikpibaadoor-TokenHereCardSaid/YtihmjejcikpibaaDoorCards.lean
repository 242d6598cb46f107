/-
  DERIVED. GIVEN WITH THE SEED: THE CARDS: each row of YtihmjejcikpibaaDoorRows.lean that lists a variable, with what it lists TIED to the program's text (the seventh form; the later family's looks); each row that meets fmt, with fmt's text TOLD by the authors' own Lean function (tested against real Go, not proved from fmt's source: count such statements apart). THE CARD IS WHAT COUNTS. Prove the row's statement (the work); the ties are given (YtihmjejcikpibaaDoorTie.lean); close each card by the builder's one call (the guide's Derived/Test/ToyasCard.lean, 'card_holds'). Laid BY PROGRAM, IN A SANDBOX (cutbox-door.mjs). By AI agents, Wed Nov 11 2026. No macro, syntax, notation, axiom, sorry.
-/
import Derived.Test.YtihmjejcikpibaaDoorRows
import GoSem.ClaimSeven
namespace Go.Proofs.YtihmjejcikpibaaDoor
namespace Rows

/-- THE TIED CARD OF 'quillwortlaw09.TokenAhead'. -/
def tokenAheadCard : Claim7 := { stood := { row := tokenAheadRow, standIns := [], harness := (true, "aeb7be85a40ad8cdef2c2959ebb2c957d0c01200d636cee63b8377d8bc41abdc"), looks := false }, kinds := [], alts := [], laidByText := true, laidKinds := [.data, .pinned], laidTests := true, laidLooks := .later }
def TokenAheadCardSaid : Prop := Claim7.holds Tryd.pinned (.plain (OpenSpec.ofChange tokenAheadSpec)) tokenAheadCard

/-- THE TIED CARD OF 'quillwortlaw09.TokenHere'. -/
def tokenHereCard : Claim7 := { stood := { row := tokenHereRow, standIns := [], harness := (true, "aeb7be85a40ad8cdef2c2959ebb2c957d0c01200d636cee63b8377d8bc41abdc"), looks := false }, kinds := [], alts := [], laidByText := true, laidKinds := [.data, .pinned], laidTests := true, laidLooks := .later }
def TokenHereCardSaid : Prop := Claim7.holds Tryd.pinned (.plain (OpenSpec.ofChange tokenHereSpec)) tokenHereCard

/-- THE TIED CARD OF 'quillwortlaw09.TokenTile'. -/
def tokenTileCard : Claim7 := { stood := { row := tokenTileRow, standIns := [], harness := (true, "aeb7be85a40ad8cdef2c2959ebb2c957d0c01200d636cee63b8377d8bc41abdc"), looks := false }, kinds := [], alts := [], laidByText := true, laidKinds := [.data, .pinned], laidTests := true, laidLooks := .later }
def TokenTileCardSaid : Prop := Claim7.holds Tryd.pinned (.plain (OpenSpec.ofChange tokenTileSpec)) tokenTileCard

/-- THE TIED CARD OF 'quillwortlaw09.TokenSame'. -/
def tokenSameCard : Claim7 := { stood := { row := tokenSameRow, standIns := [], harness := (true, "aeb7be85a40ad8cdef2c2959ebb2c957d0c01200d636cee63b8377d8bc41abdc"), looks := false }, kinds := [], alts := [], laidByText := true, laidKinds := [.data, .pinned], laidTests := true, laidLooks := .later }
def TokenSameCardSaid : Prop := Claim7.holds Tryd.pinned (.plain (OpenSpec.ofChange tokenSameSpec)) tokenSameCard

/-- THE TIED CARD OF 'quillwortlaw09.TokenRaw'. -/
def tokenRawCard : Claim7 := { stood := { row := tokenRawRow, standIns := [], harness := (true, "aeb7be85a40ad8cdef2c2959ebb2c957d0c01200d636cee63b8377d8bc41abdc"), looks := false }, kinds := [], alts := [], laidByText := true, laidKinds := [.data, .pinned], laidTests := true, laidLooks := .later }
def TokenRawCardSaid : Prop := Claim7.holds Tryd.pinned (.plain (OpenSpec.ofChange tokenRawSpec)) tokenRawCard

/-- THE SECOND FORM's CARD OF 'quillwortlaw09.TokenAhead'. -/
def tokenAheadUptoCard : Claim7 := { stood := { row := tokenAheadUptoRow, standIns := [], harness := (true, "aeb7be85a40ad8cdef2c2959ebb2c957d0c01200d636cee63b8377d8bc41abdc"), looks := false }, kinds := [], alts := [], laidByText := true, laidKinds := [.data, .pinned], laidTests := true, laidLooks := .later }
def TokenAheadUptoCardSaid : Prop := Claim7.holds Tryd.pinned (.plain (OpenSpec.upto tokenAheadSpec)) tokenAheadUptoCard

/-- THE SECOND FORM's CARD OF 'quillwortlaw09.TokenHere'. -/
def tokenHereUptoCard : Claim7 := { stood := { row := tokenHereUptoRow, standIns := [], harness := (true, "aeb7be85a40ad8cdef2c2959ebb2c957d0c01200d636cee63b8377d8bc41abdc"), looks := false }, kinds := [], alts := [], laidByText := true, laidKinds := [.data, .pinned], laidTests := true, laidLooks := .later }
def TokenHereUptoCardSaid : Prop := Claim7.holds Tryd.pinned (.plain (OpenSpec.upto tokenHereSpec)) tokenHereUptoCard

/-- THE SECOND FORM's CARD OF 'quillwortlaw09.TokenTile'. -/
def tokenTileUptoCard : Claim7 := { stood := { row := tokenTileUptoRow, standIns := [], harness := (true, "aeb7be85a40ad8cdef2c2959ebb2c957d0c01200d636cee63b8377d8bc41abdc"), looks := false }, kinds := [], alts := [], laidByText := true, laidKinds := [.data, .pinned], laidTests := true, laidLooks := .later }
def TokenTileUptoCardSaid : Prop := Claim7.holds Tryd.pinned (.plain (OpenSpec.upto tokenTileSpec)) tokenTileUptoCard

/-- THE SECOND FORM's CARD OF 'quillwortlaw09.TokenSame'. -/
def tokenSameUptoCard : Claim7 := { stood := { row := tokenSameUptoRow, standIns := [], harness := (true, "aeb7be85a40ad8cdef2c2959ebb2c957d0c01200d636cee63b8377d8bc41abdc"), looks := false }, kinds := [], alts := [], laidByText := true, laidKinds := [.data, .pinned], laidTests := true, laidLooks := .later }
def TokenSameUptoCardSaid : Prop := Claim7.holds Tryd.pinned (.plain (OpenSpec.upto tokenSameSpec)) tokenSameUptoCard

/-- THE SECOND FORM's CARD OF 'quillwortlaw09.TokenRaw'. -/
def tokenRawUptoCard : Claim7 := { stood := { row := tokenRawUptoRow, standIns := [], harness := (true, "aeb7be85a40ad8cdef2c2959ebb2c957d0c01200d636cee63b8377d8bc41abdc"), looks := false }, kinds := [], alts := [], laidByText := true, laidKinds := [.data, .pinned], laidTests := true, laidLooks := .later }
def TokenRawUptoCardSaid : Prop := Claim7.holds Tryd.pinned (.plain (OpenSpec.upto tokenRawSpec)) tokenRawUptoCard
end Rows
end Go.Proofs.YtihmjejcikpibaaDoor
