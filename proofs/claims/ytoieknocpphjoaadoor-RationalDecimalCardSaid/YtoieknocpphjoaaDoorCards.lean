/-
  DERIVED. GIVEN WITH THE SEED: THE CARDS: each row of YtoieknocpphjoaaDoorRows.lean that lists a variable, with what it lists TIED to the program's text (the seventh form; the later family's looks); each row that meets fmt, with fmt's text TOLD by the authors' own Lean function (tested against real Go, not proved from fmt's source: count such statements apart). THE CARD IS WHAT COUNTS. Prove the row's statement (the work); the ties are given (YtoieknocpphjoaaDoorTie.lean); close each card by the builder's one call (the guide's Derived/Test/ToyasCard.lean, 'card_holds'). Laid BY PROGRAM, IN A SANDBOX (cutbox-door.mjs). By AI agents, Wed Nov 11 2026. No macro, syntax, notation, axiom, sorry.
-/
import Derived.Test.YtoieknocpphjoaaDoorRows
import GoSem.ClaimSeven
namespace Go.Proofs.YtoieknocpphjoaaDoor
namespace Rows

/-- THE TIED CARD OF 'vinculumlaw02.RationalMake'. -/
def rationalMakeCard : Claim7 := { stood := { row := rationalMakeRow, standIns := [], harness := (true, "8e439822a085847e643ae0f26342016b3a6a22357f7c37c219cf1c95c0f9c33c"), looks := false }, kinds := [], alts := [], laidByText := true, laidKinds := [.data, .data, .data], laidTests := true, laidLooks := .later }
def RationalMakeCardSaid : Prop := Claim7.holds Tryd.pinned (.plain (OpenSpec.ofChange rationalMakeSpec)) rationalMakeCard

/-- THE TIED CARD OF 'vinculumlaw02.RationalField'. -/
def rationalFieldCard : Claim7 := { stood := { row := rationalFieldRow, standIns := [], harness := (true, "8e439822a085847e643ae0f26342016b3a6a22357f7c37c219cf1c95c0f9c33c"), looks := false }, kinds := [], alts := [], laidByText := true, laidKinds := [.data, .data, .data], laidTests := true, laidLooks := .later }
def RationalFieldCardSaid : Prop := Claim7.holds Tryd.pinned (.plain (OpenSpec.ofChange rationalFieldSpec)) rationalFieldCard

/-- THE TIED CARD OF 'vinculumlaw02.RationalUndo'. -/
def rationalUndoCard : Claim7 := { stood := { row := rationalUndoRow, standIns := [], harness := (true, "8e439822a085847e643ae0f26342016b3a6a22357f7c37c219cf1c95c0f9c33c"), looks := false }, kinds := [], alts := [], laidByText := true, laidKinds := [.data, .data, .data], laidTests := true, laidLooks := .later }
def RationalUndoCardSaid : Prop := Claim7.holds Tryd.pinned (.plain (OpenSpec.ofChange rationalUndoSpec)) rationalUndoCard

/-- THE TIED CARD OF 'vinculumlaw02.RationalSums'. -/
def rationalSumsCard : Claim7 := { stood := { row := rationalSumsRow, standIns := [], harness := (true, "8e439822a085847e643ae0f26342016b3a6a22357f7c37c219cf1c95c0f9c33c"), looks := false }, kinds := [], alts := [], laidByText := true, laidKinds := [.data, .data, .data], laidTests := true, laidLooks := .later }
def RationalSumsCardSaid : Prop := Claim7.holds Tryd.pinned (.plain (OpenSpec.ofChange rationalSumsSpec)) rationalSumsCard

/-- THE TIED CARD OF 'vinculumlaw02.RationalProducts'. -/
def rationalProductsCard : Claim7 := { stood := { row := rationalProductsRow, standIns := [], harness := (true, "8e439822a085847e643ae0f26342016b3a6a22357f7c37c219cf1c95c0f9c33c"), looks := false }, kinds := [], alts := [], laidByText := true, laidKinds := [.data, .data, .data], laidTests := true, laidLooks := .later }
def RationalProductsCardSaid : Prop := Claim7.holds Tryd.pinned (.plain (OpenSpec.ofChange rationalProductsSpec)) rationalProductsCard

/-- THE TIED CARD OF 'vinculumlaw02.RationalPow'. -/
def rationalPowCard : Claim7 := { stood := { row := rationalPowRow, standIns := [], harness := (true, "8e439822a085847e643ae0f26342016b3a6a22357f7c37c219cf1c95c0f9c33c"), looks := false }, kinds := [], alts := [], laidByText := true, laidKinds := [.data, .data, .data], laidTests := true, laidLooks := .later }
def RationalPowCardSaid : Prop := Claim7.holds Tryd.pinned (.plain (OpenSpec.ofChange rationalPowSpec)) rationalPowCard

/-- THE TIED CARD OF 'vinculumlaw02.RationalParse'. -/
def rationalParseCard : Claim7 := { stood := { row := rationalParseRow, standIns := [], harness := (true, "8e439822a085847e643ae0f26342016b3a6a22357f7c37c219cf1c95c0f9c33c"), looks := false }, kinds := [], alts := [], laidByText := true, laidKinds := [.data, .data, .data], laidTests := true, laidLooks := .later }
def RationalParseCardSaid : Prop := Claim7.holds Tryd.pinned (.plain (OpenSpec.ofChange rationalParseSpec)) rationalParseCard

/-- THE TIED CARD OF 'vinculumlaw02.RationalDecimal'. -/
def rationalDecimalCard : Claim7 := { stood := { row := rationalDecimalRow, standIns := [], harness := (true, "8e439822a085847e643ae0f26342016b3a6a22357f7c37c219cf1c95c0f9c33c"), looks := false }, kinds := [], alts := [], laidByText := true, laidKinds := [.data, .data, .data], laidTests := true, laidLooks := .later }
def RationalDecimalCardSaid : Prop := Claim7.holds Tryd.pinned (.plain (OpenSpec.ofChange rationalDecimalSpec)) rationalDecimalCard

/-- THE TIED CARD OF 'vinculumlaw02.RationalPowers'. -/
def rationalPowersCard : Claim7 := { stood := { row := rationalPowersRow, standIns := [], harness := (true, "8e439822a085847e643ae0f26342016b3a6a22357f7c37c219cf1c95c0f9c33c"), looks := false }, kinds := [], alts := [], laidByText := true, laidKinds := [.data, .data, .data], laidTests := true, laidLooks := .later }
def RationalPowersCardSaid : Prop := Claim7.holds Tryd.pinned (.plain (OpenSpec.ofChange rationalPowersSpec)) rationalPowersCard

/-- THE SECOND FORM's CARD OF 'vinculumlaw02.RationalMake'. -/
def rationalMakeUptoCard : Claim7 := { stood := { row := rationalMakeUptoRow, standIns := [], harness := (true, "8e439822a085847e643ae0f26342016b3a6a22357f7c37c219cf1c95c0f9c33c"), looks := false }, kinds := [], alts := [], laidByText := true, laidKinds := [.data, .data, .data], laidTests := true, laidLooks := .later }
def RationalMakeUptoCardSaid : Prop := Claim7.holds Tryd.pinned (.plain (OpenSpec.upto rationalMakeSpec)) rationalMakeUptoCard

/-- THE SECOND FORM's CARD OF 'vinculumlaw02.RationalField'. -/
def rationalFieldUptoCard : Claim7 := { stood := { row := rationalFieldUptoRow, standIns := [], harness := (true, "8e439822a085847e643ae0f26342016b3a6a22357f7c37c219cf1c95c0f9c33c"), looks := false }, kinds := [], alts := [], laidByText := true, laidKinds := [.data, .data, .data], laidTests := true, laidLooks := .later }
def RationalFieldUptoCardSaid : Prop := Claim7.holds Tryd.pinned (.plain (OpenSpec.upto rationalFieldSpec)) rationalFieldUptoCard

/-- THE SECOND FORM's CARD OF 'vinculumlaw02.RationalUndo'. -/
def rationalUndoUptoCard : Claim7 := { stood := { row := rationalUndoUptoRow, standIns := [], harness := (true, "8e439822a085847e643ae0f26342016b3a6a22357f7c37c219cf1c95c0f9c33c"), looks := false }, kinds := [], alts := [], laidByText := true, laidKinds := [.data, .data, .data], laidTests := true, laidLooks := .later }
def RationalUndoUptoCardSaid : Prop := Claim7.holds Tryd.pinned (.plain (OpenSpec.upto rationalUndoSpec)) rationalUndoUptoCard

/-- THE SECOND FORM's CARD OF 'vinculumlaw02.RationalSums'. -/
def rationalSumsUptoCard : Claim7 := { stood := { row := rationalSumsUptoRow, standIns := [], harness := (true, "8e439822a085847e643ae0f26342016b3a6a22357f7c37c219cf1c95c0f9c33c"), looks := false }, kinds := [], alts := [], laidByText := true, laidKinds := [.data, .data, .data], laidTests := true, laidLooks := .later }
def RationalSumsUptoCardSaid : Prop := Claim7.holds Tryd.pinned (.plain (OpenSpec.upto rationalSumsSpec)) rationalSumsUptoCard

/-- THE SECOND FORM's CARD OF 'vinculumlaw02.RationalProducts'. -/
def rationalProductsUptoCard : Claim7 := { stood := { row := rationalProductsUptoRow, standIns := [], harness := (true, "8e439822a085847e643ae0f26342016b3a6a22357f7c37c219cf1c95c0f9c33c"), looks := false }, kinds := [], alts := [], laidByText := true, laidKinds := [.data, .data, .data], laidTests := true, laidLooks := .later }
def RationalProductsUptoCardSaid : Prop := Claim7.holds Tryd.pinned (.plain (OpenSpec.upto rationalProductsSpec)) rationalProductsUptoCard

/-- THE SECOND FORM's CARD OF 'vinculumlaw02.RationalPow'. -/
def rationalPowUptoCard : Claim7 := { stood := { row := rationalPowUptoRow, standIns := [], harness := (true, "8e439822a085847e643ae0f26342016b3a6a22357f7c37c219cf1c95c0f9c33c"), looks := false }, kinds := [], alts := [], laidByText := true, laidKinds := [.data, .data, .data], laidTests := true, laidLooks := .later }
def RationalPowUptoCardSaid : Prop := Claim7.holds Tryd.pinned (.plain (OpenSpec.upto rationalPowSpec)) rationalPowUptoCard

/-- THE SECOND FORM's CARD OF 'vinculumlaw02.RationalParse'. -/
def rationalParseUptoCard : Claim7 := { stood := { row := rationalParseUptoRow, standIns := [], harness := (true, "8e439822a085847e643ae0f26342016b3a6a22357f7c37c219cf1c95c0f9c33c"), looks := false }, kinds := [], alts := [], laidByText := true, laidKinds := [.data, .data, .data], laidTests := true, laidLooks := .later }
def RationalParseUptoCardSaid : Prop := Claim7.holds Tryd.pinned (.plain (OpenSpec.upto rationalParseSpec)) rationalParseUptoCard

/-- THE SECOND FORM's CARD OF 'vinculumlaw02.RationalDecimal'. -/
def rationalDecimalUptoCard : Claim7 := { stood := { row := rationalDecimalUptoRow, standIns := [], harness := (true, "8e439822a085847e643ae0f26342016b3a6a22357f7c37c219cf1c95c0f9c33c"), looks := false }, kinds := [], alts := [], laidByText := true, laidKinds := [.data, .data, .data], laidTests := true, laidLooks := .later }
def RationalDecimalUptoCardSaid : Prop := Claim7.holds Tryd.pinned (.plain (OpenSpec.upto rationalDecimalSpec)) rationalDecimalUptoCard

/-- THE SECOND FORM's CARD OF 'vinculumlaw02.RationalPowers'. -/
def rationalPowersUptoCard : Claim7 := { stood := { row := rationalPowersUptoRow, standIns := [], harness := (true, "8e439822a085847e643ae0f26342016b3a6a22357f7c37c219cf1c95c0f9c33c"), looks := false }, kinds := [], alts := [], laidByText := true, laidKinds := [.data, .data, .data], laidTests := true, laidLooks := .later }
def RationalPowersUptoCardSaid : Prop := Claim7.holds Tryd.pinned (.plain (OpenSpec.upto rationalPowersSpec)) rationalPowersUptoCard
end Rows
end Go.Proofs.YtoieknocpphjoaaDoor
