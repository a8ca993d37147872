/-
  DERIVED. GIVEN WITH THE SEED: THE CARDS: each row of YtgehpjjpeddomaaGreatDoorRows.lean that lists a variable, with what it lists TIED to the program's text (the seventh form; the later family's looks); each row that meets fmt, with fmt's text TOLD by the authors' own Lean function (tested against real Go, not proved from fmt's source: count such statements apart). THE CARD IS WHAT COUNTS. Prove the row's statement (the work); the ties are given (YtgehpjjpeddomaaGreatDoorTie.lean); close each card by the builder's one call (the guide's Derived/Test/ToyasCard.lean, 'card_holds'). Laid BY PROGRAM, IN A SANDBOX (cutbox-door.mjs). By AI agents, Wed Nov 11 2026. No macro, syntax, notation, axiom, sorry.
-/
import Derived.Test.YtgehpjjpeddomaaGreatDoorRows
import GoSem.ClaimSeven
namespace Go.Proofs.YtgehpjjpeddomaaGreatDoor
namespace Rows

/-- THE TIED CARD OF 'bodkinlaw10.EncodeModule'. -/
def encodeModuleCard : Claim7 := { stood := { row := encodeModuleRow, standIns := [], harness := (true, "ff808c13cf5612c644122b9cc2c403e0268b90809ca53fab8c0a6b86a1df6477"), looks := false }, kinds := [], alts := [], laidByText := true, laidKinds := [.listed, .data, .data], laidTests := true, laidLooks := .later }
def EncodeModuleCardSaid : Prop := Claim7.holds Tryz.pinned (.plain (OpenSpec.ofChange encodeModuleSpec)) encodeModuleCard

/-- THE TIED CARD OF 'bodkinlaw10.EncodeCode'. -/
def encodeCodeCard : Claim7 := { stood := { row := encodeCodeRow, standIns := [], harness := (true, "ff808c13cf5612c644122b9cc2c403e0268b90809ca53fab8c0a6b86a1df6477"), looks := false }, kinds := [], alts := [], laidByText := true, laidKinds := [.listed, .data, .data], laidTests := true, laidLooks := .later }
def EncodeCodeCardSaid : Prop := Claim7.holds Tryz.pinned (.plain (OpenSpec.ofChange encodeCodeSpec)) encodeCodeCard

/-- THE TIED CARD OF 'bodkinlaw10.EncodeApart'. -/
def encodeApartCard : Claim7 := { stood := { row := encodeApartRow, standIns := [], harness := (true, "ff808c13cf5612c644122b9cc2c403e0268b90809ca53fab8c0a6b86a1df6477"), looks := false }, kinds := [], alts := [], laidByText := true, laidKinds := [.listed, .data, .data], laidTests := true, laidLooks := .later }
def EncodeApartCardSaid : Prop := Claim7.holds Tryz.pinned (.plain (OpenSpec.ofChange encodeApartSpec)) encodeApartCard

/-- THE TIED CARD OF 'bodkinlaw10.EncodeDeep'. -/
def encodeDeepCard : Claim7 := { stood := { row := encodeDeepRow, standIns := [], harness := (true, "ff808c13cf5612c644122b9cc2c403e0268b90809ca53fab8c0a6b86a1df6477"), looks := false }, kinds := [], alts := [], laidByText := true, laidKinds := [.listed, .data, .data], laidTests := true, laidLooks := .later }
def EncodeDeepCardSaid : Prop := Claim7.holds Tryz.pinned (.plain (OpenSpec.ofChange encodeDeepSpec)) encodeDeepCard

/-- THE TIED CARD OF 'bodkinlaw10.EncodeInstr'. -/
def encodeInstrCard : Claim7 := { stood := { row := encodeInstrRow, standIns := [], harness := (true, "ff808c13cf5612c644122b9cc2c403e0268b90809ca53fab8c0a6b86a1df6477"), looks := false }, kinds := [], alts := [], laidByText := true, laidKinds := [.listed, .data, .data], laidTests := true, laidLooks := .later }
def EncodeInstrCardSaid : Prop := Claim7.holds Tryz.pinned (.plain (OpenSpec.ofChange encodeInstrSpec)) encodeInstrCard

/-- THE TIED CARD OF 'bodkinlaw10.EncodeParts'. -/
def encodePartsCard : Claim7 := { stood := { row := encodePartsRow, standIns := [], harness := (true, "ff808c13cf5612c644122b9cc2c403e0268b90809ca53fab8c0a6b86a1df6477"), looks := false }, kinds := [], alts := [], laidByText := true, laidKinds := [.listed, .data, .data], laidTests := true, laidLooks := .later }
def EncodePartsCardSaid : Prop := Claim7.holds Tryz.pinned (.plain (OpenSpec.ofChange encodePartsSpec)) encodePartsCard

/-- THE TIED CARD OF 'bodkinlaw11.DecodeBack'. -/
def decodeBackCard : Claim7 := { stood := { row := decodeBackRow, standIns := [], harness := (true, "ff808c13cf5612c644122b9cc2c403e0268b90809ca53fab8c0a6b86a1df6477"), looks := false }, kinds := [], alts := [], laidByText := true, laidKinds := [.listed, .data, .data], laidTests := true, laidLooks := .later }
def DecodeBackCardSaid : Prop := Claim7.holds Tryz.pinned (.plain (OpenSpec.ofChange decodeBackSpec)) decodeBackCard

/-- THE TIED CARD OF 'bodkinlaw11.DecodeAgain'. -/
def decodeAgainCard : Claim7 := { stood := { row := decodeAgainRow, standIns := [], harness := (true, "ff808c13cf5612c644122b9cc2c403e0268b90809ca53fab8c0a6b86a1df6477"), looks := false }, kinds := [], alts := [], laidByText := true, laidKinds := [.listed, .data, .data], laidTests := true, laidLooks := .later }
def DecodeAgainCardSaid : Prop := Claim7.holds Tryz.pinned (.plain (OpenSpec.ofChange decodeAgainSpec)) decodeAgainCard

/-- THE TIED CARD OF 'bodkinlaw11.DecodeDeep'. -/
def decodeDeepCard : Claim7 := { stood := { row := decodeDeepRow, standIns := [], harness := (true, "ff808c13cf5612c644122b9cc2c403e0268b90809ca53fab8c0a6b86a1df6477"), looks := false }, kinds := [], alts := [], laidByText := true, laidKinds := [.listed, .data, .data], laidTests := true, laidLooks := .later }
def DecodeDeepCardSaid : Prop := Claim7.holds Tryz.pinned (.plain (OpenSpec.ofChange decodeDeepSpec)) decodeDeepCard

/-- THE TIED CARD OF 'bodkinlaw11.DecodeInstr'. -/
def decodeInstrCard : Claim7 := { stood := { row := decodeInstrRow, standIns := [], harness := (true, "ff808c13cf5612c644122b9cc2c403e0268b90809ca53fab8c0a6b86a1df6477"), looks := false }, kinds := [], alts := [], laidByText := true, laidKinds := [.listed, .data, .data], laidTests := true, laidLooks := .later }
def DecodeInstrCardSaid : Prop := Claim7.holds Tryz.pinned (.plain (OpenSpec.ofChange decodeInstrSpec)) decodeInstrCard

/-- THE TIED CARD OF 'bodkinlaw11.DecodeConst'. -/
def decodeConstCard : Claim7 := { stood := { row := decodeConstRow, standIns := [], harness := (true, "ff808c13cf5612c644122b9cc2c403e0268b90809ca53fab8c0a6b86a1df6477"), looks := false }, kinds := [], alts := [], laidByText := true, laidKinds := [.listed, .data, .data], laidTests := true, laidLooks := .later }
def DecodeConstCardSaid : Prop := Claim7.holds Tryz.pinned (.plain (OpenSpec.ofChange decodeConstSpec)) decodeConstCard

/-- THE SECOND FORM's CARD OF 'bodkinlaw10.EncodeModule'. -/
def encodeModuleUptoCard : Claim7 := { stood := { row := encodeModuleUptoRow, standIns := [], harness := (true, "ff808c13cf5612c644122b9cc2c403e0268b90809ca53fab8c0a6b86a1df6477"), looks := false }, kinds := [], alts := [], laidByText := true, laidKinds := [.listed, .data, .data], laidTests := true, laidLooks := .later }
def EncodeModuleUptoCardSaid : Prop := Claim7.holds Tryz.pinned (.plain (OpenSpec.upto encodeModuleSpec)) encodeModuleUptoCard

/-- THE SECOND FORM's CARD OF 'bodkinlaw10.EncodeCode'. -/
def encodeCodeUptoCard : Claim7 := { stood := { row := encodeCodeUptoRow, standIns := [], harness := (true, "ff808c13cf5612c644122b9cc2c403e0268b90809ca53fab8c0a6b86a1df6477"), looks := false }, kinds := [], alts := [], laidByText := true, laidKinds := [.listed, .data, .data], laidTests := true, laidLooks := .later }
def EncodeCodeUptoCardSaid : Prop := Claim7.holds Tryz.pinned (.plain (OpenSpec.upto encodeCodeSpec)) encodeCodeUptoCard

/-- THE SECOND FORM's CARD OF 'bodkinlaw10.EncodeApart'. -/
def encodeApartUptoCard : Claim7 := { stood := { row := encodeApartUptoRow, standIns := [], harness := (true, "ff808c13cf5612c644122b9cc2c403e0268b90809ca53fab8c0a6b86a1df6477"), looks := false }, kinds := [], alts := [], laidByText := true, laidKinds := [.listed, .data, .data], laidTests := true, laidLooks := .later }
def EncodeApartUptoCardSaid : Prop := Claim7.holds Tryz.pinned (.plain (OpenSpec.upto encodeApartSpec)) encodeApartUptoCard

/-- THE SECOND FORM's CARD OF 'bodkinlaw10.EncodeDeep'. -/
def encodeDeepUptoCard : Claim7 := { stood := { row := encodeDeepUptoRow, standIns := [], harness := (true, "ff808c13cf5612c644122b9cc2c403e0268b90809ca53fab8c0a6b86a1df6477"), looks := false }, kinds := [], alts := [], laidByText := true, laidKinds := [.listed, .data, .data], laidTests := true, laidLooks := .later }
def EncodeDeepUptoCardSaid : Prop := Claim7.holds Tryz.pinned (.plain (OpenSpec.upto encodeDeepSpec)) encodeDeepUptoCard

/-- THE SECOND FORM's CARD OF 'bodkinlaw10.EncodeInstr'. -/
def encodeInstrUptoCard : Claim7 := { stood := { row := encodeInstrUptoRow, standIns := [], harness := (true, "ff808c13cf5612c644122b9cc2c403e0268b90809ca53fab8c0a6b86a1df6477"), looks := false }, kinds := [], alts := [], laidByText := true, laidKinds := [.listed, .data, .data], laidTests := true, laidLooks := .later }
def EncodeInstrUptoCardSaid : Prop := Claim7.holds Tryz.pinned (.plain (OpenSpec.upto encodeInstrSpec)) encodeInstrUptoCard

/-- THE SECOND FORM's CARD OF 'bodkinlaw10.EncodeParts'. -/
def encodePartsUptoCard : Claim7 := { stood := { row := encodePartsUptoRow, standIns := [], harness := (true, "ff808c13cf5612c644122b9cc2c403e0268b90809ca53fab8c0a6b86a1df6477"), looks := false }, kinds := [], alts := [], laidByText := true, laidKinds := [.listed, .data, .data], laidTests := true, laidLooks := .later }
def EncodePartsUptoCardSaid : Prop := Claim7.holds Tryz.pinned (.plain (OpenSpec.upto encodePartsSpec)) encodePartsUptoCard

/-- THE SECOND FORM's CARD OF 'bodkinlaw11.DecodeBack'. -/
def decodeBackUptoCard : Claim7 := { stood := { row := decodeBackUptoRow, standIns := [], harness := (true, "ff808c13cf5612c644122b9cc2c403e0268b90809ca53fab8c0a6b86a1df6477"), looks := false }, kinds := [], alts := [], laidByText := true, laidKinds := [.listed, .data, .data], laidTests := true, laidLooks := .later }
def DecodeBackUptoCardSaid : Prop := Claim7.holds Tryz.pinned (.plain (OpenSpec.upto decodeBackSpec)) decodeBackUptoCard

/-- THE SECOND FORM's CARD OF 'bodkinlaw11.DecodeAgain'. -/
def decodeAgainUptoCard : Claim7 := { stood := { row := decodeAgainUptoRow, standIns := [], harness := (true, "ff808c13cf5612c644122b9cc2c403e0268b90809ca53fab8c0a6b86a1df6477"), looks := false }, kinds := [], alts := [], laidByText := true, laidKinds := [.listed, .data, .data], laidTests := true, laidLooks := .later }
def DecodeAgainUptoCardSaid : Prop := Claim7.holds Tryz.pinned (.plain (OpenSpec.upto decodeAgainSpec)) decodeAgainUptoCard

/-- THE SECOND FORM's CARD OF 'bodkinlaw11.DecodeDeep'. -/
def decodeDeepUptoCard : Claim7 := { stood := { row := decodeDeepUptoRow, standIns := [], harness := (true, "ff808c13cf5612c644122b9cc2c403e0268b90809ca53fab8c0a6b86a1df6477"), looks := false }, kinds := [], alts := [], laidByText := true, laidKinds := [.listed, .data, .data], laidTests := true, laidLooks := .later }
def DecodeDeepUptoCardSaid : Prop := Claim7.holds Tryz.pinned (.plain (OpenSpec.upto decodeDeepSpec)) decodeDeepUptoCard

/-- THE SECOND FORM's CARD OF 'bodkinlaw11.DecodeInstr'. -/
def decodeInstrUptoCard : Claim7 := { stood := { row := decodeInstrUptoRow, standIns := [], harness := (true, "ff808c13cf5612c644122b9cc2c403e0268b90809ca53fab8c0a6b86a1df6477"), looks := false }, kinds := [], alts := [], laidByText := true, laidKinds := [.listed, .data, .data], laidTests := true, laidLooks := .later }
def DecodeInstrUptoCardSaid : Prop := Claim7.holds Tryz.pinned (.plain (OpenSpec.upto decodeInstrSpec)) decodeInstrUptoCard

/-- THE SECOND FORM's CARD OF 'bodkinlaw11.DecodeConst'. -/
def decodeConstUptoCard : Claim7 := { stood := { row := decodeConstUptoRow, standIns := [], harness := (true, "ff808c13cf5612c644122b9cc2c403e0268b90809ca53fab8c0a6b86a1df6477"), looks := false }, kinds := [], alts := [], laidByText := true, laidKinds := [.listed, .data, .data], laidTests := true, laidLooks := .later }
def DecodeConstUptoCardSaid : Prop := Claim7.holds Tryz.pinned (.plain (OpenSpec.upto decodeConstSpec)) decodeConstUptoCard
end Rows
end Go.Proofs.YtgehpjjpeddomaaGreatDoor
