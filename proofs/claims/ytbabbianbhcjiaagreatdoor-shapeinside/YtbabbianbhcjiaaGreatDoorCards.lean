/-
  DERIVED. GIVEN WITH THE SEED: THE CARDS: each row of YtbabbianbhcjiaaGreatDoorRows.lean that lists a variable, with what it lists TIED to the program's text (the seventh form; the later family's looks); each row that meets fmt, with fmt's text TOLD by the authors' own Lean function (tested against real Go, not proved from fmt's source: count such statements apart). THE CARD IS WHAT COUNTS. Prove the row's statement (the work); the ties are given (YtbabbianbhcjiaaGreatDoorTie.lean); close each card by the builder's one call (the guide's Derived/Test/ToyasCard.lean, 'card_holds'). Laid BY PROGRAM, IN A SANDBOX (cutbox-door.mjs). By AI agents, Wed Nov 11 2026. No macro, syntax, notation, axiom, sorry.
-/
import Derived.Test.YtbabbianbhcjiaaGreatDoorRows
import GoSem.ClaimSeven
namespace Go.Proofs.YtbabbianbhcjiaaGreatDoor
namespace Rows

/-- THE TIED CARD OF 'bodkinlaw09.ShapeMay'. -/
def shapeMayCard : Claim7 := { stood := { row := shapeMayRow, standIns := [], harness := (true, "29a8cb97a78361069e9b0e5c710176b2a35ae43c4f0ee56c21d8b88f4628fa4f"), looks := false }, kinds := [], alts := [], laidByText := true, laidKinds := [.listed, .data, .data], laidTests := true, laidLooks := .later }
def ShapeMayCardSaid : Prop := Claim7.holds Tryz.pinned (.plain (OpenSpec.ofChange shapeMaySpec)) shapeMayCard

/-- THE TIED CARD OF 'bodkinlaw09.ShapeOne'. -/
def shapeOneCard : Claim7 := { stood := { row := shapeOneRow, standIns := [], harness := (true, "29a8cb97a78361069e9b0e5c710176b2a35ae43c4f0ee56c21d8b88f4628fa4f"), looks := false }, kinds := [], alts := [], laidByText := true, laidKinds := [.listed, .data, .data], laidTests := true, laidLooks := .later }
def ShapeOneCardSaid : Prop := Claim7.holds Tryz.pinned (.plain (OpenSpec.ofChange shapeOneSpec)) shapeOneCard

/-- THE TIED CARD OF 'bodkinlaw09.ShapeNest'. -/
def shapeNestCard : Claim7 := { stood := { row := shapeNestRow, standIns := [], harness := (true, "29a8cb97a78361069e9b0e5c710176b2a35ae43c4f0ee56c21d8b88f4628fa4f"), looks := false }, kinds := [], alts := [], laidByText := true, laidKinds := [.listed, .data, .data], laidTests := true, laidLooks := .later }
def ShapeNestCardSaid : Prop := Claim7.holds Tryz.pinned (.plain (OpenSpec.ofChange shapeNestSpec)) shapeNestCard

/-- THE TIED CARD OF 'bodkinlaw09.ShapeSame'. -/
def shapeSameCard : Claim7 := { stood := { row := shapeSameRow, standIns := [], harness := (true, "29a8cb97a78361069e9b0e5c710176b2a35ae43c4f0ee56c21d8b88f4628fa4f"), looks := false }, kinds := [], alts := [], laidByText := true, laidKinds := [.listed, .data, .data], laidTests := true, laidLooks := .later }
def ShapeSameCardSaid : Prop := Claim7.holds Tryz.pinned (.plain (OpenSpec.ofChange shapeSameSpec)) shapeSameCard

/-- THE TIED CARD OF 'bodkinlaw09.ShapeOwn'. -/
def shapeOwnCard : Claim7 := { stood := { row := shapeOwnRow, standIns := [], harness := (true, "29a8cb97a78361069e9b0e5c710176b2a35ae43c4f0ee56c21d8b88f4628fa4f"), looks := false }, kinds := [], alts := [], laidByText := true, laidKinds := [.listed, .data, .data], laidTests := true, laidLooks := .later }
def ShapeOwnCardSaid : Prop := Claim7.holds Tryz.pinned (.plain (OpenSpec.ofChange shapeOwnSpec)) shapeOwnCard

/-- THE TIED CARD OF 'bodkinlaw09.ShapeInside'. -/
def shapeInsideCard : Claim7 := { stood := { row := shapeInsideRow, standIns := [], harness := (true, "29a8cb97a78361069e9b0e5c710176b2a35ae43c4f0ee56c21d8b88f4628fa4f"), looks := false }, kinds := [], alts := [], laidByText := true, laidKinds := [.listed, .data, .data], laidTests := true, laidLooks := .later }
def ShapeInsideCardSaid : Prop := Claim7.holds Tryz.pinned (.plain (OpenSpec.ofChange shapeInsideSpec)) shapeInsideCard

/-- THE SECOND FORM's CARD OF 'bodkinlaw09.ShapeMay'. -/
def shapeMayUptoCard : Claim7 := { stood := { row := shapeMayUptoRow, standIns := [], harness := (true, "29a8cb97a78361069e9b0e5c710176b2a35ae43c4f0ee56c21d8b88f4628fa4f"), looks := false }, kinds := [], alts := [], laidByText := true, laidKinds := [.listed, .data, .data], laidTests := true, laidLooks := .later }
def ShapeMayUptoCardSaid : Prop := Claim7.holds Tryz.pinned (.plain (OpenSpec.upto shapeMaySpec)) shapeMayUptoCard

/-- THE SECOND FORM's CARD OF 'bodkinlaw09.ShapeOne'. -/
def shapeOneUptoCard : Claim7 := { stood := { row := shapeOneUptoRow, standIns := [], harness := (true, "29a8cb97a78361069e9b0e5c710176b2a35ae43c4f0ee56c21d8b88f4628fa4f"), looks := false }, kinds := [], alts := [], laidByText := true, laidKinds := [.listed, .data, .data], laidTests := true, laidLooks := .later }
def ShapeOneUptoCardSaid : Prop := Claim7.holds Tryz.pinned (.plain (OpenSpec.upto shapeOneSpec)) shapeOneUptoCard

/-- THE SECOND FORM's CARD OF 'bodkinlaw09.ShapeNest'. -/
def shapeNestUptoCard : Claim7 := { stood := { row := shapeNestUptoRow, standIns := [], harness := (true, "29a8cb97a78361069e9b0e5c710176b2a35ae43c4f0ee56c21d8b88f4628fa4f"), looks := false }, kinds := [], alts := [], laidByText := true, laidKinds := [.listed, .data, .data], laidTests := true, laidLooks := .later }
def ShapeNestUptoCardSaid : Prop := Claim7.holds Tryz.pinned (.plain (OpenSpec.upto shapeNestSpec)) shapeNestUptoCard

/-- THE SECOND FORM's CARD OF 'bodkinlaw09.ShapeSame'. -/
def shapeSameUptoCard : Claim7 := { stood := { row := shapeSameUptoRow, standIns := [], harness := (true, "29a8cb97a78361069e9b0e5c710176b2a35ae43c4f0ee56c21d8b88f4628fa4f"), looks := false }, kinds := [], alts := [], laidByText := true, laidKinds := [.listed, .data, .data], laidTests := true, laidLooks := .later }
def ShapeSameUptoCardSaid : Prop := Claim7.holds Tryz.pinned (.plain (OpenSpec.upto shapeSameSpec)) shapeSameUptoCard

/-- THE SECOND FORM's CARD OF 'bodkinlaw09.ShapeOwn'. -/
def shapeOwnUptoCard : Claim7 := { stood := { row := shapeOwnUptoRow, standIns := [], harness := (true, "29a8cb97a78361069e9b0e5c710176b2a35ae43c4f0ee56c21d8b88f4628fa4f"), looks := false }, kinds := [], alts := [], laidByText := true, laidKinds := [.listed, .data, .data], laidTests := true, laidLooks := .later }
def ShapeOwnUptoCardSaid : Prop := Claim7.holds Tryz.pinned (.plain (OpenSpec.upto shapeOwnSpec)) shapeOwnUptoCard

/-- THE SECOND FORM's CARD OF 'bodkinlaw09.ShapeInside'. -/
def shapeInsideUptoCard : Claim7 := { stood := { row := shapeInsideUptoRow, standIns := [], harness := (true, "29a8cb97a78361069e9b0e5c710176b2a35ae43c4f0ee56c21d8b88f4628fa4f"), looks := false }, kinds := [], alts := [], laidByText := true, laidKinds := [.listed, .data, .data], laidTests := true, laidLooks := .later }
def ShapeInsideUptoCardSaid : Prop := Claim7.holds Tryz.pinned (.plain (OpenSpec.upto shapeInsideSpec)) shapeInsideUptoCard
end Rows
end Go.Proofs.YtbabbianbhcjiaaGreatDoor
