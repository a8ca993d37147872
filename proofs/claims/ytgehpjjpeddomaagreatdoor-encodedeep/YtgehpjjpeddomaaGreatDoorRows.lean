/-
  NARROWER THAN 'FOR EVERY INPUT', by the rows' own cells (each row's printed sentence says how): EncodeModule: loops, laid · EncodeCode: loops, laid · EncodeApart: loops, laid · EncodeDeep: laid · EncodeInstr: loops, laid · EncodeParts: loops, laid · DecodeBack: loops, laid · DecodeAgain: laid · DecodeDeep: laid · DecodeInstr: loops, laid · DecodeConst: laid.
  DERIVED. THE GIVEN ROWS OF THIS SEAT. 11 by the template 'for every input the law returns true; each argument reads behind the call as it read before'; 0 by the template 'total and deterministic' (their statements: YtgehpjjpeddomaaGreatDoorTotals.lean).
  GIVEN WITH THE SEED: the statements are not yours to turn. If you find one false, say at which input.
  Laid BY PROGRAM, IN A SANDBOX (cutbox-rows.mjs): the forced cells as the released guide's own fill.sh prints them over the translation 258029fd8c9e84ab… (all of the seat's roots in one cut). By AI agents, Wed Nov 11 2026. No macro, syntax, notation, axiom, sorry.
-/
import Derived.Test.YtgehpjjpeddomaaGreatDoorChecked
import GoSem.Claim
import GoSem.ClaimJoined
import GoSem.ClaimMapViews
import Derived.JoinedTies
import Derived.KernelRfl
namespace Go.Proofs.YtgehpjjpeddomaaGreatDoor
/- THE CELL 'sum', in the pinned program and in every row, IS THE sha256 OF THE DUMP (.gsa) THAT YtgehpjjpeddomaaGreatDoorProg.lean LOADS. Nothing in Lean hashes anything: it is a label: what it is worth is what the hold of that sum in a sandbox is worth. -/
noncomputable def Tryz.pinned : Pinned := { name := "ytgehpjjpeddomaagreatdoor", sum := "258029fd8c9e84ab20a7c0cce2825ad3c02da8874971c62a729290b0f7991a1b", checked := Tryz.checked }
namespace Rows
def none {H : Type} : Left H := { results := [], args := [] }

/- WHAT THE LISTED PACKAGE-LEVEL VARIABLES READ AS WHEN THE CALL BEGINS. Each datum BY PROGRAM (the guide's laid-datum.mjs) off the statement by which the dump's own 'gosem.cut.vars' lays the variable. In a bare row this is a premise. The card (YtgehpjjpeddomaaGreatDoorCards.lean) ties it to the program's text. -/
def laid_unicode_White_Space {H : Type} : DataW H := .ptr (.agg [.slice [.agg [.lit (.int .u16 9), .lit (.int .u16 13), .lit (.int .u16 1)], .agg [.lit (.int .u16 32), .lit (.int .u16 133), .lit (.int .u16 101)], .agg [.lit (.int .u16 160), .lit (.int .u16 5760), .lit (.int .u16 5600)], .agg [.lit (.int .u16 8192), .lit (.int .u16 8202), .lit (.int .u16 1)], .agg [.lit (.int .u16 8232), .lit (.int .u16 8233), .lit (.int .u16 1)], .agg [.lit (.int .u16 8239), .lit (.int .u16 8287), .lit (.int .u16 48)], .agg [.lit (.int .u16 12288), .lit (.int .u16 12288), .lit (.int .u16 1)]] [], .nil, .lit (.int .i64 2)])
def laid_strings_asciiSpace {H : Type} : DataW H := .agg [.lit (.int .u8 0), .lit (.int .u8 0), .lit (.int .u8 0), .lit (.int .u8 0), .lit (.int .u8 0), .lit (.int .u8 0), .lit (.int .u8 0), .lit (.int .u8 0), .lit (.int .u8 0), .lit (.int .u8 1), .lit (.int .u8 1), .lit (.int .u8 1), .lit (.int .u8 1), .lit (.int .u8 1), .lit (.int .u8 0), .lit (.int .u8 0), .lit (.int .u8 0), .lit (.int .u8 0), .lit (.int .u8 0), .lit (.int .u8 0), .lit (.int .u8 0), .lit (.int .u8 0), .lit (.int .u8 0), .lit (.int .u8 0), .lit (.int .u8 0), .lit (.int .u8 0), .lit (.int .u8 0), .lit (.int .u8 0), .lit (.int .u8 0), .lit (.int .u8 0), .lit (.int .u8 0), .lit (.int .u8 0), .lit (.int .u8 1), .lit (.int .u8 0), .lit (.int .u8 0), .lit (.int .u8 0), .lit (.int .u8 0), .lit (.int .u8 0), .lit (.int .u8 0), .lit (.int .u8 0), .lit (.int .u8 0), .lit (.int .u8 0), .lit (.int .u8 0), .lit (.int .u8 0), .lit (.int .u8 0), .lit (.int .u8 0), .lit (.int .u8 0), .lit (.int .u8 0), .lit (.int .u8 0), .lit (.int .u8 0), .lit (.int .u8 0), .lit (.int .u8 0), .lit (.int .u8 0), .lit (.int .u8 0), .lit (.int .u8 0), .lit (.int .u8 0), .lit (.int .u8 0), .lit (.int .u8 0), .lit (.int .u8 0), .lit (.int .u8 0), .lit (.int .u8 0), .lit (.int .u8 0), .lit (.int .u8 0), .lit (.int .u8 0), .lit (.int .u8 0), .lit (.int .u8 0), .lit (.int .u8 0), .lit (.int .u8 0), .lit (.int .u8 0), .lit (.int .u8 0), .lit (.int .u8 0), .lit (.int .u8 0), .lit (.int .u8 0), .lit (.int .u8 0), .lit (.int .u8 0), .lit (.int .u8 0), .lit (.int .u8 0), .lit (.int .u8 0), .lit (.int .u8 0), .lit (.int .u8 0), .lit (.int .u8 0), .lit (.int .u8 0), .lit (.int .u8 0), .lit (.int .u8 0), .lit (.int .u8 0), .lit (.int .u8 0), .lit (.int .u8 0), .lit (.int .u8 0), .lit (.int .u8 0), .lit (.int .u8 0), .lit (.int .u8 0), .lit (.int .u8 0), .lit (.int .u8 0), .lit (.int .u8 0), .lit (.int .u8 0), .lit (.int .u8 0), .lit (.int .u8 0), .lit (.int .u8 0), .lit (.int .u8 0), .lit (.int .u8 0), .lit (.int .u8 0), .lit (.int .u8 0), .lit (.int .u8 0), .lit (.int .u8 0), .lit (.int .u8 0), .lit (.int .u8 0), .lit (.int .u8 0), .lit (.int .u8 0), .lit (.int .u8 0), .lit (.int .u8 0), .lit (.int .u8 0), .lit (.int .u8 0), .lit (.int .u8 0), .lit (.int .u8 0), .lit (.int .u8 0), .lit (.int .u8 0), .lit (.int .u8 0), .lit (.int .u8 0), .lit (.int .u8 0), .lit (.int .u8 0), .lit (.int .u8 0), .lit (.int .u8 0), .lit (.int .u8 0), .lit (.int .u8 0), .lit (.int .u8 0), .lit (.int .u8 0), .lit (.int .u8 0), .lit (.int .u8 0), .lit (.int .u8 0), .lit (.int .u8 0), .lit (.int .u8 0), .lit (.int .u8 0), .lit (.int .u8 0), .lit (.int .u8 0), .lit (.int .u8 0), .lit (.int .u8 0), .lit (.int .u8 0), .lit (.int .u8 0), .lit (.int .u8 0), .lit (.int .u8 0), .lit (.int .u8 0), .lit (.int .u8 0), .lit (.int .u8 0), .lit (.int .u8 0), .lit (.int .u8 0), .lit (.int .u8 0), .lit (.int .u8 0), .lit (.int .u8 0), .lit (.int .u8 0), .lit (.int .u8 0), .lit (.int .u8 0), .lit (.int .u8 0), .lit (.int .u8 0), .lit (.int .u8 0), .lit (.int .u8 0), .lit (.int .u8 0), .lit (.int .u8 0), .lit (.int .u8 0), .lit (.int .u8 0), .lit (.int .u8 0), .lit (.int .u8 0), .lit (.int .u8 0), .lit (.int .u8 0), .lit (.int .u8 0), .lit (.int .u8 0), .lit (.int .u8 0), .lit (.int .u8 0), .lit (.int .u8 0), .lit (.int .u8 0), .lit (.int .u8 0), .lit (.int .u8 0), .lit (.int .u8 0), .lit (.int .u8 0), .lit (.int .u8 0), .lit (.int .u8 0), .lit (.int .u8 0), .lit (.int .u8 0), .lit (.int .u8 0), .lit (.int .u8 0), .lit (.int .u8 0), .lit (.int .u8 0), .lit (.int .u8 0), .lit (.int .u8 0), .lit (.int .u8 0), .lit (.int .u8 0), .lit (.int .u8 0), .lit (.int .u8 0), .lit (.int .u8 0), .lit (.int .u8 0), .lit (.int .u8 0), .lit (.int .u8 0), .lit (.int .u8 0), .lit (.int .u8 0), .lit (.int .u8 0), .lit (.int .u8 0), .lit (.int .u8 0), .lit (.int .u8 0), .lit (.int .u8 0), .lit (.int .u8 0), .lit (.int .u8 0), .lit (.int .u8 0), .lit (.int .u8 0), .lit (.int .u8 0), .lit (.int .u8 0), .lit (.int .u8 0), .lit (.int .u8 0), .lit (.int .u8 0), .lit (.int .u8 0), .lit (.int .u8 0), .lit (.int .u8 0), .lit (.int .u8 0), .lit (.int .u8 0), .lit (.int .u8 0), .lit (.int .u8 0), .lit (.int .u8 0), .lit (.int .u8 0), .lit (.int .u8 0), .lit (.int .u8 0), .lit (.int .u8 0), .lit (.int .u8 0), .lit (.int .u8 0), .lit (.int .u8 0), .lit (.int .u8 0), .lit (.int .u8 0), .lit (.int .u8 0), .lit (.int .u8 0), .lit (.int .u8 0), .lit (.int .u8 0), .lit (.int .u8 0), .lit (.int .u8 0), .lit (.int .u8 0), .lit (.int .u8 0), .lit (.int .u8 0), .lit (.int .u8 0), .lit (.int .u8 0), .lit (.int .u8 0), .lit (.int .u8 0), .lit (.int .u8 0), .lit (.int .u8 0), .lit (.int .u8 0), .lit (.int .u8 0), .lit (.int .u8 0), .lit (.int .u8 0), .lit (.int .u8 0), .lit (.int .u8 0), .lit (.int .u8 0), .lit (.int .u8 0), .lit (.int .u8 0), .lit (.int .u8 0), .lit (.int .u8 0), .lit (.int .u8 0), .lit (.int .u8 0), .lit (.int .u8 0), .lit (.int .u8 0), .lit (.int .u8 0), .lit (.int .u8 0)]
def laid_bodkin_ops_more {H : Type} : DataW H := .agg [.lit (.string [105, 51, 50, 46, 116, 114, 117, 110, 99, 95, 115, 97, 116, 95, 102, 51, 50, 95, 115, 32, 48, 32, 102, 62, 105]), .lit (.string [105, 51, 50, 46, 116, 114, 117, 110, 99, 95, 115, 97, 116, 95, 102, 51, 50, 95, 117, 32, 48, 32, 102, 62, 105]), .lit (.string [105, 51, 50, 46, 116, 114, 117, 110, 99, 95, 115, 97, 116, 95, 102, 54, 52, 95, 115, 32, 48, 32, 100, 62, 105]), .lit (.string [105, 51, 50, 46, 116, 114, 117, 110, 99, 95, 115, 97, 116, 95, 102, 54, 52, 95, 117, 32, 48, 32, 100, 62, 105]), .lit (.string [105, 54, 52, 46, 116, 114, 117, 110, 99, 95, 115, 97, 116, 95, 102, 51, 50, 95, 115, 32, 48, 32, 102, 62, 108]), .lit (.string [105, 54, 52, 46, 116, 114, 117, 110, 99, 95, 115, 97, 116, 95, 102, 51, 50, 95, 117, 32, 48, 32, 102, 62, 108]), .lit (.string [105, 54, 52, 46, 116, 114, 117, 110, 99, 95, 115, 97, 116, 95, 102, 54, 52, 95, 115, 32, 48, 32, 100, 62, 108]), .lit (.string [105, 54, 52, 46, 116, 114, 117, 110, 99, 95, 115, 97, 116, 95, 102, 54, 52, 95, 117, 32, 48, 32, 100, 62, 108]), .lit (.string [109, 101, 109, 111, 114, 121, 46, 105, 110, 105, 116, 32, 49, 55, 32, 105, 105, 105, 62]), .lit (.string [100, 97, 116, 97, 46, 100, 114, 111, 112, 32, 49, 56, 32, 62]), .lit (.string [109, 101, 109, 111, 114, 121, 46, 99, 111, 112, 121, 32, 49, 57, 32, 105, 105, 105, 62]), .lit (.string [109, 101, 109, 111, 114, 121, 46, 102, 105, 108, 108, 32, 49, 49, 32, 105, 105, 105, 62]), .lit (.string [116, 97, 98, 108, 101, 46, 105, 110, 105, 116, 32, 50, 48, 32, 105, 105, 105, 62]), .lit (.string [101, 108, 101, 109, 46, 100, 114, 111, 112, 32, 50, 49, 32, 62]), .lit (.string [116, 97, 98, 108, 101, 46, 99, 111, 112, 121, 32, 50, 50, 32, 105, 105, 105, 62]), .lit (.string [116, 97, 98, 108, 101, 46, 103, 114, 111, 119, 32, 57, 32, 63]), .lit (.string [116, 97, 98, 108, 101, 46, 115, 105, 122, 101, 32, 57, 32, 62, 105]), .lit (.string [116, 97, 98, 108, 101, 46, 102, 105, 108, 108, 32, 57, 32, 63])]

/-- 'bodkinlaw10.EncodeModule': WHATEVER THE INPUT: true; the input reads as it did. -/
def encodeModuleSpec : ChangeSpec := { name := "encodeModule", fn := fun _ => fun
  | [d] => { results := [.lit (.bool true)], args := [d] }
  | _ => none }
def encodeModuleRow : OpenClaim := { program := "ytgehpjjpeddomaagreatdoor", sum := "258029fd8c9e84ab20a7c0cce2825ad3c02da8874971c62a729290b0f7991a1b", func := "bodkin/bodkinlaw10.EncodeModule", spec := "encodeModule", unfollowed := true, recurses := true, named := ["bodkin/ops.more", "strings.asciiSpace", "unicode.White_Space"], loops := true, apart := false, laid := [("unicode.White_Space", laid_unicode_White_Space), ("strings.asciiSpace", laid_strings_asciiSpace), ("bodkin/ops.more", laid_bodkin_ops_more)] }
def EncodeModuleSaid : Prop := encodeModuleRow.holds Tryz.pinned (OpenSpec.ofChange encodeModuleSpec)

/-- ITS FALSE NEIGHBOUR: 'it returns false'. Refute it at one input. -/
def encodeModuleWrong : ChangeSpec := { name := "encodeModule", fn := fun _ => fun
  | [d] => { results := [.lit (.bool false)], args := [d] }
  | _ => none }
def EncodeModuleWrongFalsely : Prop := encodeModuleRow.holds Tryz.pinned (OpenSpec.ofChange encodeModuleWrong)

/-- 'bodkinlaw10.EncodeCode': WHATEVER THE INPUT: true; the input reads as it did. -/
def encodeCodeSpec : ChangeSpec := { name := "encodeCode", fn := fun _ => fun
  | [d] => { results := [.lit (.bool true)], args := [d] }
  | _ => none }
def encodeCodeRow : OpenClaim := { program := "ytgehpjjpeddomaagreatdoor", sum := "258029fd8c9e84ab20a7c0cce2825ad3c02da8874971c62a729290b0f7991a1b", func := "bodkin/bodkinlaw10.EncodeCode", spec := "encodeCode", unfollowed := true, recurses := true, named := ["bodkin/ops.more", "strings.asciiSpace", "unicode.White_Space"], loops := true, apart := false, laid := [("unicode.White_Space", laid_unicode_White_Space), ("strings.asciiSpace", laid_strings_asciiSpace), ("bodkin/ops.more", laid_bodkin_ops_more)] }
def EncodeCodeSaid : Prop := encodeCodeRow.holds Tryz.pinned (OpenSpec.ofChange encodeCodeSpec)

/-- ITS FALSE NEIGHBOUR: 'it returns false'. Refute it at one input. -/
def encodeCodeWrong : ChangeSpec := { name := "encodeCode", fn := fun _ => fun
  | [d] => { results := [.lit (.bool false)], args := [d] }
  | _ => none }
def EncodeCodeWrongFalsely : Prop := encodeCodeRow.holds Tryz.pinned (OpenSpec.ofChange encodeCodeWrong)

/-- 'bodkinlaw10.EncodeApart': WHATEVER THE INPUT: true; the input reads as it did. -/
def encodeApartSpec : ChangeSpec := { name := "encodeApart", fn := fun _ => fun
  | [d1, d2] => { results := [.lit (.bool true)], args := [d1, d2] }
  | _ => none }
def encodeApartRow : OpenClaim := { program := "ytgehpjjpeddomaagreatdoor", sum := "258029fd8c9e84ab20a7c0cce2825ad3c02da8874971c62a729290b0f7991a1b", func := "bodkin/bodkinlaw10.EncodeApart", spec := "encodeApart", unfollowed := true, recurses := true, named := ["bodkin/ops.more", "strings.asciiSpace", "unicode.White_Space"], loops := true, apart := false, laid := [("unicode.White_Space", laid_unicode_White_Space), ("strings.asciiSpace", laid_strings_asciiSpace), ("bodkin/ops.more", laid_bodkin_ops_more)] }
def EncodeApartSaid : Prop := encodeApartRow.holds Tryz.pinned (OpenSpec.ofChange encodeApartSpec)

/-- ITS FALSE NEIGHBOUR: 'it returns false'. Refute it at one input. -/
def encodeApartWrong : ChangeSpec := { name := "encodeApart", fn := fun _ => fun
  | [d1, d2] => { results := [.lit (.bool false)], args := [d1, d2] }
  | _ => none }
def EncodeApartWrongFalsely : Prop := encodeApartRow.holds Tryz.pinned (OpenSpec.ofChange encodeApartWrong)

/-- 'bodkinlaw10.EncodeDeep': WHATEVER THE INPUT: true; the input reads as it did. -/
def encodeDeepSpec : ChangeSpec := { name := "encodeDeep", fn := fun _ => fun
  | [d1, d2] => { results := [.lit (.bool true)], args := [d1, d2] }
  | _ => none }
def encodeDeepRow : OpenClaim := { program := "ytgehpjjpeddomaagreatdoor", sum := "258029fd8c9e84ab20a7c0cce2825ad3c02da8874971c62a729290b0f7991a1b", func := "bodkin/bodkinlaw10.EncodeDeep", spec := "encodeDeep", unfollowed := true, recurses := true, named := ["bodkin/ops.more", "strings.asciiSpace", "unicode.White_Space"], apart := false, laid := [("unicode.White_Space", laid_unicode_White_Space), ("strings.asciiSpace", laid_strings_asciiSpace), ("bodkin/ops.more", laid_bodkin_ops_more)] }
def EncodeDeepSaid : Prop := encodeDeepRow.holds Tryz.pinned (OpenSpec.ofChange encodeDeepSpec)

/-- ITS FALSE NEIGHBOUR: 'it returns false'. Refute it at one input. -/
def encodeDeepWrong : ChangeSpec := { name := "encodeDeep", fn := fun _ => fun
  | [d1, d2] => { results := [.lit (.bool false)], args := [d1, d2] }
  | _ => none }
def EncodeDeepWrongFalsely : Prop := encodeDeepRow.holds Tryz.pinned (OpenSpec.ofChange encodeDeepWrong)

/-- 'bodkinlaw10.EncodeInstr': WHATEVER THE INPUT: true; the input reads as it did. -/
def encodeInstrSpec : ChangeSpec := { name := "encodeInstr", fn := fun _ => fun
  | [d] => { results := [.lit (.bool true)], args := [d] }
  | _ => none }
def encodeInstrRow : OpenClaim := { program := "ytgehpjjpeddomaagreatdoor", sum := "258029fd8c9e84ab20a7c0cce2825ad3c02da8874971c62a729290b0f7991a1b", func := "bodkin/bodkinlaw10.EncodeInstr", spec := "encodeInstr", unfollowed := true, recurses := true, named := ["bodkin/ops.more", "strings.asciiSpace", "unicode.White_Space"], loops := true, apart := false, laid := [("unicode.White_Space", laid_unicode_White_Space), ("strings.asciiSpace", laid_strings_asciiSpace), ("bodkin/ops.more", laid_bodkin_ops_more)] }
def EncodeInstrSaid : Prop := encodeInstrRow.holds Tryz.pinned (OpenSpec.ofChange encodeInstrSpec)

/-- ITS FALSE NEIGHBOUR: 'it returns false'. Refute it at one input. -/
def encodeInstrWrong : ChangeSpec := { name := "encodeInstr", fn := fun _ => fun
  | [d] => { results := [.lit (.bool false)], args := [d] }
  | _ => none }
def EncodeInstrWrongFalsely : Prop := encodeInstrRow.holds Tryz.pinned (OpenSpec.ofChange encodeInstrWrong)

/-- 'bodkinlaw10.EncodeParts': WHATEVER THE INPUT: true; the input reads as it did. -/
def encodePartsSpec : ChangeSpec := { name := "encodeParts", fn := fun _ => fun
  | [d1, d2, d3] => { results := [.lit (.bool true)], args := [d1, d2, d3] }
  | _ => none }
def encodePartsRow : OpenClaim := { program := "ytgehpjjpeddomaagreatdoor", sum := "258029fd8c9e84ab20a7c0cce2825ad3c02da8874971c62a729290b0f7991a1b", func := "bodkin/bodkinlaw10.EncodeParts", spec := "encodeParts", unfollowed := true, recurses := true, named := ["bodkin/ops.more", "strings.asciiSpace", "unicode.White_Space"], loops := true, apart := false, laid := [("unicode.White_Space", laid_unicode_White_Space), ("strings.asciiSpace", laid_strings_asciiSpace), ("bodkin/ops.more", laid_bodkin_ops_more)] }
def EncodePartsSaid : Prop := encodePartsRow.holds Tryz.pinned (OpenSpec.ofChange encodePartsSpec)

/-- ITS FALSE NEIGHBOUR: 'it returns false'. Refute it at one input. -/
def encodePartsWrong : ChangeSpec := { name := "encodeParts", fn := fun _ => fun
  | [d1, d2, d3] => { results := [.lit (.bool false)], args := [d1, d2, d3] }
  | _ => none }
def EncodePartsWrongFalsely : Prop := encodePartsRow.holds Tryz.pinned (OpenSpec.ofChange encodePartsWrong)

/-- 'bodkinlaw11.DecodeBack': WHATEVER THE INPUT: true; the input reads as it did. -/
def decodeBackSpec : ChangeSpec := { name := "decodeBack", fn := fun _ => fun
  | [d] => { results := [.lit (.bool true)], args := [d] }
  | _ => none }
def decodeBackRow : OpenClaim := { program := "ytgehpjjpeddomaagreatdoor", sum := "258029fd8c9e84ab20a7c0cce2825ad3c02da8874971c62a729290b0f7991a1b", func := "bodkin/bodkinlaw11.DecodeBack", spec := "decodeBack", unfollowed := true, recurses := true, named := ["bodkin/ops.more", "strings.asciiSpace", "unicode.White_Space"], loops := true, apart := false, laid := [("unicode.White_Space", laid_unicode_White_Space), ("strings.asciiSpace", laid_strings_asciiSpace), ("bodkin/ops.more", laid_bodkin_ops_more)] }
def DecodeBackSaid : Prop := decodeBackRow.holds Tryz.pinned (OpenSpec.ofChange decodeBackSpec)

/-- ITS FALSE NEIGHBOUR: 'it returns false'. Refute it at one input. -/
def decodeBackWrong : ChangeSpec := { name := "decodeBack", fn := fun _ => fun
  | [d] => { results := [.lit (.bool false)], args := [d] }
  | _ => none }
def DecodeBackWrongFalsely : Prop := decodeBackRow.holds Tryz.pinned (OpenSpec.ofChange decodeBackWrong)

/-- 'bodkinlaw11.DecodeAgain': WHATEVER THE INPUT: true; the input reads as it did. -/
def decodeAgainSpec : ChangeSpec := { name := "decodeAgain", fn := fun _ => fun
  | [d1, d2] => { results := [.lit (.bool true)], args := [d1, d2] }
  | _ => none }
def decodeAgainRow : OpenClaim := { program := "ytgehpjjpeddomaagreatdoor", sum := "258029fd8c9e84ab20a7c0cce2825ad3c02da8874971c62a729290b0f7991a1b", func := "bodkin/bodkinlaw11.DecodeAgain", spec := "decodeAgain", unfollowed := true, recurses := true, named := ["bodkin/ops.more", "strings.asciiSpace", "unicode.White_Space"], apart := false, laid := [("unicode.White_Space", laid_unicode_White_Space), ("strings.asciiSpace", laid_strings_asciiSpace), ("bodkin/ops.more", laid_bodkin_ops_more)] }
def DecodeAgainSaid : Prop := decodeAgainRow.holds Tryz.pinned (OpenSpec.ofChange decodeAgainSpec)

/-- ITS FALSE NEIGHBOUR: 'it returns false'. Refute it at one input. -/
def decodeAgainWrong : ChangeSpec := { name := "decodeAgain", fn := fun _ => fun
  | [d1, d2] => { results := [.lit (.bool false)], args := [d1, d2] }
  | _ => none }
def DecodeAgainWrongFalsely : Prop := decodeAgainRow.holds Tryz.pinned (OpenSpec.ofChange decodeAgainWrong)

/-- 'bodkinlaw11.DecodeDeep': WHATEVER THE INPUT: true; the input reads as it did. -/
def decodeDeepSpec : ChangeSpec := { name := "decodeDeep", fn := fun _ => fun
  | [d1, d2] => { results := [.lit (.bool true)], args := [d1, d2] }
  | _ => none }
def decodeDeepRow : OpenClaim := { program := "ytgehpjjpeddomaagreatdoor", sum := "258029fd8c9e84ab20a7c0cce2825ad3c02da8874971c62a729290b0f7991a1b", func := "bodkin/bodkinlaw11.DecodeDeep", spec := "decodeDeep", unfollowed := true, recurses := true, named := ["bodkin/ops.more", "strings.asciiSpace", "unicode.White_Space"], apart := false, laid := [("unicode.White_Space", laid_unicode_White_Space), ("strings.asciiSpace", laid_strings_asciiSpace), ("bodkin/ops.more", laid_bodkin_ops_more)] }
def DecodeDeepSaid : Prop := decodeDeepRow.holds Tryz.pinned (OpenSpec.ofChange decodeDeepSpec)

/-- ITS FALSE NEIGHBOUR: 'it returns false'. Refute it at one input. -/
def decodeDeepWrong : ChangeSpec := { name := "decodeDeep", fn := fun _ => fun
  | [d1, d2] => { results := [.lit (.bool false)], args := [d1, d2] }
  | _ => none }
def DecodeDeepWrongFalsely : Prop := decodeDeepRow.holds Tryz.pinned (OpenSpec.ofChange decodeDeepWrong)

/-- 'bodkinlaw11.DecodeInstr': WHATEVER THE INPUT: true; the input reads as it did. -/
def decodeInstrSpec : ChangeSpec := { name := "decodeInstr", fn := fun _ => fun
  | [d1, d2] => { results := [.lit (.bool true)], args := [d1, d2] }
  | _ => none }
def decodeInstrRow : OpenClaim := { program := "ytgehpjjpeddomaagreatdoor", sum := "258029fd8c9e84ab20a7c0cce2825ad3c02da8874971c62a729290b0f7991a1b", func := "bodkin/bodkinlaw11.DecodeInstr", spec := "decodeInstr", unfollowed := true, recurses := true, named := ["bodkin/ops.more", "strings.asciiSpace", "unicode.White_Space"], loops := true, apart := false, laid := [("unicode.White_Space", laid_unicode_White_Space), ("strings.asciiSpace", laid_strings_asciiSpace), ("bodkin/ops.more", laid_bodkin_ops_more)] }
def DecodeInstrSaid : Prop := decodeInstrRow.holds Tryz.pinned (OpenSpec.ofChange decodeInstrSpec)

/-- ITS FALSE NEIGHBOUR: 'it returns false'. Refute it at one input. -/
def decodeInstrWrong : ChangeSpec := { name := "decodeInstr", fn := fun _ => fun
  | [d1, d2] => { results := [.lit (.bool false)], args := [d1, d2] }
  | _ => none }
def DecodeInstrWrongFalsely : Prop := decodeInstrRow.holds Tryz.pinned (OpenSpec.ofChange decodeInstrWrong)

/-- 'bodkinlaw11.DecodeConst': WHATEVER THE INPUT: true; the input reads as it did. -/
def decodeConstSpec : ChangeSpec := { name := "decodeConst", fn := fun _ => fun
  | [d1, d2] => { results := [.lit (.bool true)], args := [d1, d2] }
  | _ => none }
def decodeConstRow : OpenClaim := { program := "ytgehpjjpeddomaagreatdoor", sum := "258029fd8c9e84ab20a7c0cce2825ad3c02da8874971c62a729290b0f7991a1b", func := "bodkin/bodkinlaw11.DecodeConst", spec := "decodeConst", unfollowed := true, recurses := true, named := ["bodkin/ops.more", "strings.asciiSpace", "unicode.White_Space"], apart := false, laid := [("unicode.White_Space", laid_unicode_White_Space), ("strings.asciiSpace", laid_strings_asciiSpace), ("bodkin/ops.more", laid_bodkin_ops_more)] }
def DecodeConstSaid : Prop := decodeConstRow.holds Tryz.pinned (OpenSpec.ofChange decodeConstSpec)

/-- ITS FALSE NEIGHBOUR: 'it returns false'. Refute it at one input. -/
def decodeConstWrong : ChangeSpec := { name := "decodeConst", fn := fun _ => fun
  | [d1, d2] => { results := [.lit (.bool false)], args := [d1, d2] }
  | _ => none }
def DecodeConstWrongFalsely : Prop := decodeConstRow.holds Tryz.pinned (OpenSpec.ofChange decodeConstWrong)

/- THE SECOND FORM. 'bulk': how many values and letters a reading holds, each counted each time it is reached (what is shared counts as often as it is met; a slice's spare places count too). A statement '..UptoSaid' is the law's where the arguments, and the package variables that the reading takes, are together of bulk at most 1048576: NARROWER than '..Said'. Prove '..Said' where nothing that the law and all that it calls make is longer than what came in: it says more and counts as full. Else prove '..UptoSaid'. A law counts once. -/
mutual
def uptoBulk {H : Type} : DataW H → Nat
  | .lit (.string bytes) => bytes.length + 1
  | .lit _ => 1
  | .nil => 1
  | .ptr d => uptoBulk d + 1
  | .slice elems spare => uptoBulkAll elems + uptoBulkAll spare + 1
  | .agg parts => uptoBulkAll parts + 1
  | .iface _ d => uptoBulk d + 1
  | .map entries => uptoBulkEntries entries + 1
  | .held _ => 1
def uptoBulkAll {H : Type} : List (DataW H) → Nat
  | [] => 0
  | d :: r => uptoBulk d + uptoBulkAll r
def uptoBulkEntries {H : Type} : List (Lit × DataW H) → Nat
  | [] => 0
  | x :: r => uptoBulkEntry x + uptoBulkEntries r
def uptoBulkEntry {H : Type} : Lit × DataW H → Nat
  | (.string bytes, d) => bytes.length + uptoBulk d + 1
  | (_, d) => uptoBulk d + 1
 end
def uptoSmall : (H : Type) → List (DataW H) → Bool := fun _ ds => decide (uptoBulkAll ds ≤ 1048576)
def OpenSpec.upto (s : _root_.Go.ChangeSpec) : _root_.Go.OpenSpec := { _root_.Go.OpenSpec.ofChange s with cond := some uptoSmall }

/-- 'bodkinlaw10.EncodeModule', WHERE WHAT IT READS IS OF BULK AT MOST 1048576: true; the input reads as it did. -/
def encodeModuleUptoRow : OpenClaim := { program := "ytgehpjjpeddomaagreatdoor", sum := "258029fd8c9e84ab20a7c0cce2825ad3c02da8874971c62a729290b0f7991a1b", func := "bodkin/bodkinlaw10.EncodeModule", spec := "encodeModule", unfollowed := true, recurses := true, named := ["bodkin/ops.more", "strings.asciiSpace", "unicode.White_Space"], loops := true, apart := false, laid := [("unicode.White_Space", laid_unicode_White_Space), ("strings.asciiSpace", laid_strings_asciiSpace), ("bodkin/ops.more", laid_bodkin_ops_more)], narrowed := true }
def EncodeModuleUptoSaid : Prop := encodeModuleUptoRow.holds Tryz.pinned (OpenSpec.upto encodeModuleSpec)

/-- 'bodkinlaw10.EncodeCode', WHERE WHAT IT READS IS OF BULK AT MOST 1048576: true; the input reads as it did. -/
def encodeCodeUptoRow : OpenClaim := { program := "ytgehpjjpeddomaagreatdoor", sum := "258029fd8c9e84ab20a7c0cce2825ad3c02da8874971c62a729290b0f7991a1b", func := "bodkin/bodkinlaw10.EncodeCode", spec := "encodeCode", unfollowed := true, recurses := true, named := ["bodkin/ops.more", "strings.asciiSpace", "unicode.White_Space"], loops := true, apart := false, laid := [("unicode.White_Space", laid_unicode_White_Space), ("strings.asciiSpace", laid_strings_asciiSpace), ("bodkin/ops.more", laid_bodkin_ops_more)], narrowed := true }
def EncodeCodeUptoSaid : Prop := encodeCodeUptoRow.holds Tryz.pinned (OpenSpec.upto encodeCodeSpec)

/-- 'bodkinlaw10.EncodeApart', WHERE WHAT IT READS IS OF BULK AT MOST 1048576: true; the input reads as it did. -/
def encodeApartUptoRow : OpenClaim := { program := "ytgehpjjpeddomaagreatdoor", sum := "258029fd8c9e84ab20a7c0cce2825ad3c02da8874971c62a729290b0f7991a1b", func := "bodkin/bodkinlaw10.EncodeApart", spec := "encodeApart", unfollowed := true, recurses := true, named := ["bodkin/ops.more", "strings.asciiSpace", "unicode.White_Space"], loops := true, apart := false, laid := [("unicode.White_Space", laid_unicode_White_Space), ("strings.asciiSpace", laid_strings_asciiSpace), ("bodkin/ops.more", laid_bodkin_ops_more)], narrowed := true }
def EncodeApartUptoSaid : Prop := encodeApartUptoRow.holds Tryz.pinned (OpenSpec.upto encodeApartSpec)

/-- 'bodkinlaw10.EncodeDeep', WHERE WHAT IT READS IS OF BULK AT MOST 1048576: true; the input reads as it did. -/
def encodeDeepUptoRow : OpenClaim := { program := "ytgehpjjpeddomaagreatdoor", sum := "258029fd8c9e84ab20a7c0cce2825ad3c02da8874971c62a729290b0f7991a1b", func := "bodkin/bodkinlaw10.EncodeDeep", spec := "encodeDeep", unfollowed := true, recurses := true, named := ["bodkin/ops.more", "strings.asciiSpace", "unicode.White_Space"], apart := false, laid := [("unicode.White_Space", laid_unicode_White_Space), ("strings.asciiSpace", laid_strings_asciiSpace), ("bodkin/ops.more", laid_bodkin_ops_more)], narrowed := true }
def EncodeDeepUptoSaid : Prop := encodeDeepUptoRow.holds Tryz.pinned (OpenSpec.upto encodeDeepSpec)

/-- 'bodkinlaw10.EncodeInstr', WHERE WHAT IT READS IS OF BULK AT MOST 1048576: true; the input reads as it did. -/
def encodeInstrUptoRow : OpenClaim := { program := "ytgehpjjpeddomaagreatdoor", sum := "258029fd8c9e84ab20a7c0cce2825ad3c02da8874971c62a729290b0f7991a1b", func := "bodkin/bodkinlaw10.EncodeInstr", spec := "encodeInstr", unfollowed := true, recurses := true, named := ["bodkin/ops.more", "strings.asciiSpace", "unicode.White_Space"], loops := true, apart := false, laid := [("unicode.White_Space", laid_unicode_White_Space), ("strings.asciiSpace", laid_strings_asciiSpace), ("bodkin/ops.more", laid_bodkin_ops_more)], narrowed := true }
def EncodeInstrUptoSaid : Prop := encodeInstrUptoRow.holds Tryz.pinned (OpenSpec.upto encodeInstrSpec)

/-- 'bodkinlaw10.EncodeParts', WHERE WHAT IT READS IS OF BULK AT MOST 1048576: true; the input reads as it did. -/
def encodePartsUptoRow : OpenClaim := { program := "ytgehpjjpeddomaagreatdoor", sum := "258029fd8c9e84ab20a7c0cce2825ad3c02da8874971c62a729290b0f7991a1b", func := "bodkin/bodkinlaw10.EncodeParts", spec := "encodeParts", unfollowed := true, recurses := true, named := ["bodkin/ops.more", "strings.asciiSpace", "unicode.White_Space"], loops := true, apart := false, laid := [("unicode.White_Space", laid_unicode_White_Space), ("strings.asciiSpace", laid_strings_asciiSpace), ("bodkin/ops.more", laid_bodkin_ops_more)], narrowed := true }
def EncodePartsUptoSaid : Prop := encodePartsUptoRow.holds Tryz.pinned (OpenSpec.upto encodePartsSpec)

/-- 'bodkinlaw11.DecodeBack', WHERE WHAT IT READS IS OF BULK AT MOST 1048576: true; the input reads as it did. -/
def decodeBackUptoRow : OpenClaim := { program := "ytgehpjjpeddomaagreatdoor", sum := "258029fd8c9e84ab20a7c0cce2825ad3c02da8874971c62a729290b0f7991a1b", func := "bodkin/bodkinlaw11.DecodeBack", spec := "decodeBack", unfollowed := true, recurses := true, named := ["bodkin/ops.more", "strings.asciiSpace", "unicode.White_Space"], loops := true, apart := false, laid := [("unicode.White_Space", laid_unicode_White_Space), ("strings.asciiSpace", laid_strings_asciiSpace), ("bodkin/ops.more", laid_bodkin_ops_more)], narrowed := true }
def DecodeBackUptoSaid : Prop := decodeBackUptoRow.holds Tryz.pinned (OpenSpec.upto decodeBackSpec)

/-- 'bodkinlaw11.DecodeAgain', WHERE WHAT IT READS IS OF BULK AT MOST 1048576: true; the input reads as it did. -/
def decodeAgainUptoRow : OpenClaim := { program := "ytgehpjjpeddomaagreatdoor", sum := "258029fd8c9e84ab20a7c0cce2825ad3c02da8874971c62a729290b0f7991a1b", func := "bodkin/bodkinlaw11.DecodeAgain", spec := "decodeAgain", unfollowed := true, recurses := true, named := ["bodkin/ops.more", "strings.asciiSpace", "unicode.White_Space"], apart := false, laid := [("unicode.White_Space", laid_unicode_White_Space), ("strings.asciiSpace", laid_strings_asciiSpace), ("bodkin/ops.more", laid_bodkin_ops_more)], narrowed := true }
def DecodeAgainUptoSaid : Prop := decodeAgainUptoRow.holds Tryz.pinned (OpenSpec.upto decodeAgainSpec)

/-- 'bodkinlaw11.DecodeDeep', WHERE WHAT IT READS IS OF BULK AT MOST 1048576: true; the input reads as it did. -/
def decodeDeepUptoRow : OpenClaim := { program := "ytgehpjjpeddomaagreatdoor", sum := "258029fd8c9e84ab20a7c0cce2825ad3c02da8874971c62a729290b0f7991a1b", func := "bodkin/bodkinlaw11.DecodeDeep", spec := "decodeDeep", unfollowed := true, recurses := true, named := ["bodkin/ops.more", "strings.asciiSpace", "unicode.White_Space"], apart := false, laid := [("unicode.White_Space", laid_unicode_White_Space), ("strings.asciiSpace", laid_strings_asciiSpace), ("bodkin/ops.more", laid_bodkin_ops_more)], narrowed := true }
def DecodeDeepUptoSaid : Prop := decodeDeepUptoRow.holds Tryz.pinned (OpenSpec.upto decodeDeepSpec)

/-- 'bodkinlaw11.DecodeInstr', WHERE WHAT IT READS IS OF BULK AT MOST 1048576: true; the input reads as it did. -/
def decodeInstrUptoRow : OpenClaim := { program := "ytgehpjjpeddomaagreatdoor", sum := "258029fd8c9e84ab20a7c0cce2825ad3c02da8874971c62a729290b0f7991a1b", func := "bodkin/bodkinlaw11.DecodeInstr", spec := "decodeInstr", unfollowed := true, recurses := true, named := ["bodkin/ops.more", "strings.asciiSpace", "unicode.White_Space"], loops := true, apart := false, laid := [("unicode.White_Space", laid_unicode_White_Space), ("strings.asciiSpace", laid_strings_asciiSpace), ("bodkin/ops.more", laid_bodkin_ops_more)], narrowed := true }
def DecodeInstrUptoSaid : Prop := decodeInstrUptoRow.holds Tryz.pinned (OpenSpec.upto decodeInstrSpec)

/-- 'bodkinlaw11.DecodeConst', WHERE WHAT IT READS IS OF BULK AT MOST 1048576: true; the input reads as it did. -/
def decodeConstUptoRow : OpenClaim := { program := "ytgehpjjpeddomaagreatdoor", sum := "258029fd8c9e84ab20a7c0cce2825ad3c02da8874971c62a729290b0f7991a1b", func := "bodkin/bodkinlaw11.DecodeConst", spec := "decodeConst", unfollowed := true, recurses := true, named := ["bodkin/ops.more", "strings.asciiSpace", "unicode.White_Space"], apart := false, laid := [("unicode.White_Space", laid_unicode_White_Space), ("strings.asciiSpace", laid_strings_asciiSpace), ("bodkin/ops.more", laid_bodkin_ops_more)], narrowed := true }
def DecodeConstUptoSaid : Prop := decodeConstUptoRow.holds Tryz.pinned (OpenSpec.upto decodeConstSpec)

end Rows
end Go.Proofs.YtgehpjjpeddomaaGreatDoor
