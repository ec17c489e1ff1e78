/-
  NARROWER THAN 'FOR EVERY INPUT', by the rows' own cells (each row's printed sentence says how): IsaWrites: laid · IsaTexts: laid · IsaNear: laid · WindowRefuses: laid · IrParts: laid · ImageWrites: laid.
  DERIVED. THE GIVEN ROWS OF THIS SEAT. 6 by the template 'for every input the law returns true; each argument reads behind the call as it read before'; 0 by the template 'total and deterministic' (their statements: YtpbffmkdchiajaaDoorTotals.lean).
  GIVEN WITH THE SEED: the statements are not yours to turn. If you find one false, say at which input.
  Laid BY PROGRAM, IN A SANDBOX (cutbox-rows.mjs): the forced cells as the released guide's own fill.sh prints them over the translation 7b2502e25fc67b2d… (all of the seat's roots in one cut). By AI agents, Wed Nov 11 2026. No macro, syntax, notation, axiom, sorry.
-/
import Derived.Test.YtpbffmkdchiajaaDoorChecked
import GoSem.PinnedTables
import GoSem.Claim
import GoSem.ClaimJoined
import GoSem.ClaimMapViews
import Derived.JoinedTies
import Derived.KernelRfl
namespace Go.Proofs.YtpbffmkdchiajaaDoor
/- THE CELL 'sum', in the pinned program and in every row, IS THE sha256 OF THE DUMP (.gsa) THAT YtpbffmkdchiajaaDoorProg.lean LOADS. Nothing in Lean hashes anything: it is a label: what it is worth is what the hold of that sum in a sandbox is worth. -/
noncomputable def Tryd.pinned : Pinned := { name := "ytpbffmkdchiajaadoor", sum := "7b2502e25fc67b2de9923af2006c82fd601013198d7e75771435b475e52cedb8", checked := Tryd.checked }
namespace Rows
def none {H : Type} : Left H := { results := [], args := [] }

/- WHAT THE LISTED PACKAGE-LEVEL VARIABLES READ AS WHEN THE CALL BEGINS. Each datum BY PROGRAM (the guide's laid-datum.mjs) off the statement by which the dump's own 'gosem.cut.vars' lays the variable. In a bare row this is a premise. The card (YtpbffmkdchiajaaDoorCards.lean) ties it to the program's text. -/
def laid_math_bits_deBruijn32tab {H : Type} : DataW H := .agg [.lit (.int .u8 0), .lit (.int .u8 1), .lit (.int .u8 28), .lit (.int .u8 2), .lit (.int .u8 29), .lit (.int .u8 14), .lit (.int .u8 24), .lit (.int .u8 3), .lit (.int .u8 30), .lit (.int .u8 22), .lit (.int .u8 20), .lit (.int .u8 15), .lit (.int .u8 25), .lit (.int .u8 17), .lit (.int .u8 4), .lit (.int .u8 8), .lit (.int .u8 31), .lit (.int .u8 27), .lit (.int .u8 13), .lit (.int .u8 23), .lit (.int .u8 21), .lit (.int .u8 19), .lit (.int .u8 16), .lit (.int .u8 7), .lit (.int .u8 26), .lit (.int .u8 12), .lit (.int .u8 18), .lit (.int .u8 6), .lit (.int .u8 11), .lit (.int .u8 5), .lit (.int .u8 10), .lit (.int .u8 9)]
def laid_math_bits_deBruijn64tab {H : Type} : DataW H := .agg [.lit (.int .u8 0), .lit (.int .u8 1), .lit (.int .u8 56), .lit (.int .u8 2), .lit (.int .u8 57), .lit (.int .u8 49), .lit (.int .u8 28), .lit (.int .u8 3), .lit (.int .u8 61), .lit (.int .u8 58), .lit (.int .u8 42), .lit (.int .u8 50), .lit (.int .u8 38), .lit (.int .u8 29), .lit (.int .u8 17), .lit (.int .u8 4), .lit (.int .u8 62), .lit (.int .u8 47), .lit (.int .u8 59), .lit (.int .u8 36), .lit (.int .u8 45), .lit (.int .u8 43), .lit (.int .u8 51), .lit (.int .u8 22), .lit (.int .u8 53), .lit (.int .u8 39), .lit (.int .u8 33), .lit (.int .u8 30), .lit (.int .u8 24), .lit (.int .u8 18), .lit (.int .u8 12), .lit (.int .u8 5), .lit (.int .u8 63), .lit (.int .u8 55), .lit (.int .u8 48), .lit (.int .u8 27), .lit (.int .u8 60), .lit (.int .u8 41), .lit (.int .u8 37), .lit (.int .u8 16), .lit (.int .u8 46), .lit (.int .u8 35), .lit (.int .u8 44), .lit (.int .u8 21), .lit (.int .u8 52), .lit (.int .u8 32), .lit (.int .u8 23), .lit (.int .u8 11), .lit (.int .u8 54), .lit (.int .u8 26), .lit (.int .u8 40), .lit (.int .u8 15), .lit (.int .u8 34), .lit (.int .u8 20), .lit (.int .u8 31), .lit (.int .u8 10), .lit (.int .u8 25), .lit (.int .u8 14), .lit (.int .u8 19), .lit (.int .u8 9), .lit (.int .u8 13), .lit (.int .u8 8), .lit (.int .u8 7), .lit (.int .u8 6)]
def laid_internal_strconv_uint64pow10 {H : Type} : DataW H := .agg [.lit (.int .u64 1), .lit (.int .u64 10), .lit (.int .u64 100), .lit (.int .u64 1000), .lit (.int .u64 10000), .lit (.int .u64 100000), .lit (.int .u64 1000000), .lit (.int .u64 10000000), .lit (.int .u64 100000000), .lit (.int .u64 1000000000), .lit (.int .u64 10000000000), .lit (.int .u64 100000000000), .lit (.int .u64 1000000000000), .lit (.int .u64 10000000000000), .lit (.int .u64 100000000000000), .lit (.int .u64 1000000000000000), .lit (.int .u64 10000000000000000), .lit (.int .u64 100000000000000000), .lit (.int .u64 1000000000000000000), .lit (.int .u64 10000000000000000000)]
def laid_unicode_utf8_acceptRanges {H : Type} : DataW H := .agg [.agg [.lit (.int .u8 128), .lit (.int .u8 191)], .agg [.lit (.int .u8 160), .lit (.int .u8 191)], .agg [.lit (.int .u8 128), .lit (.int .u8 159)], .agg [.lit (.int .u8 144), .lit (.int .u8 191)], .agg [.lit (.int .u8 128), .lit (.int .u8 143)], .agg [.lit (.int .u8 0), .lit (.int .u8 0)], .agg [.lit (.int .u8 0), .lit (.int .u8 0)], .agg [.lit (.int .u8 0), .lit (.int .u8 0)], .agg [.lit (.int .u8 0), .lit (.int .u8 0)], .agg [.lit (.int .u8 0), .lit (.int .u8 0)], .agg [.lit (.int .u8 0), .lit (.int .u8 0)], .agg [.lit (.int .u8 0), .lit (.int .u8 0)], .agg [.lit (.int .u8 0), .lit (.int .u8 0)], .agg [.lit (.int .u8 0), .lit (.int .u8 0)], .agg [.lit (.int .u8 0), .lit (.int .u8 0)], .agg [.lit (.int .u8 0), .lit (.int .u8 0)]]
def laid_unicode_White_Space {H : Type} : DataW H := .ptr (.agg [.slice [.agg [.lit (.int .u16 9), .lit (.int .u16 13), .lit (.int .u16 1)], .agg [.lit (.int .u16 32), .lit (.int .u16 133), .lit (.int .u16 101)], .agg [.lit (.int .u16 160), .lit (.int .u16 5760), .lit (.int .u16 5600)], .agg [.lit (.int .u16 8192), .lit (.int .u16 8202), .lit (.int .u16 1)], .agg [.lit (.int .u16 8232), .lit (.int .u16 8233), .lit (.int .u16 1)], .agg [.lit (.int .u16 8239), .lit (.int .u16 8287), .lit (.int .u16 48)], .agg [.lit (.int .u16 12288), .lit (.int .u16 12288), .lit (.int .u16 1)]] [], .nil, .lit (.int .i64 2)])
def laid_strings_asciiSpace {H : Type} : DataW H := .agg [.lit (.int .u8 0), .lit (.int .u8 0), .lit (.int .u8 0), .lit (.int .u8 0), .lit (.int .u8 0), .lit (.int .u8 0), .lit (.int .u8 0), .lit (.int .u8 0), .lit (.int .u8 0), .lit (.int .u8 1), .lit (.int .u8 1), .lit (.int .u8 1), .lit (.int .u8 1), .lit (.int .u8 1), .lit (.int .u8 0), .lit (.int .u8 0), .lit (.int .u8 0), .lit (.int .u8 0), .lit (.int .u8 0), .lit (.int .u8 0), .lit (.int .u8 0), .lit (.int .u8 0), .lit (.int .u8 0), .lit (.int .u8 0), .lit (.int .u8 0), .lit (.int .u8 0), .lit (.int .u8 0), .lit (.int .u8 0), .lit (.int .u8 0), .lit (.int .u8 0), .lit (.int .u8 0), .lit (.int .u8 0), .lit (.int .u8 1), .lit (.int .u8 0), .lit (.int .u8 0), .lit (.int .u8 0), .lit (.int .u8 0), .lit (.int .u8 0), .lit (.int .u8 0), .lit (.int .u8 0), .lit (.int .u8 0), .lit (.int .u8 0), .lit (.int .u8 0), .lit (.int .u8 0), .lit (.int .u8 0), .lit (.int .u8 0), .lit (.int .u8 0), .lit (.int .u8 0), .lit (.int .u8 0), .lit (.int .u8 0), .lit (.int .u8 0), .lit (.int .u8 0), .lit (.int .u8 0), .lit (.int .u8 0), .lit (.int .u8 0), .lit (.int .u8 0), .lit (.int .u8 0), .lit (.int .u8 0), .lit (.int .u8 0), .lit (.int .u8 0), .lit (.int .u8 0), .lit (.int .u8 0), .lit (.int .u8 0), .lit (.int .u8 0), .lit (.int .u8 0), .lit (.int .u8 0), .lit (.int .u8 0), .lit (.int .u8 0), .lit (.int .u8 0), .lit (.int .u8 0), .lit (.int .u8 0), .lit (.int .u8 0), .lit (.int .u8 0), .lit (.int .u8 0), .lit (.int .u8 0), .lit (.int .u8 0), .lit (.int .u8 0), .lit (.int .u8 0), .lit (.int .u8 0), .lit (.int .u8 0), .lit (.int .u8 0), .lit (.int .u8 0), .lit (.int .u8 0), .lit (.int .u8 0), .lit (.int .u8 0), .lit (.int .u8 0), .lit (.int .u8 0), .lit (.int .u8 0), .lit (.int .u8 0), .lit (.int .u8 0), .lit (.int .u8 0), .lit (.int .u8 0), .lit (.int .u8 0), .lit (.int .u8 0), .lit (.int .u8 0), .lit (.int .u8 0), .lit (.int .u8 0), .lit (.int .u8 0), .lit (.int .u8 0), .lit (.int .u8 0), .lit (.int .u8 0), .lit (.int .u8 0), .lit (.int .u8 0), .lit (.int .u8 0), .lit (.int .u8 0), .lit (.int .u8 0), .lit (.int .u8 0), .lit (.int .u8 0), .lit (.int .u8 0), .lit (.int .u8 0), .lit (.int .u8 0), .lit (.int .u8 0), .lit (.int .u8 0), .lit (.int .u8 0), .lit (.int .u8 0), .lit (.int .u8 0), .lit (.int .u8 0), .lit (.int .u8 0), .lit (.int .u8 0), .lit (.int .u8 0), .lit (.int .u8 0), .lit (.int .u8 0), .lit (.int .u8 0), .lit (.int .u8 0), .lit (.int .u8 0), .lit (.int .u8 0), .lit (.int .u8 0), .lit (.int .u8 0), .lit (.int .u8 0), .lit (.int .u8 0), .lit (.int .u8 0), .lit (.int .u8 0), .lit (.int .u8 0), .lit (.int .u8 0), .lit (.int .u8 0), .lit (.int .u8 0), .lit (.int .u8 0), .lit (.int .u8 0), .lit (.int .u8 0), .lit (.int .u8 0), .lit (.int .u8 0), .lit (.int .u8 0), .lit (.int .u8 0), .lit (.int .u8 0), .lit (.int .u8 0), .lit (.int .u8 0), .lit (.int .u8 0), .lit (.int .u8 0), .lit (.int .u8 0), .lit (.int .u8 0), .lit (.int .u8 0), .lit (.int .u8 0), .lit (.int .u8 0), .lit (.int .u8 0), .lit (.int .u8 0), .lit (.int .u8 0), .lit (.int .u8 0), .lit (.int .u8 0), .lit (.int .u8 0), .lit (.int .u8 0), .lit (.int .u8 0), .lit (.int .u8 0), .lit (.int .u8 0), .lit (.int .u8 0), .lit (.int .u8 0), .lit (.int .u8 0), .lit (.int .u8 0), .lit (.int .u8 0), .lit (.int .u8 0), .lit (.int .u8 0), .lit (.int .u8 0), .lit (.int .u8 0), .lit (.int .u8 0), .lit (.int .u8 0), .lit (.int .u8 0), .lit (.int .u8 0), .lit (.int .u8 0), .lit (.int .u8 0), .lit (.int .u8 0), .lit (.int .u8 0), .lit (.int .u8 0), .lit (.int .u8 0), .lit (.int .u8 0), .lit (.int .u8 0), .lit (.int .u8 0), .lit (.int .u8 0), .lit (.int .u8 0), .lit (.int .u8 0), .lit (.int .u8 0), .lit (.int .u8 0), .lit (.int .u8 0), .lit (.int .u8 0), .lit (.int .u8 0), .lit (.int .u8 0), .lit (.int .u8 0), .lit (.int .u8 0), .lit (.int .u8 0), .lit (.int .u8 0), .lit (.int .u8 0), .lit (.int .u8 0), .lit (.int .u8 0), .lit (.int .u8 0), .lit (.int .u8 0), .lit (.int .u8 0), .lit (.int .u8 0), .lit (.int .u8 0), .lit (.int .u8 0), .lit (.int .u8 0), .lit (.int .u8 0), .lit (.int .u8 0), .lit (.int .u8 0), .lit (.int .u8 0), .lit (.int .u8 0), .lit (.int .u8 0), .lit (.int .u8 0), .lit (.int .u8 0), .lit (.int .u8 0), .lit (.int .u8 0), .lit (.int .u8 0), .lit (.int .u8 0), .lit (.int .u8 0), .lit (.int .u8 0), .lit (.int .u8 0), .lit (.int .u8 0), .lit (.int .u8 0), .lit (.int .u8 0), .lit (.int .u8 0), .lit (.int .u8 0), .lit (.int .u8 0), .lit (.int .u8 0), .lit (.int .u8 0), .lit (.int .u8 0), .lit (.int .u8 0), .lit (.int .u8 0), .lit (.int .u8 0), .lit (.int .u8 0), .lit (.int .u8 0), .lit (.int .u8 0), .lit (.int .u8 0), .lit (.int .u8 0), .lit (.int .u8 0), .lit (.int .u8 0), .lit (.int .u8 0), .lit (.int .u8 0), .lit (.int .u8 0), .lit (.int .u8 0), .lit (.int .u8 0), .lit (.int .u8 0), .lit (.int .u8 0), .lit (.int .u8 0), .lit (.int .u8 0), .lit (.int .u8 0), .lit (.int .u8 0), .lit (.int .u8 0), .lit (.int .u8 0), .lit (.int .u8 0)]
def laid_tourbillon_isa_shapes {H : Type} : DataW H := .agg [.agg [.lit (.string []), .lit (.string []), .lit (.int .u32 0)], .agg [.lit (.string [108, 100]), .lit (.string [100, 97, 109]), .lit (.int .u32 3892314112)], .agg [.lit (.string [115, 116, 100]), .lit (.string [100, 97, 109]), .lit (.int .u32 4160749568)], .agg [.lit (.string [97, 100, 100, 105]), .lit (.string [100, 97, 105]), .lit (.int .u32 939524096)], .agg [.lit (.string [97, 100, 100]), .lit (.string [100, 97, 98]), .lit (.int .u32 2080375316)], .agg [.lit (.string [115, 117, 98, 102]), .lit (.string [100, 97, 98]), .lit (.int .u32 2080374864)], .agg [.lit (.string [109, 117, 108, 108, 100]), .lit (.string [100, 97, 98]), .lit (.int .u32 2080375250)], .agg [.lit (.string [100, 105, 118, 100]), .lit (.string [100, 97, 98]), .lit (.int .u32 2080375762)], .agg [.lit (.string [99, 109, 112, 100]), .lit (.string [97, 98]), .lit (.int .u32 2082471936)], .agg [.lit (.string [99, 109, 112, 100, 105]), .lit (.string [97, 105]), .lit (.int .u32 740294656)], .agg [.lit (.string [98, 99]), .lit (.string [99, 111]), .lit (.int .u32 1073741824)], .agg [.lit (.string [98]), .lit (.string [108]), .lit (.int .u32 1207959552)], .agg [.lit (.string [98, 108]), .lit (.string [108]), .lit (.int .u32 1207959553)], .agg [.lit (.string [98, 108, 114]), .lit (.string []), .lit (.int .u32 1317011488)], .agg [.lit (.string [109, 102, 108, 114]), .lit (.string [100]), .lit (.int .u32 2080899750)], .agg [.lit (.string [109, 116, 108, 114]), .lit (.string [100]), .lit (.int .u32 2080900006)], .agg [.lit (.string [108, 100, 97, 114, 120]), .lit (.string [100, 97, 98]), .lit (.int .u32 2080374952)], .agg [.lit (.string [115, 116, 100, 99, 120, 46]), .lit (.string [100, 97, 98]), .lit (.int .u32 2080375213)], .agg [.lit (.string [115, 121, 110, 99]), .lit (.string []), .lit (.int .u32 2080375980)], .agg [.lit (.string [108, 119, 115, 121, 110, 99]), .lit (.string []), .lit (.int .u32 2082473132)], .agg [.lit (.string [105, 115, 121, 110, 99]), .lit (.string []), .lit (.int .u32 1275068716)], .agg [.lit (.string [116, 114, 97, 112]), .lit (.string [105]), .lit (.int .u32 266338304)], .agg [.lit (.string [111, 117, 116]), .lit (.string [100]), .lit (.int .u32 1140850690)]]
/-- One of Go's own tables, pinned by name: the form's constant. -/
def laid_unicode_utf8_first : DataW Unit := Go.Pinned.utf8First
def laid_tourbillon_ir_names {H : Type} : DataW H := .agg [.lit (.string []), .lit (.string [99, 111, 110, 115, 116]), .lit (.string [109, 111, 118, 101]), .lit (.string [97, 100, 100]), .lit (.string [115, 117, 98]), .lit (.string [109, 117, 108]), .lit (.string [100, 105, 118]), .lit (.string [108, 101, 115, 115]), .lit (.string [101, 113, 117, 97, 108]), .lit (.string [108, 111, 97, 100]), .lit (.string [115, 116, 111, 114, 101]), .lit (.string [108, 97, 98, 101, 108]), .lit (.string [106, 117, 109, 112]), .lit (.string [122, 101, 114, 111]), .lit (.string [99, 97, 108, 108]), .lit (.string [114, 101, 116]), .lit (.string [116, 114, 97, 112]), .lit (.string [97, 108, 108, 111, 99]), .lit (.string [101, 110, 116, 101, 114]), .lit (.string [101, 120, 105, 116]), .lit (.string [111, 117, 116]), .lit (.string [102, 101, 110, 99, 101]), .lit (.string [102, 114, 101, 101, 122, 101])]
def laid_tourbillon_image_roles {H : Type} : DataW H := .agg [.lit (.string []), .lit (.string [115, 116, 97, 99, 107]), .lit (.string [97, 99, 99, 101, 115, 115]), .lit (.string [116, 97, 107, 101]), .lit (.string [112, 117, 116]), .lit (.string [104, 101, 108, 100]), .lit (.string [108, 101, 102, 116])]

/-- 'tourbillonlaw02.IsaWrites': WHATEVER THE INPUT: true; the input reads as it did. -/
def isaWritesSpec : ChangeSpec := { name := "isaWrites", fn := fun _ => fun
  | [d] => { results := [.lit (.bool true)], args := [d] }
  | _ => none }
def isaWritesRow : OpenClaim := { program := "ytpbffmkdchiajaadoor", sum := "7b2502e25fc67b2de9923af2006c82fd601013198d7e75771435b475e52cedb8", func := "tourbillon/tourbillonlaw02.IsaWrites", spec := "isaWrites", inPlace := ["internal/abi.NoEscape", "internal/bytealg.MakeNoZero"], unfollowed := true, recurses := true, named := ["tourbillon/isa.shapes", "internal/strconv.uint64pow10", "math/bits.deBruijn32tab", "math/bits.deBruijn64tab", "strings.asciiSpace", "unicode/utf8.first", "unicode/utf8.acceptRanges", "unicode.White_Space"], apart := false, laid := [("math/bits.deBruijn32tab", laid_math_bits_deBruijn32tab), ("math/bits.deBruijn64tab", laid_math_bits_deBruijn64tab), ("internal/strconv.uint64pow10", laid_internal_strconv_uint64pow10), ("unicode/utf8.acceptRanges", laid_unicode_utf8_acceptRanges), ("unicode.White_Space", laid_unicode_White_Space), ("strings.asciiSpace", laid_strings_asciiSpace), ("tourbillon/isa.shapes", laid_tourbillon_isa_shapes), ("unicode/utf8.first", laid_unicode_utf8_first)] }
def IsaWritesSaid : Prop := isaWritesRow.holds Tryd.pinned (OpenSpec.ofChange isaWritesSpec)

/-- ITS FALSE NEIGHBOUR: 'it returns false'. Refute it at one input. -/
def isaWritesWrong : ChangeSpec := { name := "isaWrites", fn := fun _ => fun
  | [d] => { results := [.lit (.bool false)], args := [d] }
  | _ => none }
def IsaWritesWrongFalsely : Prop := isaWritesRow.holds Tryd.pinned (OpenSpec.ofChange isaWritesWrong)

/-- 'tourbillonlaw02.IsaTexts': WHATEVER THE INPUT: true; the input reads as it did. -/
def isaTextsSpec : ChangeSpec := { name := "isaTexts", fn := fun _ => fun
  | [d1, d2] => { results := [.lit (.bool true)], args := [d1, d2] }
  | _ => none }
def isaTextsRow : OpenClaim := { program := "ytpbffmkdchiajaadoor", sum := "7b2502e25fc67b2de9923af2006c82fd601013198d7e75771435b475e52cedb8", func := "tourbillon/tourbillonlaw02.IsaTexts", spec := "isaTexts", inPlace := ["internal/abi.NoEscape", "internal/bytealg.MakeNoZero"], unfollowed := true, recurses := true, named := ["tourbillon/isa.shapes", "internal/strconv.uint64pow10", "math/bits.deBruijn32tab", "math/bits.deBruijn64tab", "strings.asciiSpace", "unicode/utf8.first", "unicode/utf8.acceptRanges", "unicode.White_Space"], apart := false, laid := [("math/bits.deBruijn32tab", laid_math_bits_deBruijn32tab), ("math/bits.deBruijn64tab", laid_math_bits_deBruijn64tab), ("internal/strconv.uint64pow10", laid_internal_strconv_uint64pow10), ("unicode/utf8.acceptRanges", laid_unicode_utf8_acceptRanges), ("unicode.White_Space", laid_unicode_White_Space), ("strings.asciiSpace", laid_strings_asciiSpace), ("tourbillon/isa.shapes", laid_tourbillon_isa_shapes), ("unicode/utf8.first", laid_unicode_utf8_first)] }
def IsaTextsSaid : Prop := isaTextsRow.holds Tryd.pinned (OpenSpec.ofChange isaTextsSpec)

/-- ITS FALSE NEIGHBOUR: 'it returns false'. Refute it at one input. -/
def isaTextsWrong : ChangeSpec := { name := "isaTexts", fn := fun _ => fun
  | [d1, d2] => { results := [.lit (.bool false)], args := [d1, d2] }
  | _ => none }
def IsaTextsWrongFalsely : Prop := isaTextsRow.holds Tryd.pinned (OpenSpec.ofChange isaTextsWrong)

/-- 'tourbillonlaw02.IsaNear': WHATEVER THE INPUT: true; the input reads as it did. -/
def isaNearSpec : ChangeSpec := { name := "isaNear", fn := fun _ => fun
  | [d1, d2] => { results := [.lit (.bool true)], args := [d1, d2] }
  | _ => none }
def isaNearRow : OpenClaim := { program := "ytpbffmkdchiajaadoor", sum := "7b2502e25fc67b2de9923af2006c82fd601013198d7e75771435b475e52cedb8", func := "tourbillon/tourbillonlaw02.IsaNear", spec := "isaNear", inPlace := ["internal/abi.NoEscape", "internal/bytealg.MakeNoZero"], unfollowed := true, recurses := true, named := ["tourbillon/isa.shapes", "internal/strconv.uint64pow10", "math/bits.deBruijn32tab", "math/bits.deBruijn64tab", "strings.asciiSpace", "unicode/utf8.first", "unicode/utf8.acceptRanges", "unicode.White_Space"], apart := false, laid := [("math/bits.deBruijn32tab", laid_math_bits_deBruijn32tab), ("math/bits.deBruijn64tab", laid_math_bits_deBruijn64tab), ("internal/strconv.uint64pow10", laid_internal_strconv_uint64pow10), ("unicode/utf8.acceptRanges", laid_unicode_utf8_acceptRanges), ("unicode.White_Space", laid_unicode_White_Space), ("strings.asciiSpace", laid_strings_asciiSpace), ("tourbillon/isa.shapes", laid_tourbillon_isa_shapes), ("unicode/utf8.first", laid_unicode_utf8_first)] }
def IsaNearSaid : Prop := isaNearRow.holds Tryd.pinned (OpenSpec.ofChange isaNearSpec)

/-- ITS FALSE NEIGHBOUR: 'it returns false'. Refute it at one input. -/
def isaNearWrong : ChangeSpec := { name := "isaNear", fn := fun _ => fun
  | [d1, d2] => { results := [.lit (.bool false)], args := [d1, d2] }
  | _ => none }
def IsaNearWrongFalsely : Prop := isaNearRow.holds Tryd.pinned (OpenSpec.ofChange isaNearWrong)

/-- 'tourbillonlaw17.WindowRefuses': WHATEVER THE INPUT: true; the input reads as it did. -/
def windowRefusesSpec : ChangeSpec := { name := "windowRefuses", fn := fun _ => fun
  | [d1, d2, d3, d4] => { results := [.lit (.bool true)], args := [d1, d2, d3, d4] }
  | _ => none }
def windowRefusesRow : OpenClaim := { program := "ytpbffmkdchiajaadoor", sum := "7b2502e25fc67b2de9923af2006c82fd601013198d7e75771435b475e52cedb8", func := "tourbillon/tourbillonlaw17.WindowRefuses", spec := "windowRefuses", unfollowed := true, recurses := true, named := ["tourbillon/isa.shapes"], apart := false, laid := [("tourbillon/isa.shapes", laid_tourbillon_isa_shapes)] }
def WindowRefusesSaid : Prop := windowRefusesRow.holds Tryd.pinned (OpenSpec.ofChange windowRefusesSpec)

/-- ITS FALSE NEIGHBOUR: 'it returns false'. Refute it at one input. -/
def windowRefusesWrong : ChangeSpec := { name := "windowRefuses", fn := fun _ => fun
  | [d1, d2, d3, d4] => { results := [.lit (.bool false)], args := [d1, d2, d3, d4] }
  | _ => none }
def WindowRefusesWrongFalsely : Prop := windowRefusesRow.holds Tryd.pinned (OpenSpec.ofChange windowRefusesWrong)

/-- 'tourbillonlaw08.IrParts': WHATEVER THE INPUT: true; the input reads as it did. -/
def irPartsSpec : ChangeSpec := { name := "irParts", fn := fun _ => fun
  | [d1, d2] => { results := [.lit (.bool true)], args := [d1, d2] }
  | _ => none }
def irPartsRow : OpenClaim := { program := "ytpbffmkdchiajaadoor", sum := "7b2502e25fc67b2de9923af2006c82fd601013198d7e75771435b475e52cedb8", func := "tourbillon/tourbillonlaw08.IrParts", spec := "irParts", inPlace := ["internal/abi.NoEscape", "internal/bytealg.MakeNoZero"], unfollowed := true, recurses := true, named := ["tourbillon/ir.names", "internal/strconv.uint64pow10", "math/bits.deBruijn32tab", "math/bits.deBruijn64tab"], apart := false, laid := [("math/bits.deBruijn32tab", laid_math_bits_deBruijn32tab), ("math/bits.deBruijn64tab", laid_math_bits_deBruijn64tab), ("internal/strconv.uint64pow10", laid_internal_strconv_uint64pow10), ("tourbillon/ir.names", laid_tourbillon_ir_names)] }
def IrPartsSaid : Prop := irPartsRow.holds Tryd.pinned (OpenSpec.ofChange irPartsSpec)

/-- ITS FALSE NEIGHBOUR: 'it returns false'. Refute it at one input. -/
def irPartsWrong : ChangeSpec := { name := "irParts", fn := fun _ => fun
  | [d1, d2] => { results := [.lit (.bool false)], args := [d1, d2] }
  | _ => none }
def IrPartsWrongFalsely : Prop := irPartsRow.holds Tryd.pinned (OpenSpec.ofChange irPartsWrong)

/-- 'tourbillonlaw15.ImageWrites': WHATEVER THE INPUT: true; the input reads as it did. -/
def imageWritesSpec : ChangeSpec := { name := "imageWrites", fn := fun _ => fun
  | [d] => { results := [.lit (.bool true)], args := [d] }
  | _ => none }
def imageWritesRow : OpenClaim := { program := "ytpbffmkdchiajaadoor", sum := "7b2502e25fc67b2de9923af2006c82fd601013198d7e75771435b475e52cedb8", func := "tourbillon/tourbillonlaw15.ImageWrites", spec := "imageWrites", inPlace := ["internal/abi.NoEscape", "internal/bytealg.MakeNoZero"], unfollowed := true, recurses := true, named := ["tourbillon/isa.shapes", "tourbillon/image.roles", "internal/strconv.uint64pow10", "math/bits.deBruijn32tab", "math/bits.deBruijn64tab", "strings.asciiSpace", "unicode/utf8.first", "unicode/utf8.acceptRanges", "unicode.White_Space"], apart := false, laid := [("math/bits.deBruijn32tab", laid_math_bits_deBruijn32tab), ("math/bits.deBruijn64tab", laid_math_bits_deBruijn64tab), ("internal/strconv.uint64pow10", laid_internal_strconv_uint64pow10), ("unicode/utf8.acceptRanges", laid_unicode_utf8_acceptRanges), ("unicode.White_Space", laid_unicode_White_Space), ("strings.asciiSpace", laid_strings_asciiSpace), ("tourbillon/isa.shapes", laid_tourbillon_isa_shapes), ("tourbillon/image.roles", laid_tourbillon_image_roles), ("unicode/utf8.first", laid_unicode_utf8_first)] }
def ImageWritesSaid : Prop := imageWritesRow.holds Tryd.pinned (OpenSpec.ofChange imageWritesSpec)

/-- ITS FALSE NEIGHBOUR: 'it returns false'. Refute it at one input. -/
def imageWritesWrong : ChangeSpec := { name := "imageWrites", fn := fun _ => fun
  | [d] => { results := [.lit (.bool false)], args := [d] }
  | _ => none }
def ImageWritesWrongFalsely : Prop := imageWritesRow.holds Tryd.pinned (OpenSpec.ofChange imageWritesWrong)

/- THE SECOND FORM. 'bulk': how many values and letters a reading holds, each counted each time it is reached (what is shared counts as often as it is met; a slice's spare places count too). A statement '..UptoSaid' is the law's where the arguments, and the package variables that the reading takes, are together of bulk at most 1048576: NARROWER than '..Said'. Prove '..Said' where nothing that the law and all that it calls make is longer than what came in: it says more and counts as full. Else prove '..UptoSaid'. A law counts once. -/
mutual
def uptoBulk {H : Type} : DataW H → Nat
  | .lit (.string bytes) => bytes.length + 1
  | .lit _ => 1
  | .nil => 1
  | .ptr d => uptoBulk d + 1
  | .slice elems spare => uptoBulkAll elems + uptoBulkAll spare + 1
  | .agg parts => uptoBulkAll parts + 1
  | .iface _ d => uptoBulk d + 1
  | .map entries => uptoBulkEntries entries + 1
  | .held _ => 1
def uptoBulkAll {H : Type} : List (DataW H) → Nat
  | [] => 0
  | d :: r => uptoBulk d + uptoBulkAll r
def uptoBulkEntries {H : Type} : List (Lit × DataW H) → Nat
  | [] => 0
  | x :: r => uptoBulkEntry x + uptoBulkEntries r
def uptoBulkEntry {H : Type} : Lit × DataW H → Nat
  | (.string bytes, d) => bytes.length + uptoBulk d + 1
  | (_, d) => uptoBulk d + 1
 end
def uptoSmall : (H : Type) → List (DataW H) → Bool := fun _ ds => decide (uptoBulkAll ds ≤ 1048576)
def OpenSpec.upto (s : _root_.Go.ChangeSpec) : _root_.Go.OpenSpec := { _root_.Go.OpenSpec.ofChange s with cond := some uptoSmall }

/-- 'tourbillonlaw02.IsaWrites', WHERE WHAT IT READS IS OF BULK AT MOST 1048576: true; the input reads as it did. -/
def isaWritesUptoRow : OpenClaim := { program := "ytpbffmkdchiajaadoor", sum := "7b2502e25fc67b2de9923af2006c82fd601013198d7e75771435b475e52cedb8", func := "tourbillon/tourbillonlaw02.IsaWrites", spec := "isaWrites", inPlace := ["internal/abi.NoEscape", "internal/bytealg.MakeNoZero"], unfollowed := true, recurses := true, named := ["tourbillon/isa.shapes", "internal/strconv.uint64pow10", "math/bits.deBruijn32tab", "math/bits.deBruijn64tab", "strings.asciiSpace", "unicode/utf8.first", "unicode/utf8.acceptRanges", "unicode.White_Space"], apart := false, laid := [("math/bits.deBruijn32tab", laid_math_bits_deBruijn32tab), ("math/bits.deBruijn64tab", laid_math_bits_deBruijn64tab), ("internal/strconv.uint64pow10", laid_internal_strconv_uint64pow10), ("unicode/utf8.acceptRanges", laid_unicode_utf8_acceptRanges), ("unicode.White_Space", laid_unicode_White_Space), ("strings.asciiSpace", laid_strings_asciiSpace), ("tourbillon/isa.shapes", laid_tourbillon_isa_shapes), ("unicode/utf8.first", laid_unicode_utf8_first)], narrowed := true }
def IsaWritesUptoSaid : Prop := isaWritesUptoRow.holds Tryd.pinned (OpenSpec.upto isaWritesSpec)

/-- 'tourbillonlaw02.IsaTexts', WHERE WHAT IT READS IS OF BULK AT MOST 1048576: true; the input reads as it did. -/
def isaTextsUptoRow : OpenClaim := { program := "ytpbffmkdchiajaadoor", sum := "7b2502e25fc67b2de9923af2006c82fd601013198d7e75771435b475e52cedb8", func := "tourbillon/tourbillonlaw02.IsaTexts", spec := "isaTexts", inPlace := ["internal/abi.NoEscape", "internal/bytealg.MakeNoZero"], unfollowed := true, recurses := true, named := ["tourbillon/isa.shapes", "internal/strconv.uint64pow10", "math/bits.deBruijn32tab", "math/bits.deBruijn64tab", "strings.asciiSpace", "unicode/utf8.first", "unicode/utf8.acceptRanges", "unicode.White_Space"], apart := false, laid := [("math/bits.deBruijn32tab", laid_math_bits_deBruijn32tab), ("math/bits.deBruijn64tab", laid_math_bits_deBruijn64tab), ("internal/strconv.uint64pow10", laid_internal_strconv_uint64pow10), ("unicode/utf8.acceptRanges", laid_unicode_utf8_acceptRanges), ("unicode.White_Space", laid_unicode_White_Space), ("strings.asciiSpace", laid_strings_asciiSpace), ("tourbillon/isa.shapes", laid_tourbillon_isa_shapes), ("unicode/utf8.first", laid_unicode_utf8_first)], narrowed := true }
def IsaTextsUptoSaid : Prop := isaTextsUptoRow.holds Tryd.pinned (OpenSpec.upto isaTextsSpec)

/-- 'tourbillonlaw02.IsaNear', WHERE WHAT IT READS IS OF BULK AT MOST 1048576: true; the input reads as it did. -/
def isaNearUptoRow : OpenClaim := { program := "ytpbffmkdchiajaadoor", sum := "7b2502e25fc67b2de9923af2006c82fd601013198d7e75771435b475e52cedb8", func := "tourbillon/tourbillonlaw02.IsaNear", spec := "isaNear", inPlace := ["internal/abi.NoEscape", "internal/bytealg.MakeNoZero"], unfollowed := true, recurses := true, named := ["tourbillon/isa.shapes", "internal/strconv.uint64pow10", "math/bits.deBruijn32tab", "math/bits.deBruijn64tab", "strings.asciiSpace", "unicode/utf8.first", "unicode/utf8.acceptRanges", "unicode.White_Space"], apart := false, laid := [("math/bits.deBruijn32tab", laid_math_bits_deBruijn32tab), ("math/bits.deBruijn64tab", laid_math_bits_deBruijn64tab), ("internal/strconv.uint64pow10", laid_internal_strconv_uint64pow10), ("unicode/utf8.acceptRanges", laid_unicode_utf8_acceptRanges), ("unicode.White_Space", laid_unicode_White_Space), ("strings.asciiSpace", laid_strings_asciiSpace), ("tourbillon/isa.shapes", laid_tourbillon_isa_shapes), ("unicode/utf8.first", laid_unicode_utf8_first)], narrowed := true }
def IsaNearUptoSaid : Prop := isaNearUptoRow.holds Tryd.pinned (OpenSpec.upto isaNearSpec)

/-- 'tourbillonlaw17.WindowRefuses', WHERE WHAT IT READS IS OF BULK AT MOST 1048576: true; the input reads as it did. -/
def windowRefusesUptoRow : OpenClaim := { program := "ytpbffmkdchiajaadoor", sum := "7b2502e25fc67b2de9923af2006c82fd601013198d7e75771435b475e52cedb8", func := "tourbillon/tourbillonlaw17.WindowRefuses", spec := "windowRefuses", unfollowed := true, recurses := true, named := ["tourbillon/isa.shapes"], apart := false, laid := [("tourbillon/isa.shapes", laid_tourbillon_isa_shapes)], narrowed := true }
def WindowRefusesUptoSaid : Prop := windowRefusesUptoRow.holds Tryd.pinned (OpenSpec.upto windowRefusesSpec)

/-- 'tourbillonlaw08.IrParts', WHERE WHAT IT READS IS OF BULK AT MOST 1048576: true; the input reads as it did. -/
def irPartsUptoRow : OpenClaim := { program := "ytpbffmkdchiajaadoor", sum := "7b2502e25fc67b2de9923af2006c82fd601013198d7e75771435b475e52cedb8", func := "tourbillon/tourbillonlaw08.IrParts", spec := "irParts", inPlace := ["internal/abi.NoEscape", "internal/bytealg.MakeNoZero"], unfollowed := true, recurses := true, named := ["tourbillon/ir.names", "internal/strconv.uint64pow10", "math/bits.deBruijn32tab", "math/bits.deBruijn64tab"], apart := false, laid := [("math/bits.deBruijn32tab", laid_math_bits_deBruijn32tab), ("math/bits.deBruijn64tab", laid_math_bits_deBruijn64tab), ("internal/strconv.uint64pow10", laid_internal_strconv_uint64pow10), ("tourbillon/ir.names", laid_tourbillon_ir_names)], narrowed := true }
def IrPartsUptoSaid : Prop := irPartsUptoRow.holds Tryd.pinned (OpenSpec.upto irPartsSpec)

/-- 'tourbillonlaw15.ImageWrites', WHERE WHAT IT READS IS OF BULK AT MOST 1048576: true; the input reads as it did. -/
def imageWritesUptoRow : OpenClaim := { program := "ytpbffmkdchiajaadoor", sum := "7b2502e25fc67b2de9923af2006c82fd601013198d7e75771435b475e52cedb8", func := "tourbillon/tourbillonlaw15.ImageWrites", spec := "imageWrites", inPlace := ["internal/abi.NoEscape", "internal/bytealg.MakeNoZero"], unfollowed := true, recurses := true, named := ["tourbillon/isa.shapes", "tourbillon/image.roles", "internal/strconv.uint64pow10", "math/bits.deBruijn32tab", "math/bits.deBruijn64tab", "strings.asciiSpace", "unicode/utf8.first", "unicode/utf8.acceptRanges", "unicode.White_Space"], apart := false, laid := [("math/bits.deBruijn32tab", laid_math_bits_deBruijn32tab), ("math/bits.deBruijn64tab", laid_math_bits_deBruijn64tab), ("internal/strconv.uint64pow10", laid_internal_strconv_uint64pow10), ("unicode/utf8.acceptRanges", laid_unicode_utf8_acceptRanges), ("unicode.White_Space", laid_unicode_White_Space), ("strings.asciiSpace", laid_strings_asciiSpace), ("tourbillon/isa.shapes", laid_tourbillon_isa_shapes), ("tourbillon/image.roles", laid_tourbillon_image_roles), ("unicode/utf8.first", laid_unicode_utf8_first)], narrowed := true }
def ImageWritesUptoSaid : Prop := imageWritesUptoRow.holds Tryd.pinned (OpenSpec.upto imageWritesSpec)

end Rows
end Go.Proofs.YtpbffmkdchiajaaDoor
