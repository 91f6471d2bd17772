/-
  NARROWER THAN 'FOR EVERY INPUT', by the rows' own cells (each row's printed sentence says how): WriteRows: laid · WriteParts: laid · WriteTwo: laid · RefsNames: laid · RefsDecodes: laid · RefsWrites: laid · RefsBack: laid · RefsParts: laid · RefsNumbers: laid · RefsOnce: laid · RefsSafe: laid.
  DERIVED. THE GIVEN ROWS OF THIS SEAT. 11 by the template 'for every input the law returns true; each argument reads behind the call as it read before'; 0 by the template 'total and deterministic' (their statements: YtmneibbpbibhcaaDoorTotals.lean).
  GIVEN WITH THE SEED: the statements are not yours to turn. If you find one false, say at which input.
  Laid BY PROGRAM, IN A SANDBOX (cutbox-rows.mjs): the forced cells as the released guide's own fill.sh prints them over the translation 3e46745f7a091654… (all of the seat's roots in one cut). By AI agents, Wed Nov 11 2026. No macro, syntax, notation, axiom, sorry.
-/
import Derived.Test.YtmneibbpbibhcaaDoorChecked
import GoSem.PinnedTables
import GoSem.Claim
import GoSem.ClaimJoined
import GoSem.ClaimMapViews
import Derived.JoinedTies
import Derived.KernelRfl
namespace Go.Proofs.YtmneibbpbibhcaaDoor
/- THE CELL 'sum', in the pinned program and in every row, IS THE sha256 OF THE DUMP (.gsa) THAT YtmneibbpbibhcaaDoorProg.lean LOADS. Nothing in Lean hashes anything: it is a label: what it is worth is what the hold of that sum in a sandbox is worth. -/
noncomputable def Tryd.pinned : Pinned := { name := "ytmneibbpbibhcaadoor", sum := "3e46745f7a09165465645f853b6ff89554a9907ac09a83fcf55a88dece384843", checked := Tryd.checked }
namespace Rows
def none {H : Type} : Left H := { results := [], args := [] }

/- WHAT THE LISTED PACKAGE-LEVEL VARIABLES READ AS WHEN THE CALL BEGINS. Each datum BY PROGRAM (the guide's laid-datum.mjs) off the statement by which the dump's own 'gosem.cut.vars' lays the variable. In a bare row this is a premise. The card (YtmneibbpbibhcaaDoorCards.lean) ties it to the program's text. -/
def laid_unicode_utf8_acceptRanges {H : Type} : DataW H := .agg [.agg [.lit (.int .u8 128), .lit (.int .u8 191)], .agg [.lit (.int .u8 160), .lit (.int .u8 191)], .agg [.lit (.int .u8 128), .lit (.int .u8 159)], .agg [.lit (.int .u8 144), .lit (.int .u8 191)], .agg [.lit (.int .u8 128), .lit (.int .u8 143)], .agg [.lit (.int .u8 0), .lit (.int .u8 0)], .agg [.lit (.int .u8 0), .lit (.int .u8 0)], .agg [.lit (.int .u8 0), .lit (.int .u8 0)], .agg [.lit (.int .u8 0), .lit (.int .u8 0)], .agg [.lit (.int .u8 0), .lit (.int .u8 0)], .agg [.lit (.int .u8 0), .lit (.int .u8 0)], .agg [.lit (.int .u8 0), .lit (.int .u8 0)], .agg [.lit (.int .u8 0), .lit (.int .u8 0)], .agg [.lit (.int .u8 0), .lit (.int .u8 0)], .agg [.lit (.int .u8 0), .lit (.int .u8 0)], .agg [.lit (.int .u8 0), .lit (.int .u8 0)]]
/-- One of Go's own tables, pinned by name: the form's constant. -/
def laid_unicode_utf8_first : DataW Unit := Go.Pinned.utf8First
def laid_math_bits_deBruijn32tab {H : Type} : DataW H := .agg [.lit (.int .u8 0), .lit (.int .u8 1), .lit (.int .u8 28), .lit (.int .u8 2), .lit (.int .u8 29), .lit (.int .u8 14), .lit (.int .u8 24), .lit (.int .u8 3), .lit (.int .u8 30), .lit (.int .u8 22), .lit (.int .u8 20), .lit (.int .u8 15), .lit (.int .u8 25), .lit (.int .u8 17), .lit (.int .u8 4), .lit (.int .u8 8), .lit (.int .u8 31), .lit (.int .u8 27), .lit (.int .u8 13), .lit (.int .u8 23), .lit (.int .u8 21), .lit (.int .u8 19), .lit (.int .u8 16), .lit (.int .u8 7), .lit (.int .u8 26), .lit (.int .u8 12), .lit (.int .u8 18), .lit (.int .u8 6), .lit (.int .u8 11), .lit (.int .u8 5), .lit (.int .u8 10), .lit (.int .u8 9)]
def laid_math_bits_deBruijn64tab {H : Type} : DataW H := .agg [.lit (.int .u8 0), .lit (.int .u8 1), .lit (.int .u8 56), .lit (.int .u8 2), .lit (.int .u8 57), .lit (.int .u8 49), .lit (.int .u8 28), .lit (.int .u8 3), .lit (.int .u8 61), .lit (.int .u8 58), .lit (.int .u8 42), .lit (.int .u8 50), .lit (.int .u8 38), .lit (.int .u8 29), .lit (.int .u8 17), .lit (.int .u8 4), .lit (.int .u8 62), .lit (.int .u8 47), .lit (.int .u8 59), .lit (.int .u8 36), .lit (.int .u8 45), .lit (.int .u8 43), .lit (.int .u8 51), .lit (.int .u8 22), .lit (.int .u8 53), .lit (.int .u8 39), .lit (.int .u8 33), .lit (.int .u8 30), .lit (.int .u8 24), .lit (.int .u8 18), .lit (.int .u8 12), .lit (.int .u8 5), .lit (.int .u8 63), .lit (.int .u8 55), .lit (.int .u8 48), .lit (.int .u8 27), .lit (.int .u8 60), .lit (.int .u8 41), .lit (.int .u8 37), .lit (.int .u8 16), .lit (.int .u8 46), .lit (.int .u8 35), .lit (.int .u8 44), .lit (.int .u8 21), .lit (.int .u8 52), .lit (.int .u8 32), .lit (.int .u8 23), .lit (.int .u8 11), .lit (.int .u8 54), .lit (.int .u8 26), .lit (.int .u8 40), .lit (.int .u8 15), .lit (.int .u8 34), .lit (.int .u8 20), .lit (.int .u8 31), .lit (.int .u8 10), .lit (.int .u8 25), .lit (.int .u8 14), .lit (.int .u8 19), .lit (.int .u8 9), .lit (.int .u8 13), .lit (.int .u8 8), .lit (.int .u8 7), .lit (.int .u8 6)]
def laid_internal_strconv_uint64pow10 {H : Type} : DataW H := .agg [.lit (.int .u64 1), .lit (.int .u64 10), .lit (.int .u64 100), .lit (.int .u64 1000), .lit (.int .u64 10000), .lit (.int .u64 100000), .lit (.int .u64 1000000), .lit (.int .u64 10000000), .lit (.int .u64 100000000), .lit (.int .u64 1000000000), .lit (.int .u64 10000000000), .lit (.int .u64 100000000000), .lit (.int .u64 1000000000000), .lit (.int .u64 10000000000000), .lit (.int .u64 100000000000000), .lit (.int .u64 1000000000000000), .lit (.int .u64 10000000000000000), .lit (.int .u64 100000000000000000), .lit (.int .u64 1000000000000000000), .lit (.int .u64 10000000000000000000)]
def laid_strconv_ErrRange {H : Type} : DataW H := .iface "*errors.errorString" (.ptr (.agg [.lit (.string [118, 97, 108, 117, 101, 32, 111, 117, 116, 32, 111, 102, 32, 114, 97, 110, 103, 101])]))
def laid_strconv_ErrSyntax {H : Type} : DataW H := .iface "*errors.errorString" (.ptr (.agg [.lit (.string [105, 110, 118, 97, 108, 105, 100, 32, 115, 121, 110, 116, 97, 120])]))

/-- 'boltinglaw08.WriteRows': WHATEVER THE INPUT: true; the input reads as it did. -/
def writeRowsSpec : ChangeSpec := { name := "writeRows", fn := fun _ => fun
  | [d1, d2] => { results := [.lit (.bool true)], args := [d1, d2] }
  | _ => none }
def writeRowsRow : OpenClaim := { program := "ytmneibbpbibhcaadoor", sum := "3e46745f7a09165465645f853b6ff89554a9907ac09a83fcf55a88dece384843", func := "bolting/boltinglaw08.WriteRows", spec := "writeRows", inPlace := ["internal/abi.NoEscape", "internal/bytealg.IndexByteString", "internal/bytealg.IndexString"], unfollowed := true, recurses := true, named := ["unicode/utf8.first", "unicode/utf8.acceptRanges", "internal/bytealg.MaxLen"], apart := false, laid := [("unicode/utf8.acceptRanges", laid_unicode_utf8_acceptRanges), ("unicode/utf8.first", laid_unicode_utf8_first)] }
def WriteRowsSaid : Prop := writeRowsRow.holds Tryd.pinned (OpenSpec.ofChange writeRowsSpec)

/-- ITS FALSE NEIGHBOUR: 'it returns false'. Refute it at one input. -/
def writeRowsWrong : ChangeSpec := { name := "writeRows", fn := fun _ => fun
  | [d1, d2] => { results := [.lit (.bool false)], args := [d1, d2] }
  | _ => none }
def WriteRowsWrongFalsely : Prop := writeRowsRow.holds Tryd.pinned (OpenSpec.ofChange writeRowsWrong)

/-- 'boltinglaw08.WriteParts': WHATEVER THE INPUT: true; the input reads as it did. -/
def writePartsSpec : ChangeSpec := { name := "writeParts", fn := fun _ => fun
  | [d] => { results := [.lit (.bool true)], args := [d] }
  | _ => none }
def writePartsRow : OpenClaim := { program := "ytmneibbpbibhcaadoor", sum := "3e46745f7a09165465645f853b6ff89554a9907ac09a83fcf55a88dece384843", func := "bolting/boltinglaw08.WriteParts", spec := "writeParts", inPlace := ["internal/abi.NoEscape", "internal/bytealg.IndexByteString", "internal/bytealg.IndexString"], unfollowed := true, recurses := true, named := ["unicode/utf8.first", "unicode/utf8.acceptRanges", "internal/bytealg.MaxLen"], apart := false, laid := [("unicode/utf8.acceptRanges", laid_unicode_utf8_acceptRanges), ("unicode/utf8.first", laid_unicode_utf8_first)] }
def WritePartsSaid : Prop := writePartsRow.holds Tryd.pinned (OpenSpec.ofChange writePartsSpec)

/-- ITS FALSE NEIGHBOUR: 'it returns false'. Refute it at one input. -/
def writePartsWrong : ChangeSpec := { name := "writeParts", fn := fun _ => fun
  | [d] => { results := [.lit (.bool false)], args := [d] }
  | _ => none }
def WritePartsWrongFalsely : Prop := writePartsRow.holds Tryd.pinned (OpenSpec.ofChange writePartsWrong)

/-- 'boltinglaw08.WriteTwo': WHATEVER THE INPUT: true; the input reads as it did. -/
def writeTwoSpec : ChangeSpec := { name := "writeTwo", fn := fun _ => fun
  | [d1, d2] => { results := [.lit (.bool true)], args := [d1, d2] }
  | _ => none }
def writeTwoRow : OpenClaim := { program := "ytmneibbpbibhcaadoor", sum := "3e46745f7a09165465645f853b6ff89554a9907ac09a83fcf55a88dece384843", func := "bolting/boltinglaw08.WriteTwo", spec := "writeTwo", inPlace := ["internal/bytealg.IndexByteString", "internal/bytealg.IndexString", "internal/abi.NoEscape"], unfollowed := true, recurses := true, named := ["unicode/utf8.first", "unicode/utf8.acceptRanges", "internal/bytealg.MaxLen"], apart := false, laid := [("unicode/utf8.acceptRanges", laid_unicode_utf8_acceptRanges), ("unicode/utf8.first", laid_unicode_utf8_first)] }
def WriteTwoSaid : Prop := writeTwoRow.holds Tryd.pinned (OpenSpec.ofChange writeTwoSpec)

/-- ITS FALSE NEIGHBOUR: 'it returns false'. Refute it at one input. -/
def writeTwoWrong : ChangeSpec := { name := "writeTwo", fn := fun _ => fun
  | [d1, d2] => { results := [.lit (.bool false)], args := [d1, d2] }
  | _ => none }
def WriteTwoWrongFalsely : Prop := writeTwoRow.holds Tryd.pinned (OpenSpec.ofChange writeTwoWrong)

/-- 'boltinglaw03.RefsNames': WHATEVER THE INPUT: true; the input reads as it did. -/
def refsNamesSpec : ChangeSpec := { name := "refsNames", fn := fun _ => fun
  | [d1, d2] => { results := [.lit (.bool true)], args := [d1, d2] }
  | _ => none }
def refsNamesRow : OpenClaim := { program := "ytmneibbpbibhcaadoor", sum := "3e46745f7a09165465645f853b6ff89554a9907ac09a83fcf55a88dece384843", func := "bolting/boltinglaw03.RefsNames", spec := "refsNames", inPlace := ["internal/bytealg.IndexByteString", "internal/bytealg.IndexString", "internal/abi.NoEscape"], named := ["internal/bytealg.MaxLen", "strconv.ErrSyntax", "strconv.ErrRange", "internal/strconv.uint64pow10", "math/bits.deBruijn32tab", "math/bits.deBruijn64tab"], apart := false, laid := [("math/bits.deBruijn32tab", laid_math_bits_deBruijn32tab), ("math/bits.deBruijn64tab", laid_math_bits_deBruijn64tab), ("internal/strconv.uint64pow10", laid_internal_strconv_uint64pow10), ("strconv.ErrRange", laid_strconv_ErrRange), ("strconv.ErrSyntax", laid_strconv_ErrSyntax)] }
def RefsNamesSaid : Prop := refsNamesRow.holds Tryd.pinned (OpenSpec.ofChange refsNamesSpec)

/-- ITS FALSE NEIGHBOUR: 'it returns false'. Refute it at one input. -/
def refsNamesWrong : ChangeSpec := { name := "refsNames", fn := fun _ => fun
  | [d1, d2] => { results := [.lit (.bool false)], args := [d1, d2] }
  | _ => none }
def RefsNamesWrongFalsely : Prop := refsNamesRow.holds Tryd.pinned (OpenSpec.ofChange refsNamesWrong)

/-- 'boltinglaw03.RefsDecodes': WHATEVER THE INPUT: true; the input reads as it did. -/
def refsDecodesSpec : ChangeSpec := { name := "refsDecodes", fn := fun _ => fun
  | [d] => { results := [.lit (.bool true)], args := [d] }
  | _ => none }
def refsDecodesRow : OpenClaim := { program := "ytmneibbpbibhcaadoor", sum := "3e46745f7a09165465645f853b6ff89554a9907ac09a83fcf55a88dece384843", func := "bolting/boltinglaw03.RefsDecodes", spec := "refsDecodes", inPlace := ["internal/bytealg.IndexByteString", "internal/bytealg.IndexString", "internal/abi.NoEscape"], named := ["internal/bytealg.MaxLen", "strconv.ErrSyntax", "strconv.ErrRange", "internal/strconv.uint64pow10", "math/bits.deBruijn32tab", "math/bits.deBruijn64tab"], apart := false, laid := [("math/bits.deBruijn32tab", laid_math_bits_deBruijn32tab), ("math/bits.deBruijn64tab", laid_math_bits_deBruijn64tab), ("internal/strconv.uint64pow10", laid_internal_strconv_uint64pow10), ("strconv.ErrRange", laid_strconv_ErrRange), ("strconv.ErrSyntax", laid_strconv_ErrSyntax)] }
def RefsDecodesSaid : Prop := refsDecodesRow.holds Tryd.pinned (OpenSpec.ofChange refsDecodesSpec)

/-- ITS FALSE NEIGHBOUR: 'it returns false'. Refute it at one input. -/
def refsDecodesWrong : ChangeSpec := { name := "refsDecodes", fn := fun _ => fun
  | [d] => { results := [.lit (.bool false)], args := [d] }
  | _ => none }
def RefsDecodesWrongFalsely : Prop := refsDecodesRow.holds Tryd.pinned (OpenSpec.ofChange refsDecodesWrong)

/-- 'boltinglaw03.RefsWrites': WHATEVER THE INPUT: true; the input reads as it did. -/
def refsWritesSpec : ChangeSpec := { name := "refsWrites", fn := fun _ => fun
  | [d] => { results := [.lit (.bool true)], args := [d] }
  | _ => none }
def refsWritesRow : OpenClaim := { program := "ytmneibbpbibhcaadoor", sum := "3e46745f7a09165465645f853b6ff89554a9907ac09a83fcf55a88dece384843", func := "bolting/boltinglaw03.RefsWrites", spec := "refsWrites", inPlace := ["internal/bytealg.IndexByteString", "internal/bytealg.IndexString", "internal/abi.NoEscape"], named := ["internal/bytealg.MaxLen", "strconv.ErrSyntax", "strconv.ErrRange", "internal/strconv.uint64pow10", "math/bits.deBruijn32tab", "math/bits.deBruijn64tab"], apart := false, laid := [("math/bits.deBruijn32tab", laid_math_bits_deBruijn32tab), ("math/bits.deBruijn64tab", laid_math_bits_deBruijn64tab), ("internal/strconv.uint64pow10", laid_internal_strconv_uint64pow10), ("strconv.ErrRange", laid_strconv_ErrRange), ("strconv.ErrSyntax", laid_strconv_ErrSyntax)] }
def RefsWritesSaid : Prop := refsWritesRow.holds Tryd.pinned (OpenSpec.ofChange refsWritesSpec)

/-- ITS FALSE NEIGHBOUR: 'it returns false'. Refute it at one input. -/
def refsWritesWrong : ChangeSpec := { name := "refsWrites", fn := fun _ => fun
  | [d] => { results := [.lit (.bool false)], args := [d] }
  | _ => none }
def RefsWritesWrongFalsely : Prop := refsWritesRow.holds Tryd.pinned (OpenSpec.ofChange refsWritesWrong)

/-- 'boltinglaw03.RefsBack': WHATEVER THE INPUT: true; the input reads as it did. -/
def refsBackSpec : ChangeSpec := { name := "refsBack", fn := fun _ => fun
  | [d] => { results := [.lit (.bool true)], args := [d] }
  | _ => none }
def refsBackRow : OpenClaim := { program := "ytmneibbpbibhcaadoor", sum := "3e46745f7a09165465645f853b6ff89554a9907ac09a83fcf55a88dece384843", func := "bolting/boltinglaw03.RefsBack", spec := "refsBack", inPlace := ["internal/abi.NoEscape", "internal/bytealg.IndexByteString", "internal/bytealg.IndexString"], named := ["internal/bytealg.MaxLen", "strconv.ErrSyntax", "strconv.ErrRange", "internal/strconv.uint64pow10", "math/bits.deBruijn32tab", "math/bits.deBruijn64tab"], apart := false, laid := [("math/bits.deBruijn32tab", laid_math_bits_deBruijn32tab), ("math/bits.deBruijn64tab", laid_math_bits_deBruijn64tab), ("internal/strconv.uint64pow10", laid_internal_strconv_uint64pow10), ("strconv.ErrRange", laid_strconv_ErrRange), ("strconv.ErrSyntax", laid_strconv_ErrSyntax)] }
def RefsBackSaid : Prop := refsBackRow.holds Tryd.pinned (OpenSpec.ofChange refsBackSpec)

/-- ITS FALSE NEIGHBOUR: 'it returns false'. Refute it at one input. -/
def refsBackWrong : ChangeSpec := { name := "refsBack", fn := fun _ => fun
  | [d] => { results := [.lit (.bool false)], args := [d] }
  | _ => none }
def RefsBackWrongFalsely : Prop := refsBackRow.holds Tryd.pinned (OpenSpec.ofChange refsBackWrong)

/-- 'boltinglaw03.RefsParts': WHATEVER THE INPUT: true; the input reads as it did. -/
def refsPartsSpec : ChangeSpec := { name := "refsParts", fn := fun _ => fun
  | [d1, d2] => { results := [.lit (.bool true)], args := [d1, d2] }
  | _ => none }
def refsPartsRow : OpenClaim := { program := "ytmneibbpbibhcaadoor", sum := "3e46745f7a09165465645f853b6ff89554a9907ac09a83fcf55a88dece384843", func := "bolting/boltinglaw03.RefsParts", spec := "refsParts", inPlace := ["internal/bytealg.IndexByteString", "internal/bytealg.IndexString", "internal/abi.NoEscape"], named := ["internal/bytealg.MaxLen", "strconv.ErrSyntax", "strconv.ErrRange", "internal/strconv.uint64pow10", "math/bits.deBruijn32tab", "math/bits.deBruijn64tab"], apart := false, laid := [("math/bits.deBruijn32tab", laid_math_bits_deBruijn32tab), ("math/bits.deBruijn64tab", laid_math_bits_deBruijn64tab), ("internal/strconv.uint64pow10", laid_internal_strconv_uint64pow10), ("strconv.ErrRange", laid_strconv_ErrRange), ("strconv.ErrSyntax", laid_strconv_ErrSyntax)] }
def RefsPartsSaid : Prop := refsPartsRow.holds Tryd.pinned (OpenSpec.ofChange refsPartsSpec)

/-- ITS FALSE NEIGHBOUR: 'it returns false'. Refute it at one input. -/
def refsPartsWrong : ChangeSpec := { name := "refsParts", fn := fun _ => fun
  | [d1, d2] => { results := [.lit (.bool false)], args := [d1, d2] }
  | _ => none }
def RefsPartsWrongFalsely : Prop := refsPartsRow.holds Tryd.pinned (OpenSpec.ofChange refsPartsWrong)

/-- 'boltinglaw03.RefsNumbers': WHATEVER THE INPUT: true; the input reads as it did. -/
def refsNumbersSpec : ChangeSpec := { name := "refsNumbers", fn := fun _ => fun
  | [d1, d2] => { results := [.lit (.bool true)], args := [d1, d2] }
  | _ => none }
def refsNumbersRow : OpenClaim := { program := "ytmneibbpbibhcaadoor", sum := "3e46745f7a09165465645f853b6ff89554a9907ac09a83fcf55a88dece384843", func := "bolting/boltinglaw03.RefsNumbers", spec := "refsNumbers", inPlace := ["internal/bytealg.IndexByteString", "internal/bytealg.IndexString", "internal/abi.NoEscape"], named := ["internal/bytealg.MaxLen", "strconv.ErrSyntax", "strconv.ErrRange", "internal/strconv.uint64pow10", "math/bits.deBruijn32tab", "math/bits.deBruijn64tab"], apart := false, laid := [("math/bits.deBruijn32tab", laid_math_bits_deBruijn32tab), ("math/bits.deBruijn64tab", laid_math_bits_deBruijn64tab), ("internal/strconv.uint64pow10", laid_internal_strconv_uint64pow10), ("strconv.ErrRange", laid_strconv_ErrRange), ("strconv.ErrSyntax", laid_strconv_ErrSyntax)] }
def RefsNumbersSaid : Prop := refsNumbersRow.holds Tryd.pinned (OpenSpec.ofChange refsNumbersSpec)

/-- ITS FALSE NEIGHBOUR: 'it returns false'. Refute it at one input. -/
def refsNumbersWrong : ChangeSpec := { name := "refsNumbers", fn := fun _ => fun
  | [d1, d2] => { results := [.lit (.bool false)], args := [d1, d2] }
  | _ => none }
def RefsNumbersWrongFalsely : Prop := refsNumbersRow.holds Tryd.pinned (OpenSpec.ofChange refsNumbersWrong)

/-- 'boltinglaw03.RefsOnce': WHATEVER THE INPUT: true; the input reads as it did. -/
def refsOnceSpec : ChangeSpec := { name := "refsOnce", fn := fun _ => fun
  | [d] => { results := [.lit (.bool true)], args := [d] }
  | _ => none }
def refsOnceRow : OpenClaim := { program := "ytmneibbpbibhcaadoor", sum := "3e46745f7a09165465645f853b6ff89554a9907ac09a83fcf55a88dece384843", func := "bolting/boltinglaw03.RefsOnce", spec := "refsOnce", inPlace := ["internal/bytealg.IndexByteString", "internal/bytealg.IndexString", "internal/abi.NoEscape"], named := ["internal/bytealg.MaxLen", "strconv.ErrSyntax", "strconv.ErrRange", "internal/strconv.uint64pow10", "math/bits.deBruijn32tab", "math/bits.deBruijn64tab"], apart := false, laid := [("math/bits.deBruijn32tab", laid_math_bits_deBruijn32tab), ("math/bits.deBruijn64tab", laid_math_bits_deBruijn64tab), ("internal/strconv.uint64pow10", laid_internal_strconv_uint64pow10), ("strconv.ErrRange", laid_strconv_ErrRange), ("strconv.ErrSyntax", laid_strconv_ErrSyntax)] }
def RefsOnceSaid : Prop := refsOnceRow.holds Tryd.pinned (OpenSpec.ofChange refsOnceSpec)

/-- ITS FALSE NEIGHBOUR: 'it returns false'. Refute it at one input. -/
def refsOnceWrong : ChangeSpec := { name := "refsOnce", fn := fun _ => fun
  | [d] => { results := [.lit (.bool false)], args := [d] }
  | _ => none }
def RefsOnceWrongFalsely : Prop := refsOnceRow.holds Tryd.pinned (OpenSpec.ofChange refsOnceWrong)

/-- 'boltinglaw03.RefsSafe': WHATEVER THE INPUT: true; the input reads as it did. -/
def refsSafeSpec : ChangeSpec := { name := "refsSafe", fn := fun _ => fun
  | [d] => { results := [.lit (.bool true)], args := [d] }
  | _ => none }
def refsSafeRow : OpenClaim := { program := "ytmneibbpbibhcaadoor", sum := "3e46745f7a09165465645f853b6ff89554a9907ac09a83fcf55a88dece384843", func := "bolting/boltinglaw03.RefsSafe", spec := "refsSafe", inPlace := ["internal/abi.NoEscape", "internal/bytealg.IndexByteString", "internal/bytealg.IndexString"], named := ["internal/bytealg.MaxLen", "strconv.ErrSyntax", "strconv.ErrRange", "internal/strconv.uint64pow10", "math/bits.deBruijn32tab", "math/bits.deBruijn64tab"], apart := false, laid := [("math/bits.deBruijn32tab", laid_math_bits_deBruijn32tab), ("math/bits.deBruijn64tab", laid_math_bits_deBruijn64tab), ("internal/strconv.uint64pow10", laid_internal_strconv_uint64pow10), ("strconv.ErrRange", laid_strconv_ErrRange), ("strconv.ErrSyntax", laid_strconv_ErrSyntax)] }
def RefsSafeSaid : Prop := refsSafeRow.holds Tryd.pinned (OpenSpec.ofChange refsSafeSpec)

/-- ITS FALSE NEIGHBOUR: 'it returns false'. Refute it at one input. -/
def refsSafeWrong : ChangeSpec := { name := "refsSafe", fn := fun _ => fun
  | [d] => { results := [.lit (.bool false)], args := [d] }
  | _ => none }
def RefsSafeWrongFalsely : Prop := refsSafeRow.holds Tryd.pinned (OpenSpec.ofChange refsSafeWrong)

/- THE SECOND FORM. 'bulk': how many values and letters a reading holds, each counted each time it is reached (what is shared counts as often as it is met; a slice's spare places count too). A statement '..UptoSaid' is the law's where the arguments, and the package variables that the reading takes, are together of bulk at most 1048576: NARROWER than '..Said'. Prove '..Said' where nothing that the law and all that it calls make is longer than what came in: it says more and counts as full. Else prove '..UptoSaid'. A law counts once. -/
mutual
def uptoBulk {H : Type} : DataW H → Nat
  | .lit (.string bytes) => bytes.length + 1
  | .lit _ => 1
  | .nil => 1
  | .ptr d => uptoBulk d + 1
  | .slice elems spare => uptoBulkAll elems + uptoBulkAll spare + 1
  | .agg parts => uptoBulkAll parts + 1
  | .iface _ d => uptoBulk d + 1
  | .map entries => uptoBulkEntries entries + 1
  | .held _ => 1
def uptoBulkAll {H : Type} : List (DataW H) → Nat
  | [] => 0
  | d :: r => uptoBulk d + uptoBulkAll r
def uptoBulkEntries {H : Type} : List (Lit × DataW H) → Nat
  | [] => 0
  | x :: r => uptoBulkEntry x + uptoBulkEntries r
def uptoBulkEntry {H : Type} : Lit × DataW H → Nat
  | (.string bytes, d) => bytes.length + uptoBulk d + 1
  | (_, d) => uptoBulk d + 1
 end
def uptoSmall : (H : Type) → List (DataW H) → Bool := fun _ ds => decide (uptoBulkAll ds ≤ 1048576)
def OpenSpec.upto (s : _root_.Go.ChangeSpec) : _root_.Go.OpenSpec := { _root_.Go.OpenSpec.ofChange s with cond := some uptoSmall }

/-- 'boltinglaw08.WriteRows', WHERE WHAT IT READS IS OF BULK AT MOST 1048576: true; the input reads as it did. -/
def writeRowsUptoRow : OpenClaim := { program := "ytmneibbpbibhcaadoor", sum := "3e46745f7a09165465645f853b6ff89554a9907ac09a83fcf55a88dece384843", func := "bolting/boltinglaw08.WriteRows", spec := "writeRows", inPlace := ["internal/abi.NoEscape", "internal/bytealg.IndexByteString", "internal/bytealg.IndexString"], unfollowed := true, recurses := true, named := ["unicode/utf8.first", "unicode/utf8.acceptRanges", "internal/bytealg.MaxLen"], apart := false, laid := [("unicode/utf8.acceptRanges", laid_unicode_utf8_acceptRanges), ("unicode/utf8.first", laid_unicode_utf8_first)], narrowed := true }
def WriteRowsUptoSaid : Prop := writeRowsUptoRow.holds Tryd.pinned (OpenSpec.upto writeRowsSpec)

/-- 'boltinglaw08.WriteParts', WHERE WHAT IT READS IS OF BULK AT MOST 1048576: true; the input reads as it did. -/
def writePartsUptoRow : OpenClaim := { program := "ytmneibbpbibhcaadoor", sum := "3e46745f7a09165465645f853b6ff89554a9907ac09a83fcf55a88dece384843", func := "bolting/boltinglaw08.WriteParts", spec := "writeParts", inPlace := ["internal/abi.NoEscape", "internal/bytealg.IndexByteString", "internal/bytealg.IndexString"], unfollowed := true, recurses := true, named := ["unicode/utf8.first", "unicode/utf8.acceptRanges", "internal/bytealg.MaxLen"], apart := false, laid := [("unicode/utf8.acceptRanges", laid_unicode_utf8_acceptRanges), ("unicode/utf8.first", laid_unicode_utf8_first)], narrowed := true }
def WritePartsUptoSaid : Prop := writePartsUptoRow.holds Tryd.pinned (OpenSpec.upto writePartsSpec)

/-- 'boltinglaw08.WriteTwo', WHERE WHAT IT READS IS OF BULK AT MOST 1048576: true; the input reads as it did. -/
def writeTwoUptoRow : OpenClaim := { program := "ytmneibbpbibhcaadoor", sum := "3e46745f7a09165465645f853b6ff89554a9907ac09a83fcf55a88dece384843", func := "bolting/boltinglaw08.WriteTwo", spec := "writeTwo", inPlace := ["internal/bytealg.IndexByteString", "internal/bytealg.IndexString", "internal/abi.NoEscape"], unfollowed := true, recurses := true, named := ["unicode/utf8.first", "unicode/utf8.acceptRanges", "internal/bytealg.MaxLen"], apart := false, laid := [("unicode/utf8.acceptRanges", laid_unicode_utf8_acceptRanges), ("unicode/utf8.first", laid_unicode_utf8_first)], narrowed := true }
def WriteTwoUptoSaid : Prop := writeTwoUptoRow.holds Tryd.pinned (OpenSpec.upto writeTwoSpec)

/-- 'boltinglaw03.RefsNames', WHERE WHAT IT READS IS OF BULK AT MOST 1048576: true; the input reads as it did. -/
def refsNamesUptoRow : OpenClaim := { program := "ytmneibbpbibhcaadoor", sum := "3e46745f7a09165465645f853b6ff89554a9907ac09a83fcf55a88dece384843", func := "bolting/boltinglaw03.RefsNames", spec := "refsNames", inPlace := ["internal/bytealg.IndexByteString", "internal/bytealg.IndexString", "internal/abi.NoEscape"], named := ["internal/bytealg.MaxLen", "strconv.ErrSyntax", "strconv.ErrRange", "internal/strconv.uint64pow10", "math/bits.deBruijn32tab", "math/bits.deBruijn64tab"], apart := false, laid := [("math/bits.deBruijn32tab", laid_math_bits_deBruijn32tab), ("math/bits.deBruijn64tab", laid_math_bits_deBruijn64tab), ("internal/strconv.uint64pow10", laid_internal_strconv_uint64pow10), ("strconv.ErrRange", laid_strconv_ErrRange), ("strconv.ErrSyntax", laid_strconv_ErrSyntax)], narrowed := true }
def RefsNamesUptoSaid : Prop := refsNamesUptoRow.holds Tryd.pinned (OpenSpec.upto refsNamesSpec)

/-- 'boltinglaw03.RefsDecodes', WHERE WHAT IT READS IS OF BULK AT MOST 1048576: true; the input reads as it did. -/
def refsDecodesUptoRow : OpenClaim := { program := "ytmneibbpbibhcaadoor", sum := "3e46745f7a09165465645f853b6ff89554a9907ac09a83fcf55a88dece384843", func := "bolting/boltinglaw03.RefsDecodes", spec := "refsDecodes", inPlace := ["internal/bytealg.IndexByteString", "internal/bytealg.IndexString", "internal/abi.NoEscape"], named := ["internal/bytealg.MaxLen", "strconv.ErrSyntax", "strconv.ErrRange", "internal/strconv.uint64pow10", "math/bits.deBruijn32tab", "math/bits.deBruijn64tab"], apart := false, laid := [("math/bits.deBruijn32tab", laid_math_bits_deBruijn32tab), ("math/bits.deBruijn64tab", laid_math_bits_deBruijn64tab), ("internal/strconv.uint64pow10", laid_internal_strconv_uint64pow10), ("strconv.ErrRange", laid_strconv_ErrRange), ("strconv.ErrSyntax", laid_strconv_ErrSyntax)], narrowed := true }
def RefsDecodesUptoSaid : Prop := refsDecodesUptoRow.holds Tryd.pinned (OpenSpec.upto refsDecodesSpec)

/-- 'boltinglaw03.RefsWrites', WHERE WHAT IT READS IS OF BULK AT MOST 1048576: true; the input reads as it did. -/
def refsWritesUptoRow : OpenClaim := { program := "ytmneibbpbibhcaadoor", sum := "3e46745f7a09165465645f853b6ff89554a9907ac09a83fcf55a88dece384843", func := "bolting/boltinglaw03.RefsWrites", spec := "refsWrites", inPlace := ["internal/bytealg.IndexByteString", "internal/bytealg.IndexString", "internal/abi.NoEscape"], named := ["internal/bytealg.MaxLen", "strconv.ErrSyntax", "strconv.ErrRange", "internal/strconv.uint64pow10", "math/bits.deBruijn32tab", "math/bits.deBruijn64tab"], apart := false, laid := [("math/bits.deBruijn32tab", laid_math_bits_deBruijn32tab), ("math/bits.deBruijn64tab", laid_math_bits_deBruijn64tab), ("internal/strconv.uint64pow10", laid_internal_strconv_uint64pow10), ("strconv.ErrRange", laid_strconv_ErrRange), ("strconv.ErrSyntax", laid_strconv_ErrSyntax)], narrowed := true }
def RefsWritesUptoSaid : Prop := refsWritesUptoRow.holds Tryd.pinned (OpenSpec.upto refsWritesSpec)

/-- 'boltinglaw03.RefsBack', WHERE WHAT IT READS IS OF BULK AT MOST 1048576: true; the input reads as it did. -/
def refsBackUptoRow : OpenClaim := { program := "ytmneibbpbibhcaadoor", sum := "3e46745f7a09165465645f853b6ff89554a9907ac09a83fcf55a88dece384843", func := "bolting/boltinglaw03.RefsBack", spec := "refsBack", inPlace := ["internal/abi.NoEscape", "internal/bytealg.IndexByteString", "internal/bytealg.IndexString"], named := ["internal/bytealg.MaxLen", "strconv.ErrSyntax", "strconv.ErrRange", "internal/strconv.uint64pow10", "math/bits.deBruijn32tab", "math/bits.deBruijn64tab"], apart := false, laid := [("math/bits.deBruijn32tab", laid_math_bits_deBruijn32tab), ("math/bits.deBruijn64tab", laid_math_bits_deBruijn64tab), ("internal/strconv.uint64pow10", laid_internal_strconv_uint64pow10), ("strconv.ErrRange", laid_strconv_ErrRange), ("strconv.ErrSyntax", laid_strconv_ErrSyntax)], narrowed := true }
def RefsBackUptoSaid : Prop := refsBackUptoRow.holds Tryd.pinned (OpenSpec.upto refsBackSpec)

/-- 'boltinglaw03.RefsParts', WHERE WHAT IT READS IS OF BULK AT MOST 1048576: true; the input reads as it did. -/
def refsPartsUptoRow : OpenClaim := { program := "ytmneibbpbibhcaadoor", sum := "3e46745f7a09165465645f853b6ff89554a9907ac09a83fcf55a88dece384843", func := "bolting/boltinglaw03.RefsParts", spec := "refsParts", inPlace := ["internal/bytealg.IndexByteString", "internal/bytealg.IndexString", "internal/abi.NoEscape"], named := ["internal/bytealg.MaxLen", "strconv.ErrSyntax", "strconv.ErrRange", "internal/strconv.uint64pow10", "math/bits.deBruijn32tab", "math/bits.deBruijn64tab"], apart := false, laid := [("math/bits.deBruijn32tab", laid_math_bits_deBruijn32tab), ("math/bits.deBruijn64tab", laid_math_bits_deBruijn64tab), ("internal/strconv.uint64pow10", laid_internal_strconv_uint64pow10), ("strconv.ErrRange", laid_strconv_ErrRange), ("strconv.ErrSyntax", laid_strconv_ErrSyntax)], narrowed := true }
def RefsPartsUptoSaid : Prop := refsPartsUptoRow.holds Tryd.pinned (OpenSpec.upto refsPartsSpec)

/-- 'boltinglaw03.RefsNumbers', WHERE WHAT IT READS IS OF BULK AT MOST 1048576: true; the input reads as it did. -/
def refsNumbersUptoRow : OpenClaim := { program := "ytmneibbpbibhcaadoor", sum := "3e46745f7a09165465645f853b6ff89554a9907ac09a83fcf55a88dece384843", func := "bolting/boltinglaw03.RefsNumbers", spec := "refsNumbers", inPlace := ["internal/bytealg.IndexByteString", "internal/bytealg.IndexString", "internal/abi.NoEscape"], named := ["internal/bytealg.MaxLen", "strconv.ErrSyntax", "strconv.ErrRange", "internal/strconv.uint64pow10", "math/bits.deBruijn32tab", "math/bits.deBruijn64tab"], apart := false, laid := [("math/bits.deBruijn32tab", laid_math_bits_deBruijn32tab), ("math/bits.deBruijn64tab", laid_math_bits_deBruijn64tab), ("internal/strconv.uint64pow10", laid_internal_strconv_uint64pow10), ("strconv.ErrRange", laid_strconv_ErrRange), ("strconv.ErrSyntax", laid_strconv_ErrSyntax)], narrowed := true }
def RefsNumbersUptoSaid : Prop := refsNumbersUptoRow.holds Tryd.pinned (OpenSpec.upto refsNumbersSpec)

/-- 'boltinglaw03.RefsOnce', WHERE WHAT IT READS IS OF BULK AT MOST 1048576: true; the input reads as it did. -/
def refsOnceUptoRow : OpenClaim := { program := "ytmneibbpbibhcaadoor", sum := "3e46745f7a09165465645f853b6ff89554a9907ac09a83fcf55a88dece384843", func := "bolting/boltinglaw03.RefsOnce", spec := "refsOnce", inPlace := ["internal/bytealg.IndexByteString", "internal/bytealg.IndexString", "internal/abi.NoEscape"], named := ["internal/bytealg.MaxLen", "strconv.ErrSyntax", "strconv.ErrRange", "internal/strconv.uint64pow10", "math/bits.deBruijn32tab", "math/bits.deBruijn64tab"], apart := false, laid := [("math/bits.deBruijn32tab", laid_math_bits_deBruijn32tab), ("math/bits.deBruijn64tab", laid_math_bits_deBruijn64tab), ("internal/strconv.uint64pow10", laid_internal_strconv_uint64pow10), ("strconv.ErrRange", laid_strconv_ErrRange), ("strconv.ErrSyntax", laid_strconv_ErrSyntax)], narrowed := true }
def RefsOnceUptoSaid : Prop := refsOnceUptoRow.holds Tryd.pinned (OpenSpec.upto refsOnceSpec)

/-- 'boltinglaw03.RefsSafe', WHERE WHAT IT READS IS OF BULK AT MOST 1048576: true; the input reads as it did. -/
def refsSafeUptoRow : OpenClaim := { program := "ytmneibbpbibhcaadoor", sum := "3e46745f7a09165465645f853b6ff89554a9907ac09a83fcf55a88dece384843", func := "bolting/boltinglaw03.RefsSafe", spec := "refsSafe", inPlace := ["internal/abi.NoEscape", "internal/bytealg.IndexByteString", "internal/bytealg.IndexString"], named := ["internal/bytealg.MaxLen", "strconv.ErrSyntax", "strconv.ErrRange", "internal/strconv.uint64pow10", "math/bits.deBruijn32tab", "math/bits.deBruijn64tab"], apart := false, laid := [("math/bits.deBruijn32tab", laid_math_bits_deBruijn32tab), ("math/bits.deBruijn64tab", laid_math_bits_deBruijn64tab), ("internal/strconv.uint64pow10", laid_internal_strconv_uint64pow10), ("strconv.ErrRange", laid_strconv_ErrRange), ("strconv.ErrSyntax", laid_strconv_ErrSyntax)], narrowed := true }
def RefsSafeUptoSaid : Prop := refsSafeUptoRow.holds Tryd.pinned (OpenSpec.upto refsSafeSpec)

end Rows
end Go.Proofs.YtmneibbpbibhcaaDoor
