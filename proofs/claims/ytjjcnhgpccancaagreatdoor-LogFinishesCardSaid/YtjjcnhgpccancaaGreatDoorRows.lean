/-
  NARROWER THAN 'FOR EVERY INPUT', by the rows' own cells (each row's printed sentence says how): LogBack: laid · LogBytes: laid · LogKeys: laid · LogKeyless: laid · LogAny: laid · LogSpoils: laid · LogQuota: laid · LogFinishes: laid · LogCrash: laid · LogResumes: laid · LogFuses: laid.
  DERIVED. THE GIVEN ROWS OF THIS SEAT. 11 by the template 'for every input the law returns true; each argument reads behind the call as it read before'; 0 by the template 'total and deterministic' (their statements: YtjjcnhgpccancaaGreatDoorTotals.lean).
  GIVEN WITH THE SEED: the statements are not yours to turn. If you find one false, say at which input.
  Laid BY PROGRAM, IN A SANDBOX (cutbox-rows.mjs): the forced cells as the released guide's own fill.sh prints them over the translation 1261bf7866aa8c8c… (all of the seat's roots in one cut). By AI agents, Wed Nov 11 2026. No macro, syntax, notation, axiom, sorry.
-/
import Derived.Test.YtjjcnhgpccancaaGreatDoorChecked
import GoSem.PinnedTables
import GoSem.Claim
import GoSem.ClaimJoined
import GoSem.ClaimMapViews
import Derived.JoinedTies
import Derived.KernelRfl
namespace Go.Proofs.YtjjcnhgpccancaaGreatDoor
/- THE CELL 'sum', in the pinned program and in every row, IS THE sha256 OF THE DUMP (.gsa) THAT YtjjcnhgpccancaaGreatDoorProg.lean LOADS. Nothing in Lean hashes anything: it is a label: what it is worth is what the hold of that sum in a sandbox is worth. -/
noncomputable def Tryz.pinned : Pinned := { name := "ytjjcnhgpccancaagreatdoor", sum := "1261bf7866aa8c8c4244d8f68259894f37f59832b6d4de88783b0bd45cd24709", checked := Tryz.checked }
namespace Rows
def none {H : Type} : Left H := { results := [], args := [] }

/- WHAT THE LISTED PACKAGE-LEVEL VARIABLES READ AS WHEN THE CALL BEGINS. Each datum BY PROGRAM (the guide's laid-datum.mjs) off the statement by which the dump's own 'gosem.cut.vars' lays the variable. In a bare row this is a premise. The card (YtjjcnhgpccancaaGreatDoorCards.lean) ties it to the program's text. -/
def laid_flipbook_glyph_wide {H : Type} : DataW H := .agg [.lit (.int .i32 4352), .lit (.int .i32 4447), .lit (.int .i32 11904), .lit (.int .i32 42191), .lit (.int .i32 44032), .lit (.int .i32 55203), .lit (.int .i32 63744), .lit (.int .i32 64255), .lit (.int .i32 65072), .lit (.int .i32 65135), .lit (.int .i32 65280), .lit (.int .i32 65376), .lit (.int .i32 65504), .lit (.int .i32 65510), .lit (.int .i32 127744), .lit (.int .i32 128591), .lit (.int .i32 131072), .lit (.int .i32 262141)]
def laid_flipbook_glyph_signs {H : Type} : DataW H := .agg [.lit (.int .i32 9670), .lit (.int .i32 9618), .lit (.int .i32 9225), .lit (.int .i32 9228), .lit (.int .i32 9229), .lit (.int .i32 9226), .lit (.int .i32 176), .lit (.int .i32 177), .lit (.int .i32 9252), .lit (.int .i32 9227), .lit (.int .i32 9496), .lit (.int .i32 9488), .lit (.int .i32 9484), .lit (.int .i32 9492), .lit (.int .i32 9532), .lit (.int .i32 9146), .lit (.int .i32 9147), .lit (.int .i32 9472), .lit (.int .i32 9148), .lit (.int .i32 9149), .lit (.int .i32 9500), .lit (.int .i32 9508), .lit (.int .i32 9524), .lit (.int .i32 9516), .lit (.int .i32 9474), .lit (.int .i32 8804), .lit (.int .i32 8805), .lit (.int .i32 960), .lit (.int .i32 8800), .lit (.int .i32 163), .lit (.int .i32 183)]
def laid_math_bits_deBruijn32tab {H : Type} : DataW H := .agg [.lit (.int .u8 0), .lit (.int .u8 1), .lit (.int .u8 28), .lit (.int .u8 2), .lit (.int .u8 29), .lit (.int .u8 14), .lit (.int .u8 24), .lit (.int .u8 3), .lit (.int .u8 30), .lit (.int .u8 22), .lit (.int .u8 20), .lit (.int .u8 15), .lit (.int .u8 25), .lit (.int .u8 17), .lit (.int .u8 4), .lit (.int .u8 8), .lit (.int .u8 31), .lit (.int .u8 27), .lit (.int .u8 13), .lit (.int .u8 23), .lit (.int .u8 21), .lit (.int .u8 19), .lit (.int .u8 16), .lit (.int .u8 7), .lit (.int .u8 26), .lit (.int .u8 12), .lit (.int .u8 18), .lit (.int .u8 6), .lit (.int .u8 11), .lit (.int .u8 5), .lit (.int .u8 10), .lit (.int .u8 9)]
def laid_math_bits_deBruijn64tab {H : Type} : DataW H := .agg [.lit (.int .u8 0), .lit (.int .u8 1), .lit (.int .u8 56), .lit (.int .u8 2), .lit (.int .u8 57), .lit (.int .u8 49), .lit (.int .u8 28), .lit (.int .u8 3), .lit (.int .u8 61), .lit (.int .u8 58), .lit (.int .u8 42), .lit (.int .u8 50), .lit (.int .u8 38), .lit (.int .u8 29), .lit (.int .u8 17), .lit (.int .u8 4), .lit (.int .u8 62), .lit (.int .u8 47), .lit (.int .u8 59), .lit (.int .u8 36), .lit (.int .u8 45), .lit (.int .u8 43), .lit (.int .u8 51), .lit (.int .u8 22), .lit (.int .u8 53), .lit (.int .u8 39), .lit (.int .u8 33), .lit (.int .u8 30), .lit (.int .u8 24), .lit (.int .u8 18), .lit (.int .u8 12), .lit (.int .u8 5), .lit (.int .u8 63), .lit (.int .u8 55), .lit (.int .u8 48), .lit (.int .u8 27), .lit (.int .u8 60), .lit (.int .u8 41), .lit (.int .u8 37), .lit (.int .u8 16), .lit (.int .u8 46), .lit (.int .u8 35), .lit (.int .u8 44), .lit (.int .u8 21), .lit (.int .u8 52), .lit (.int .u8 32), .lit (.int .u8 23), .lit (.int .u8 11), .lit (.int .u8 54), .lit (.int .u8 26), .lit (.int .u8 40), .lit (.int .u8 15), .lit (.int .u8 34), .lit (.int .u8 20), .lit (.int .u8 31), .lit (.int .u8 10), .lit (.int .u8 25), .lit (.int .u8 14), .lit (.int .u8 19), .lit (.int .u8 9), .lit (.int .u8 13), .lit (.int .u8 8), .lit (.int .u8 7), .lit (.int .u8 6)]
def laid_internal_strconv_uint64pow10 {H : Type} : DataW H := .agg [.lit (.int .u64 1), .lit (.int .u64 10), .lit (.int .u64 100), .lit (.int .u64 1000), .lit (.int .u64 10000), .lit (.int .u64 100000), .lit (.int .u64 1000000), .lit (.int .u64 10000000), .lit (.int .u64 100000000), .lit (.int .u64 1000000000), .lit (.int .u64 10000000000), .lit (.int .u64 100000000000), .lit (.int .u64 1000000000000), .lit (.int .u64 10000000000000), .lit (.int .u64 100000000000000), .lit (.int .u64 1000000000000000), .lit (.int .u64 10000000000000000), .lit (.int .u64 100000000000000000), .lit (.int .u64 1000000000000000000), .lit (.int .u64 10000000000000000000)]
def laid_unicode_utf8_acceptRanges {H : Type} : DataW H := .agg [.agg [.lit (.int .u8 128), .lit (.int .u8 191)], .agg [.lit (.int .u8 160), .lit (.int .u8 191)], .agg [.lit (.int .u8 128), .lit (.int .u8 159)], .agg [.lit (.int .u8 144), .lit (.int .u8 191)], .agg [.lit (.int .u8 128), .lit (.int .u8 143)], .agg [.lit (.int .u8 0), .lit (.int .u8 0)], .agg [.lit (.int .u8 0), .lit (.int .u8 0)], .agg [.lit (.int .u8 0), .lit (.int .u8 0)], .agg [.lit (.int .u8 0), .lit (.int .u8 0)], .agg [.lit (.int .u8 0), .lit (.int .u8 0)], .agg [.lit (.int .u8 0), .lit (.int .u8 0)], .agg [.lit (.int .u8 0), .lit (.int .u8 0)], .agg [.lit (.int .u8 0), .lit (.int .u8 0)], .agg [.lit (.int .u8 0), .lit (.int .u8 0)], .agg [.lit (.int .u8 0), .lit (.int .u8 0)], .agg [.lit (.int .u8 0), .lit (.int .u8 0)]]
/-- One of Go's own tables, pinned by name: the form's constant. -/
def laid_unicode_utf8_first : DataW Unit := Go.Pinned.utf8First

/-- 'flipbooklaw13.LogBack': WHATEVER THE INPUT: true; the input reads as it did. -/
def logBackSpec : ChangeSpec := { name := "logBack", fn := fun _ => fun
  | [d1, d2] => { results := [.lit (.bool true)], args := [d1, d2] }
  | _ => none }
def logBackRow : OpenClaim := { program := "ytjjcnhgpccancaagreatdoor", sum := "1261bf7866aa8c8c4244d8f68259894f37f59832b6d4de88783b0bd45cd24709", func := "flipbook/flipbooklaw13.LogBack", spec := "logBack", unfollowed := true, recurses := true, named := ["unicode/utf8.first", "unicode/utf8.acceptRanges", "flipbook/glyph.signs", "flipbook/glyph.wide", "internal/strconv.uint64pow10", "math/bits.deBruijn32tab", "math/bits.deBruijn64tab"], apart := false, laid := [("flipbook/glyph.wide", laid_flipbook_glyph_wide), ("flipbook/glyph.signs", laid_flipbook_glyph_signs), ("math/bits.deBruijn32tab", laid_math_bits_deBruijn32tab), ("math/bits.deBruijn64tab", laid_math_bits_deBruijn64tab), ("internal/strconv.uint64pow10", laid_internal_strconv_uint64pow10), ("unicode/utf8.acceptRanges", laid_unicode_utf8_acceptRanges), ("unicode/utf8.first", laid_unicode_utf8_first)] }
def LogBackSaid : Prop := logBackRow.holds Tryz.pinned (OpenSpec.ofChange logBackSpec)

/-- ITS FALSE NEIGHBOUR: 'it returns false'. Refute it at one input. -/
def logBackWrong : ChangeSpec := { name := "logBack", fn := fun _ => fun
  | [d1, d2] => { results := [.lit (.bool false)], args := [d1, d2] }
  | _ => none }
def LogBackWrongFalsely : Prop := logBackRow.holds Tryz.pinned (OpenSpec.ofChange logBackWrong)

/-- 'flipbooklaw13.LogBytes': WHATEVER THE INPUT: true; the input reads as it did. -/
def logBytesSpec : ChangeSpec := { name := "logBytes", fn := fun _ => fun
  | [d1, d2] => { results := [.lit (.bool true)], args := [d1, d2] }
  | _ => none }
def logBytesRow : OpenClaim := { program := "ytjjcnhgpccancaagreatdoor", sum := "1261bf7866aa8c8c4244d8f68259894f37f59832b6d4de88783b0bd45cd24709", func := "flipbook/flipbooklaw13.LogBytes", spec := "logBytes", unfollowed := true, recurses := true, named := ["unicode/utf8.first", "unicode/utf8.acceptRanges", "flipbook/glyph.signs", "flipbook/glyph.wide", "internal/strconv.uint64pow10", "math/bits.deBruijn32tab", "math/bits.deBruijn64tab"], apart := false, laid := [("flipbook/glyph.wide", laid_flipbook_glyph_wide), ("flipbook/glyph.signs", laid_flipbook_glyph_signs), ("math/bits.deBruijn32tab", laid_math_bits_deBruijn32tab), ("math/bits.deBruijn64tab", laid_math_bits_deBruijn64tab), ("internal/strconv.uint64pow10", laid_internal_strconv_uint64pow10), ("unicode/utf8.acceptRanges", laid_unicode_utf8_acceptRanges), ("unicode/utf8.first", laid_unicode_utf8_first)] }
def LogBytesSaid : Prop := logBytesRow.holds Tryz.pinned (OpenSpec.ofChange logBytesSpec)

/-- ITS FALSE NEIGHBOUR: 'it returns false'. Refute it at one input. -/
def logBytesWrong : ChangeSpec := { name := "logBytes", fn := fun _ => fun
  | [d1, d2] => { results := [.lit (.bool false)], args := [d1, d2] }
  | _ => none }
def LogBytesWrongFalsely : Prop := logBytesRow.holds Tryz.pinned (OpenSpec.ofChange logBytesWrong)

/-- 'flipbooklaw13.LogKeys': WHATEVER THE INPUT: true; the input reads as it did. -/
def logKeysSpec : ChangeSpec := { name := "logKeys", fn := fun _ => fun
  | [d] => { results := [.lit (.bool true)], args := [d] }
  | _ => none }
def logKeysRow : OpenClaim := { program := "ytjjcnhgpccancaagreatdoor", sum := "1261bf7866aa8c8c4244d8f68259894f37f59832b6d4de88783b0bd45cd24709", func := "flipbook/flipbooklaw13.LogKeys", spec := "logKeys", unfollowed := true, recurses := true, named := ["unicode/utf8.first", "unicode/utf8.acceptRanges", "flipbook/glyph.signs", "flipbook/glyph.wide", "internal/strconv.uint64pow10", "math/bits.deBruijn32tab", "math/bits.deBruijn64tab"], apart := false, laid := [("flipbook/glyph.wide", laid_flipbook_glyph_wide), ("flipbook/glyph.signs", laid_flipbook_glyph_signs), ("math/bits.deBruijn32tab", laid_math_bits_deBruijn32tab), ("math/bits.deBruijn64tab", laid_math_bits_deBruijn64tab), ("internal/strconv.uint64pow10", laid_internal_strconv_uint64pow10), ("unicode/utf8.acceptRanges", laid_unicode_utf8_acceptRanges), ("unicode/utf8.first", laid_unicode_utf8_first)] }
def LogKeysSaid : Prop := logKeysRow.holds Tryz.pinned (OpenSpec.ofChange logKeysSpec)

/-- ITS FALSE NEIGHBOUR: 'it returns false'. Refute it at one input. -/
def logKeysWrong : ChangeSpec := { name := "logKeys", fn := fun _ => fun
  | [d] => { results := [.lit (.bool false)], args := [d] }
  | _ => none }
def LogKeysWrongFalsely : Prop := logKeysRow.holds Tryz.pinned (OpenSpec.ofChange logKeysWrong)

/-- 'flipbooklaw13.LogKeyless': WHATEVER THE INPUT: true; the input reads as it did. -/
def logKeylessSpec : ChangeSpec := { name := "logKeyless", fn := fun _ => fun
  | [d1, d2] => { results := [.lit (.bool true)], args := [d1, d2] }
  | _ => none }
def logKeylessRow : OpenClaim := { program := "ytjjcnhgpccancaagreatdoor", sum := "1261bf7866aa8c8c4244d8f68259894f37f59832b6d4de88783b0bd45cd24709", func := "flipbook/flipbooklaw13.LogKeyless", spec := "logKeyless", unfollowed := true, recurses := true, named := ["unicode/utf8.first", "unicode/utf8.acceptRanges", "flipbook/glyph.signs", "flipbook/glyph.wide", "internal/strconv.uint64pow10", "math/bits.deBruijn32tab", "math/bits.deBruijn64tab"], apart := false, laid := [("flipbook/glyph.wide", laid_flipbook_glyph_wide), ("flipbook/glyph.signs", laid_flipbook_glyph_signs), ("math/bits.deBruijn32tab", laid_math_bits_deBruijn32tab), ("math/bits.deBruijn64tab", laid_math_bits_deBruijn64tab), ("internal/strconv.uint64pow10", laid_internal_strconv_uint64pow10), ("unicode/utf8.acceptRanges", laid_unicode_utf8_acceptRanges), ("unicode/utf8.first", laid_unicode_utf8_first)] }
def LogKeylessSaid : Prop := logKeylessRow.holds Tryz.pinned (OpenSpec.ofChange logKeylessSpec)

/-- ITS FALSE NEIGHBOUR: 'it returns false'. Refute it at one input. -/
def logKeylessWrong : ChangeSpec := { name := "logKeyless", fn := fun _ => fun
  | [d1, d2] => { results := [.lit (.bool false)], args := [d1, d2] }
  | _ => none }
def LogKeylessWrongFalsely : Prop := logKeylessRow.holds Tryz.pinned (OpenSpec.ofChange logKeylessWrong)

/-- 'flipbooklaw13.LogAny': WHATEVER THE INPUT: true; the input reads as it did. -/
def logAnySpec : ChangeSpec := { name := "logAny", fn := fun _ => fun
  | [d] => { results := [.lit (.bool true)], args := [d] }
  | _ => none }
def logAnyRow : OpenClaim := { program := "ytjjcnhgpccancaagreatdoor", sum := "1261bf7866aa8c8c4244d8f68259894f37f59832b6d4de88783b0bd45cd24709", func := "flipbook/flipbooklaw13.LogAny", spec := "logAny", unfollowed := true, recurses := true, named := ["unicode/utf8.first", "unicode/utf8.acceptRanges", "flipbook/glyph.signs", "flipbook/glyph.wide", "internal/strconv.uint64pow10", "math/bits.deBruijn32tab", "math/bits.deBruijn64tab"], apart := false, laid := [("flipbook/glyph.wide", laid_flipbook_glyph_wide), ("flipbook/glyph.signs", laid_flipbook_glyph_signs), ("math/bits.deBruijn32tab", laid_math_bits_deBruijn32tab), ("math/bits.deBruijn64tab", laid_math_bits_deBruijn64tab), ("internal/strconv.uint64pow10", laid_internal_strconv_uint64pow10), ("unicode/utf8.acceptRanges", laid_unicode_utf8_acceptRanges), ("unicode/utf8.first", laid_unicode_utf8_first)] }
def LogAnySaid : Prop := logAnyRow.holds Tryz.pinned (OpenSpec.ofChange logAnySpec)

/-- ITS FALSE NEIGHBOUR: 'it returns false'. Refute it at one input. -/
def logAnyWrong : ChangeSpec := { name := "logAny", fn := fun _ => fun
  | [d] => { results := [.lit (.bool false)], args := [d] }
  | _ => none }
def LogAnyWrongFalsely : Prop := logAnyRow.holds Tryz.pinned (OpenSpec.ofChange logAnyWrong)

/-- 'flipbooklaw13.LogSpoils': WHATEVER THE INPUT: true; the input reads as it did. -/
def logSpoilsSpec : ChangeSpec := { name := "logSpoils", fn := fun _ => fun
  | [d1, d2, d3] => { results := [.lit (.bool true)], args := [d1, d2, d3] }
  | _ => none }
def logSpoilsRow : OpenClaim := { program := "ytjjcnhgpccancaagreatdoor", sum := "1261bf7866aa8c8c4244d8f68259894f37f59832b6d4de88783b0bd45cd24709", func := "flipbook/flipbooklaw13.LogSpoils", spec := "logSpoils", unfollowed := true, recurses := true, named := ["unicode/utf8.first", "unicode/utf8.acceptRanges", "flipbook/glyph.signs", "flipbook/glyph.wide", "internal/strconv.uint64pow10", "math/bits.deBruijn32tab", "math/bits.deBruijn64tab"], apart := false, laid := [("flipbook/glyph.wide", laid_flipbook_glyph_wide), ("flipbook/glyph.signs", laid_flipbook_glyph_signs), ("math/bits.deBruijn32tab", laid_math_bits_deBruijn32tab), ("math/bits.deBruijn64tab", laid_math_bits_deBruijn64tab), ("internal/strconv.uint64pow10", laid_internal_strconv_uint64pow10), ("unicode/utf8.acceptRanges", laid_unicode_utf8_acceptRanges), ("unicode/utf8.first", laid_unicode_utf8_first)] }
def LogSpoilsSaid : Prop := logSpoilsRow.holds Tryz.pinned (OpenSpec.ofChange logSpoilsSpec)

/-- ITS FALSE NEIGHBOUR: 'it returns false'. Refute it at one input. -/
def logSpoilsWrong : ChangeSpec := { name := "logSpoils", fn := fun _ => fun
  | [d1, d2, d3] => { results := [.lit (.bool false)], args := [d1, d2, d3] }
  | _ => none }
def LogSpoilsWrongFalsely : Prop := logSpoilsRow.holds Tryz.pinned (OpenSpec.ofChange logSpoilsWrong)

/-- 'flipbooklaw13.LogQuota': WHATEVER THE INPUT: true; the input reads as it did. -/
def logQuotaSpec : ChangeSpec := { name := "logQuota", fn := fun _ => fun
  | [d1, d2] => { results := [.lit (.bool true)], args := [d1, d2] }
  | _ => none }
def logQuotaRow : OpenClaim := { program := "ytjjcnhgpccancaagreatdoor", sum := "1261bf7866aa8c8c4244d8f68259894f37f59832b6d4de88783b0bd45cd24709", func := "flipbook/flipbooklaw13.LogQuota", spec := "logQuota", unfollowed := true, recurses := true, named := ["unicode/utf8.first", "unicode/utf8.acceptRanges", "flipbook/glyph.signs", "flipbook/glyph.wide", "internal/strconv.uint64pow10", "math/bits.deBruijn32tab", "math/bits.deBruijn64tab"], apart := false, laid := [("flipbook/glyph.wide", laid_flipbook_glyph_wide), ("flipbook/glyph.signs", laid_flipbook_glyph_signs), ("math/bits.deBruijn32tab", laid_math_bits_deBruijn32tab), ("math/bits.deBruijn64tab", laid_math_bits_deBruijn64tab), ("internal/strconv.uint64pow10", laid_internal_strconv_uint64pow10), ("unicode/utf8.acceptRanges", laid_unicode_utf8_acceptRanges), ("unicode/utf8.first", laid_unicode_utf8_first)] }
def LogQuotaSaid : Prop := logQuotaRow.holds Tryz.pinned (OpenSpec.ofChange logQuotaSpec)

/-- ITS FALSE NEIGHBOUR: 'it returns false'. Refute it at one input. -/
def logQuotaWrong : ChangeSpec := { name := "logQuota", fn := fun _ => fun
  | [d1, d2] => { results := [.lit (.bool false)], args := [d1, d2] }
  | _ => none }
def LogQuotaWrongFalsely : Prop := logQuotaRow.holds Tryz.pinned (OpenSpec.ofChange logQuotaWrong)

/-- 'flipbooklaw13.LogFinishes': WHATEVER THE INPUT: true; the input reads as it did. -/
def logFinishesSpec : ChangeSpec := { name := "logFinishes", fn := fun _ => fun
  | [d] => { results := [.lit (.bool true)], args := [d] }
  | _ => none }
def logFinishesRow : OpenClaim := { program := "ytjjcnhgpccancaagreatdoor", sum := "1261bf7866aa8c8c4244d8f68259894f37f59832b6d4de88783b0bd45cd24709", func := "flipbook/flipbooklaw13.LogFinishes", spec := "logFinishes", unfollowed := true, recurses := true, named := ["unicode/utf8.first", "unicode/utf8.acceptRanges", "flipbook/glyph.signs", "flipbook/glyph.wide", "internal/strconv.uint64pow10", "math/bits.deBruijn32tab", "math/bits.deBruijn64tab"], apart := false, laid := [("flipbook/glyph.wide", laid_flipbook_glyph_wide), ("flipbook/glyph.signs", laid_flipbook_glyph_signs), ("math/bits.deBruijn32tab", laid_math_bits_deBruijn32tab), ("math/bits.deBruijn64tab", laid_math_bits_deBruijn64tab), ("internal/strconv.uint64pow10", laid_internal_strconv_uint64pow10), ("unicode/utf8.acceptRanges", laid_unicode_utf8_acceptRanges), ("unicode/utf8.first", laid_unicode_utf8_first)] }
def LogFinishesSaid : Prop := logFinishesRow.holds Tryz.pinned (OpenSpec.ofChange logFinishesSpec)

/-- ITS FALSE NEIGHBOUR: 'it returns false'. Refute it at one input. -/
def logFinishesWrong : ChangeSpec := { name := "logFinishes", fn := fun _ => fun
  | [d] => { results := [.lit (.bool false)], args := [d] }
  | _ => none }
def LogFinishesWrongFalsely : Prop := logFinishesRow.holds Tryz.pinned (OpenSpec.ofChange logFinishesWrong)

/-- 'flipbooklaw13.LogCrash': WHATEVER THE INPUT: true; the input reads as it did. -/
def logCrashSpec : ChangeSpec := { name := "logCrash", fn := fun _ => fun
  | [d1, d2] => { results := [.lit (.bool true)], args := [d1, d2] }
  | _ => none }
def logCrashRow : OpenClaim := { program := "ytjjcnhgpccancaagreatdoor", sum := "1261bf7866aa8c8c4244d8f68259894f37f59832b6d4de88783b0bd45cd24709", func := "flipbook/flipbooklaw13.LogCrash", spec := "logCrash", unfollowed := true, recurses := true, named := ["unicode/utf8.first", "unicode/utf8.acceptRanges", "flipbook/glyph.signs", "flipbook/glyph.wide", "internal/strconv.uint64pow10", "math/bits.deBruijn32tab", "math/bits.deBruijn64tab"], apart := false, laid := [("flipbook/glyph.wide", laid_flipbook_glyph_wide), ("flipbook/glyph.signs", laid_flipbook_glyph_signs), ("math/bits.deBruijn32tab", laid_math_bits_deBruijn32tab), ("math/bits.deBruijn64tab", laid_math_bits_deBruijn64tab), ("internal/strconv.uint64pow10", laid_internal_strconv_uint64pow10), ("unicode/utf8.acceptRanges", laid_unicode_utf8_acceptRanges), ("unicode/utf8.first", laid_unicode_utf8_first)] }
def LogCrashSaid : Prop := logCrashRow.holds Tryz.pinned (OpenSpec.ofChange logCrashSpec)

/-- ITS FALSE NEIGHBOUR: 'it returns false'. Refute it at one input. -/
def logCrashWrong : ChangeSpec := { name := "logCrash", fn := fun _ => fun
  | [d1, d2] => { results := [.lit (.bool false)], args := [d1, d2] }
  | _ => none }
def LogCrashWrongFalsely : Prop := logCrashRow.holds Tryz.pinned (OpenSpec.ofChange logCrashWrong)

/-- 'flipbooklaw13.LogResumes': WHATEVER THE INPUT: true; the input reads as it did. -/
def logResumesSpec : ChangeSpec := { name := "logResumes", fn := fun _ => fun
  | [d1, d2, d3] => { results := [.lit (.bool true)], args := [d1, d2, d3] }
  | _ => none }
def logResumesRow : OpenClaim := { program := "ytjjcnhgpccancaagreatdoor", sum := "1261bf7866aa8c8c4244d8f68259894f37f59832b6d4de88783b0bd45cd24709", func := "flipbook/flipbooklaw13.LogResumes", spec := "logResumes", unfollowed := true, recurses := true, named := ["unicode/utf8.first", "unicode/utf8.acceptRanges", "flipbook/glyph.signs", "flipbook/glyph.wide", "internal/strconv.uint64pow10", "math/bits.deBruijn32tab", "math/bits.deBruijn64tab"], apart := false, laid := [("flipbook/glyph.wide", laid_flipbook_glyph_wide), ("flipbook/glyph.signs", laid_flipbook_glyph_signs), ("math/bits.deBruijn32tab", laid_math_bits_deBruijn32tab), ("math/bits.deBruijn64tab", laid_math_bits_deBruijn64tab), ("internal/strconv.uint64pow10", laid_internal_strconv_uint64pow10), ("unicode/utf8.acceptRanges", laid_unicode_utf8_acceptRanges), ("unicode/utf8.first", laid_unicode_utf8_first)] }
def LogResumesSaid : Prop := logResumesRow.holds Tryz.pinned (OpenSpec.ofChange logResumesSpec)

/-- ITS FALSE NEIGHBOUR: 'it returns false'. Refute it at one input. -/
def logResumesWrong : ChangeSpec := { name := "logResumes", fn := fun _ => fun
  | [d1, d2, d3] => { results := [.lit (.bool false)], args := [d1, d2, d3] }
  | _ => none }
def LogResumesWrongFalsely : Prop := logResumesRow.holds Tryz.pinned (OpenSpec.ofChange logResumesWrong)

/-- 'flipbooklaw13.LogFuses': WHATEVER THE INPUT: true; the input reads as it did. -/
def logFusesSpec : ChangeSpec := { name := "logFuses", fn := fun _ => fun
  | [d1, d2, d3] => { results := [.lit (.bool true)], args := [d1, d2, d3] }
  | _ => none }
def logFusesRow : OpenClaim := { program := "ytjjcnhgpccancaagreatdoor", sum := "1261bf7866aa8c8c4244d8f68259894f37f59832b6d4de88783b0bd45cd24709", func := "flipbook/flipbooklaw13.LogFuses", spec := "logFuses", unfollowed := true, recurses := true, named := ["unicode/utf8.first", "unicode/utf8.acceptRanges", "flipbook/glyph.signs", "flipbook/glyph.wide", "internal/strconv.uint64pow10", "math/bits.deBruijn32tab", "math/bits.deBruijn64tab"], apart := false, laid := [("flipbook/glyph.wide", laid_flipbook_glyph_wide), ("flipbook/glyph.signs", laid_flipbook_glyph_signs), ("math/bits.deBruijn32tab", laid_math_bits_deBruijn32tab), ("math/bits.deBruijn64tab", laid_math_bits_deBruijn64tab), ("internal/strconv.uint64pow10", laid_internal_strconv_uint64pow10), ("unicode/utf8.acceptRanges", laid_unicode_utf8_acceptRanges), ("unicode/utf8.first", laid_unicode_utf8_first)] }
def LogFusesSaid : Prop := logFusesRow.holds Tryz.pinned (OpenSpec.ofChange logFusesSpec)

/-- ITS FALSE NEIGHBOUR: 'it returns false'. Refute it at one input. -/
def logFusesWrong : ChangeSpec := { name := "logFuses", fn := fun _ => fun
  | [d1, d2, d3] => { results := [.lit (.bool false)], args := [d1, d2, d3] }
  | _ => none }
def LogFusesWrongFalsely : Prop := logFusesRow.holds Tryz.pinned (OpenSpec.ofChange logFusesWrong)

/- THE SECOND FORM. 'bulk': how many values and letters a reading holds, each counted each time it is reached (what is shared counts as often as it is met; a slice's spare places count too). A statement '..UptoSaid' is the law's where the arguments, and the package variables that the reading takes, are together of bulk at most 1048576: NARROWER than '..Said'. Prove '..Said' where nothing that the law and all that it calls make is longer than what came in: it says more and counts as full. Else prove '..UptoSaid'. A law counts once. -/
mutual
def uptoBulk {H : Type} : DataW H → Nat
  | .lit (.string bytes) => bytes.length + 1
  | .lit _ => 1
  | .nil => 1
  | .ptr d => uptoBulk d + 1
  | .slice elems spare => uptoBulkAll elems + uptoBulkAll spare + 1
  | .agg parts => uptoBulkAll parts + 1
  | .iface _ d => uptoBulk d + 1
  | .map entries => uptoBulkEntries entries + 1
  | .held _ => 1
def uptoBulkAll {H : Type} : List (DataW H) → Nat
  | [] => 0
  | d :: r => uptoBulk d + uptoBulkAll r
def uptoBulkEntries {H : Type} : List (Lit × DataW H) → Nat
  | [] => 0
  | x :: r => uptoBulkEntry x + uptoBulkEntries r
def uptoBulkEntry {H : Type} : Lit × DataW H → Nat
  | (.string bytes, d) => bytes.length + uptoBulk d + 1
  | (_, d) => uptoBulk d + 1
 end
def uptoSmall : (H : Type) → List (DataW H) → Bool := fun _ ds => decide (uptoBulkAll ds ≤ 1048576)
def OpenSpec.upto (s : _root_.Go.ChangeSpec) : _root_.Go.OpenSpec := { _root_.Go.OpenSpec.ofChange s with cond := some uptoSmall }

/-- 'flipbooklaw13.LogBack', WHERE WHAT IT READS IS OF BULK AT MOST 1048576: true; the input reads as it did. -/
def logBackUptoRow : OpenClaim := { program := "ytjjcnhgpccancaagreatdoor", sum := "1261bf7866aa8c8c4244d8f68259894f37f59832b6d4de88783b0bd45cd24709", func := "flipbook/flipbooklaw13.LogBack", spec := "logBack", unfollowed := true, recurses := true, named := ["unicode/utf8.first", "unicode/utf8.acceptRanges", "flipbook/glyph.signs", "flipbook/glyph.wide", "internal/strconv.uint64pow10", "math/bits.deBruijn32tab", "math/bits.deBruijn64tab"], apart := false, laid := [("flipbook/glyph.wide", laid_flipbook_glyph_wide), ("flipbook/glyph.signs", laid_flipbook_glyph_signs), ("math/bits.deBruijn32tab", laid_math_bits_deBruijn32tab), ("math/bits.deBruijn64tab", laid_math_bits_deBruijn64tab), ("internal/strconv.uint64pow10", laid_internal_strconv_uint64pow10), ("unicode/utf8.acceptRanges", laid_unicode_utf8_acceptRanges), ("unicode/utf8.first", laid_unicode_utf8_first)], narrowed := true }
def LogBackUptoSaid : Prop := logBackUptoRow.holds Tryz.pinned (OpenSpec.upto logBackSpec)

/-- 'flipbooklaw13.LogBytes', WHERE WHAT IT READS IS OF BULK AT MOST 1048576: true; the input reads as it did. -/
def logBytesUptoRow : OpenClaim := { program := "ytjjcnhgpccancaagreatdoor", sum := "1261bf7866aa8c8c4244d8f68259894f37f59832b6d4de88783b0bd45cd24709", func := "flipbook/flipbooklaw13.LogBytes", spec := "logBytes", unfollowed := true, recurses := true, named := ["unicode/utf8.first", "unicode/utf8.acceptRanges", "flipbook/glyph.signs", "flipbook/glyph.wide", "internal/strconv.uint64pow10", "math/bits.deBruijn32tab", "math/bits.deBruijn64tab"], apart := false, laid := [("flipbook/glyph.wide", laid_flipbook_glyph_wide), ("flipbook/glyph.signs", laid_flipbook_glyph_signs), ("math/bits.deBruijn32tab", laid_math_bits_deBruijn32tab), ("math/bits.deBruijn64tab", laid_math_bits_deBruijn64tab), ("internal/strconv.uint64pow10", laid_internal_strconv_uint64pow10), ("unicode/utf8.acceptRanges", laid_unicode_utf8_acceptRanges), ("unicode/utf8.first", laid_unicode_utf8_first)], narrowed := true }
def LogBytesUptoSaid : Prop := logBytesUptoRow.holds Tryz.pinned (OpenSpec.upto logBytesSpec)

/-- 'flipbooklaw13.LogKeys', WHERE WHAT IT READS IS OF BULK AT MOST 1048576: true; the input reads as it did. -/
def logKeysUptoRow : OpenClaim := { program := "ytjjcnhgpccancaagreatdoor", sum := "1261bf7866aa8c8c4244d8f68259894f37f59832b6d4de88783b0bd45cd24709", func := "flipbook/flipbooklaw13.LogKeys", spec := "logKeys", unfollowed := true, recurses := true, named := ["unicode/utf8.first", "unicode/utf8.acceptRanges", "flipbook/glyph.signs", "flipbook/glyph.wide", "internal/strconv.uint64pow10", "math/bits.deBruijn32tab", "math/bits.deBruijn64tab"], apart := false, laid := [("flipbook/glyph.wide", laid_flipbook_glyph_wide), ("flipbook/glyph.signs", laid_flipbook_glyph_signs), ("math/bits.deBruijn32tab", laid_math_bits_deBruijn32tab), ("math/bits.deBruijn64tab", laid_math_bits_deBruijn64tab), ("internal/strconv.uint64pow10", laid_internal_strconv_uint64pow10), ("unicode/utf8.acceptRanges", laid_unicode_utf8_acceptRanges), ("unicode/utf8.first", laid_unicode_utf8_first)], narrowed := true }
def LogKeysUptoSaid : Prop := logKeysUptoRow.holds Tryz.pinned (OpenSpec.upto logKeysSpec)

/-- 'flipbooklaw13.LogKeyless', WHERE WHAT IT READS IS OF BULK AT MOST 1048576: true; the input reads as it did. -/
def logKeylessUptoRow : OpenClaim := { program := "ytjjcnhgpccancaagreatdoor", sum := "1261bf7866aa8c8c4244d8f68259894f37f59832b6d4de88783b0bd45cd24709", func := "flipbook/flipbooklaw13.LogKeyless", spec := "logKeyless", unfollowed := true, recurses := true, named := ["unicode/utf8.first", "unicode/utf8.acceptRanges", "flipbook/glyph.signs", "flipbook/glyph.wide", "internal/strconv.uint64pow10", "math/bits.deBruijn32tab", "math/bits.deBruijn64tab"], apart := false, laid := [("flipbook/glyph.wide", laid_flipbook_glyph_wide), ("flipbook/glyph.signs", laid_flipbook_glyph_signs), ("math/bits.deBruijn32tab", laid_math_bits_deBruijn32tab), ("math/bits.deBruijn64tab", laid_math_bits_deBruijn64tab), ("internal/strconv.uint64pow10", laid_internal_strconv_uint64pow10), ("unicode/utf8.acceptRanges", laid_unicode_utf8_acceptRanges), ("unicode/utf8.first", laid_unicode_utf8_first)], narrowed := true }
def LogKeylessUptoSaid : Prop := logKeylessUptoRow.holds Tryz.pinned (OpenSpec.upto logKeylessSpec)

/-- 'flipbooklaw13.LogAny', WHERE WHAT IT READS IS OF BULK AT MOST 1048576: true; the input reads as it did. -/
def logAnyUptoRow : OpenClaim := { program := "ytjjcnhgpccancaagreatdoor", sum := "1261bf7866aa8c8c4244d8f68259894f37f59832b6d4de88783b0bd45cd24709", func := "flipbook/flipbooklaw13.LogAny", spec := "logAny", unfollowed := true, recurses := true, named := ["unicode/utf8.first", "unicode/utf8.acceptRanges", "flipbook/glyph.signs", "flipbook/glyph.wide", "internal/strconv.uint64pow10", "math/bits.deBruijn32tab", "math/bits.deBruijn64tab"], apart := false, laid := [("flipbook/glyph.wide", laid_flipbook_glyph_wide), ("flipbook/glyph.signs", laid_flipbook_glyph_signs), ("math/bits.deBruijn32tab", laid_math_bits_deBruijn32tab), ("math/bits.deBruijn64tab", laid_math_bits_deBruijn64tab), ("internal/strconv.uint64pow10", laid_internal_strconv_uint64pow10), ("unicode/utf8.acceptRanges", laid_unicode_utf8_acceptRanges), ("unicode/utf8.first", laid_unicode_utf8_first)], narrowed := true }
def LogAnyUptoSaid : Prop := logAnyUptoRow.holds Tryz.pinned (OpenSpec.upto logAnySpec)

/-- 'flipbooklaw13.LogSpoils', WHERE WHAT IT READS IS OF BULK AT MOST 1048576: true; the input reads as it did. -/
def logSpoilsUptoRow : OpenClaim := { program := "ytjjcnhgpccancaagreatdoor", sum := "1261bf7866aa8c8c4244d8f68259894f37f59832b6d4de88783b0bd45cd24709", func := "flipbook/flipbooklaw13.LogSpoils", spec := "logSpoils", unfollowed := true, recurses := true, named := ["unicode/utf8.first", "unicode/utf8.acceptRanges", "flipbook/glyph.signs", "flipbook/glyph.wide", "internal/strconv.uint64pow10", "math/bits.deBruijn32tab", "math/bits.deBruijn64tab"], apart := false, laid := [("flipbook/glyph.wide", laid_flipbook_glyph_wide), ("flipbook/glyph.signs", laid_flipbook_glyph_signs), ("math/bits.deBruijn32tab", laid_math_bits_deBruijn32tab), ("math/bits.deBruijn64tab", laid_math_bits_deBruijn64tab), ("internal/strconv.uint64pow10", laid_internal_strconv_uint64pow10), ("unicode/utf8.acceptRanges", laid_unicode_utf8_acceptRanges), ("unicode/utf8.first", laid_unicode_utf8_first)], narrowed := true }
def LogSpoilsUptoSaid : Prop := logSpoilsUptoRow.holds Tryz.pinned (OpenSpec.upto logSpoilsSpec)

/-- 'flipbooklaw13.LogQuota', WHERE WHAT IT READS IS OF BULK AT MOST 1048576: true; the input reads as it did. -/
def logQuotaUptoRow : OpenClaim := { program := "ytjjcnhgpccancaagreatdoor", sum := "1261bf7866aa8c8c4244d8f68259894f37f59832b6d4de88783b0bd45cd24709", func := "flipbook/flipbooklaw13.LogQuota", spec := "logQuota", unfollowed := true, recurses := true, named := ["unicode/utf8.first", "unicode/utf8.acceptRanges", "flipbook/glyph.signs", "flipbook/glyph.wide", "internal/strconv.uint64pow10", "math/bits.deBruijn32tab", "math/bits.deBruijn64tab"], apart := false, laid := [("flipbook/glyph.wide", laid_flipbook_glyph_wide), ("flipbook/glyph.signs", laid_flipbook_glyph_signs), ("math/bits.deBruijn32tab", laid_math_bits_deBruijn32tab), ("math/bits.deBruijn64tab", laid_math_bits_deBruijn64tab), ("internal/strconv.uint64pow10", laid_internal_strconv_uint64pow10), ("unicode/utf8.acceptRanges", laid_unicode_utf8_acceptRanges), ("unicode/utf8.first", laid_unicode_utf8_first)], narrowed := true }
def LogQuotaUptoSaid : Prop := logQuotaUptoRow.holds Tryz.pinned (OpenSpec.upto logQuotaSpec)

/-- 'flipbooklaw13.LogFinishes', WHERE WHAT IT READS IS OF BULK AT MOST 1048576: true; the input reads as it did. -/
def logFinishesUptoRow : OpenClaim := { program := "ytjjcnhgpccancaagreatdoor", sum := "1261bf7866aa8c8c4244d8f68259894f37f59832b6d4de88783b0bd45cd24709", func := "flipbook/flipbooklaw13.LogFinishes", spec := "logFinishes", unfollowed := true, recurses := true, named := ["unicode/utf8.first", "unicode/utf8.acceptRanges", "flipbook/glyph.signs", "flipbook/glyph.wide", "internal/strconv.uint64pow10", "math/bits.deBruijn32tab", "math/bits.deBruijn64tab"], apart := false, laid := [("flipbook/glyph.wide", laid_flipbook_glyph_wide), ("flipbook/glyph.signs", laid_flipbook_glyph_signs), ("math/bits.deBruijn32tab", laid_math_bits_deBruijn32tab), ("math/bits.deBruijn64tab", laid_math_bits_deBruijn64tab), ("internal/strconv.uint64pow10", laid_internal_strconv_uint64pow10), ("unicode/utf8.acceptRanges", laid_unicode_utf8_acceptRanges), ("unicode/utf8.first", laid_unicode_utf8_first)], narrowed := true }
def LogFinishesUptoSaid : Prop := logFinishesUptoRow.holds Tryz.pinned (OpenSpec.upto logFinishesSpec)

/-- 'flipbooklaw13.LogCrash', WHERE WHAT IT READS IS OF BULK AT MOST 1048576: true; the input reads as it did. -/
def logCrashUptoRow : OpenClaim := { program := "ytjjcnhgpccancaagreatdoor", sum := "1261bf7866aa8c8c4244d8f68259894f37f59832b6d4de88783b0bd45cd24709", func := "flipbook/flipbooklaw13.LogCrash", spec := "logCrash", unfollowed := true, recurses := true, named := ["unicode/utf8.first", "unicode/utf8.acceptRanges", "flipbook/glyph.signs", "flipbook/glyph.wide", "internal/strconv.uint64pow10", "math/bits.deBruijn32tab", "math/bits.deBruijn64tab"], apart := false, laid := [("flipbook/glyph.wide", laid_flipbook_glyph_wide), ("flipbook/glyph.signs", laid_flipbook_glyph_signs), ("math/bits.deBruijn32tab", laid_math_bits_deBruijn32tab), ("math/bits.deBruijn64tab", laid_math_bits_deBruijn64tab), ("internal/strconv.uint64pow10", laid_internal_strconv_uint64pow10), ("unicode/utf8.acceptRanges", laid_unicode_utf8_acceptRanges), ("unicode/utf8.first", laid_unicode_utf8_first)], narrowed := true }
def LogCrashUptoSaid : Prop := logCrashUptoRow.holds Tryz.pinned (OpenSpec.upto logCrashSpec)

/-- 'flipbooklaw13.LogResumes', WHERE WHAT IT READS IS OF BULK AT MOST 1048576: true; the input reads as it did. -/
def logResumesUptoRow : OpenClaim := { program := "ytjjcnhgpccancaagreatdoor", sum := "1261bf7866aa8c8c4244d8f68259894f37f59832b6d4de88783b0bd45cd24709", func := "flipbook/flipbooklaw13.LogResumes", spec := "logResumes", unfollowed := true, recurses := true, named := ["unicode/utf8.first", "unicode/utf8.acceptRanges", "flipbook/glyph.signs", "flipbook/glyph.wide", "internal/strconv.uint64pow10", "math/bits.deBruijn32tab", "math/bits.deBruijn64tab"], apart := false, laid := [("flipbook/glyph.wide", laid_flipbook_glyph_wide), ("flipbook/glyph.signs", laid_flipbook_glyph_signs), ("math/bits.deBruijn32tab", laid_math_bits_deBruijn32tab), ("math/bits.deBruijn64tab", laid_math_bits_deBruijn64tab), ("internal/strconv.uint64pow10", laid_internal_strconv_uint64pow10), ("unicode/utf8.acceptRanges", laid_unicode_utf8_acceptRanges), ("unicode/utf8.first", laid_unicode_utf8_first)], narrowed := true }
def LogResumesUptoSaid : Prop := logResumesUptoRow.holds Tryz.pinned (OpenSpec.upto logResumesSpec)

/-- 'flipbooklaw13.LogFuses', WHERE WHAT IT READS IS OF BULK AT MOST 1048576: true; the input reads as it did. -/
def logFusesUptoRow : OpenClaim := { program := "ytjjcnhgpccancaagreatdoor", sum := "1261bf7866aa8c8c4244d8f68259894f37f59832b6d4de88783b0bd45cd24709", func := "flipbook/flipbooklaw13.LogFuses", spec := "logFuses", unfollowed := true, recurses := true, named := ["unicode/utf8.first", "unicode/utf8.acceptRanges", "flipbook/glyph.signs", "flipbook/glyph.wide", "internal/strconv.uint64pow10", "math/bits.deBruijn32tab", "math/bits.deBruijn64tab"], apart := false, laid := [("flipbook/glyph.wide", laid_flipbook_glyph_wide), ("flipbook/glyph.signs", laid_flipbook_glyph_signs), ("math/bits.deBruijn32tab", laid_math_bits_deBruijn32tab), ("math/bits.deBruijn64tab", laid_math_bits_deBruijn64tab), ("internal/strconv.uint64pow10", laid_internal_strconv_uint64pow10), ("unicode/utf8.acceptRanges", laid_unicode_utf8_acceptRanges), ("unicode/utf8.first", laid_unicode_utf8_first)], narrowed := true }
def LogFusesUptoSaid : Prop := logFusesUptoRow.holds Tryz.pinned (OpenSpec.upto logFusesSpec)

end Rows
end Go.Proofs.YtjjcnhgpccancaaGreatDoor
