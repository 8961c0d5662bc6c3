/-
  NARROWER THAN 'FOR EVERY INPUT', by the rows' own cells (each row's printed sentence says how): TermBytes: laid · TermRuns: laid · TermBounds: laid.
  DERIVED. THE GIVEN ROWS OF THIS SEAT. 3 by the template 'for every input the law returns true; each argument reads behind the call as it read before'; 0 by the template 'total and deterministic' (their statements: YteoejhjfbfacdaaGreatDoorTotals.lean).
  GIVEN WITH THE SEED: the statements are not yours to turn. If you find one false, say at which input.
  Laid BY PROGRAM, IN A SANDBOX (cutbox-rows.mjs): the forced cells as the released guide's own fill.sh prints them over the translation ac9d4d6a9bcb86f0… (all of the seat's roots in one cut). By AI agents, Wed Nov 11 2026. No macro, syntax, notation, axiom, sorry.
-/
import Derived.Test.YteoejhjfbfacdaaGreatDoorChecked
import GoSem.PinnedTables
import GoSem.Claim
import GoSem.ClaimJoined
import GoSem.ClaimMapViews
import Derived.JoinedTies
import Derived.KernelRfl
namespace Go.Proofs.YteoejhjfbfacdaaGreatDoor
/- THE CELL 'sum', in the pinned program and in every row, IS THE sha256 OF THE DUMP (.gsa) THAT YteoejhjfbfacdaaGreatDoorProg.lean LOADS. Nothing in Lean hashes anything: it is a label: what it is worth is what the hold of that sum in a sandbox is worth. -/
noncomputable def Tryz.pinned : Pinned := { name := "yteoejhjfbfacdaagreatdoor", sum := "ac9d4d6a9bcb86f0414d5b5ba75b5514b7fe1cc061cdf1f8ad5b78b3fd2f3550", checked := Tryz.checked }
namespace Rows
def none {H : Type} : Left H := { results := [], args := [] }

/- WHAT THE LISTED PACKAGE-LEVEL VARIABLES READ AS WHEN THE CALL BEGINS. Each datum BY PROGRAM (the guide's laid-datum.mjs) off the statement by which the dump's own 'gosem.cut.vars' lays the variable. In a bare row this is a premise. The card (YteoejhjfbfacdaaGreatDoorCards.lean) ties it to the program's text. -/
def laid_flipbook_glyph_wide {H : Type} : DataW H := .agg [.lit (.int .i32 4352), .lit (.int .i32 4447), .lit (.int .i32 11904), .lit (.int .i32 42191), .lit (.int .i32 44032), .lit (.int .i32 55203), .lit (.int .i32 63744), .lit (.int .i32 64255), .lit (.int .i32 65072), .lit (.int .i32 65135), .lit (.int .i32 65280), .lit (.int .i32 65376), .lit (.int .i32 65504), .lit (.int .i32 65510), .lit (.int .i32 127744), .lit (.int .i32 128591), .lit (.int .i32 131072), .lit (.int .i32 262141)]
def laid_flipbook_glyph_signs {H : Type} : DataW H := .agg [.lit (.int .i32 9670), .lit (.int .i32 9618), .lit (.int .i32 9225), .lit (.int .i32 9228), .lit (.int .i32 9229), .lit (.int .i32 9226), .lit (.int .i32 176), .lit (.int .i32 177), .lit (.int .i32 9252), .lit (.int .i32 9227), .lit (.int .i32 9496), .lit (.int .i32 9488), .lit (.int .i32 9484), .lit (.int .i32 9492), .lit (.int .i32 9532), .lit (.int .i32 9146), .lit (.int .i32 9147), .lit (.int .i32 9472), .lit (.int .i32 9148), .lit (.int .i32 9149), .lit (.int .i32 9500), .lit (.int .i32 9508), .lit (.int .i32 9524), .lit (.int .i32 9516), .lit (.int .i32 9474), .lit (.int .i32 8804), .lit (.int .i32 8805), .lit (.int .i32 960), .lit (.int .i32 8800), .lit (.int .i32 163), .lit (.int .i32 183)]
def laid_math_bits_deBruijn32tab {H : Type} : DataW H := .agg [.lit (.int .u8 0), .lit (.int .u8 1), .lit (.int .u8 28), .lit (.int .u8 2), .lit (.int .u8 29), .lit (.int .u8 14), .lit (.int .u8 24), .lit (.int .u8 3), .lit (.int .u8 30), .lit (.int .u8 22), .lit (.int .u8 20), .lit (.int .u8 15), .lit (.int .u8 25), .lit (.int .u8 17), .lit (.int .u8 4), .lit (.int .u8 8), .lit (.int .u8 31), .lit (.int .u8 27), .lit (.int .u8 13), .lit (.int .u8 23), .lit (.int .u8 21), .lit (.int .u8 19), .lit (.int .u8 16), .lit (.int .u8 7), .lit (.int .u8 26), .lit (.int .u8 12), .lit (.int .u8 18), .lit (.int .u8 6), .lit (.int .u8 11), .lit (.int .u8 5), .lit (.int .u8 10), .lit (.int .u8 9)]
def laid_math_bits_deBruijn64tab {H : Type} : DataW H := .agg [.lit (.int .u8 0), .lit (.int .u8 1), .lit (.int .u8 56), .lit (.int .u8 2), .lit (.int .u8 57), .lit (.int .u8 49), .lit (.int .u8 28), .lit (.int .u8 3), .lit (.int .u8 61), .lit (.int .u8 58), .lit (.int .u8 42), .lit (.int .u8 50), .lit (.int .u8 38), .lit (.int .u8 29), .lit (.int .u8 17), .lit (.int .u8 4), .lit (.int .u8 62), .lit (.int .u8 47), .lit (.int .u8 59), .lit (.int .u8 36), .lit (.int .u8 45), .lit (.int .u8 43), .lit (.int .u8 51), .lit (.int .u8 22), .lit (.int .u8 53), .lit (.int .u8 39), .lit (.int .u8 33), .lit (.int .u8 30), .lit (.int .u8 24), .lit (.int .u8 18), .lit (.int .u8 12), .lit (.int .u8 5), .lit (.int .u8 63), .lit (.int .u8 55), .lit (.int .u8 48), .lit (.int .u8 27), .lit (.int .u8 60), .lit (.int .u8 41), .lit (.int .u8 37), .lit (.int .u8 16), .lit (.int .u8 46), .lit (.int .u8 35), .lit (.int .u8 44), .lit (.int .u8 21), .lit (.int .u8 52), .lit (.int .u8 32), .lit (.int .u8 23), .lit (.int .u8 11), .lit (.int .u8 54), .lit (.int .u8 26), .lit (.int .u8 40), .lit (.int .u8 15), .lit (.int .u8 34), .lit (.int .u8 20), .lit (.int .u8 31), .lit (.int .u8 10), .lit (.int .u8 25), .lit (.int .u8 14), .lit (.int .u8 19), .lit (.int .u8 9), .lit (.int .u8 13), .lit (.int .u8 8), .lit (.int .u8 7), .lit (.int .u8 6)]
def laid_internal_strconv_uint64pow10 {H : Type} : DataW H := .agg [.lit (.int .u64 1), .lit (.int .u64 10), .lit (.int .u64 100), .lit (.int .u64 1000), .lit (.int .u64 10000), .lit (.int .u64 100000), .lit (.int .u64 1000000), .lit (.int .u64 10000000), .lit (.int .u64 100000000), .lit (.int .u64 1000000000), .lit (.int .u64 10000000000), .lit (.int .u64 100000000000), .lit (.int .u64 1000000000000), .lit (.int .u64 10000000000000), .lit (.int .u64 100000000000000), .lit (.int .u64 1000000000000000), .lit (.int .u64 10000000000000000), .lit (.int .u64 100000000000000000), .lit (.int .u64 1000000000000000000), .lit (.int .u64 10000000000000000000)]
def laid_unicode_utf8_acceptRanges {H : Type} : DataW H := .agg [.agg [.lit (.int .u8 128), .lit (.int .u8 191)], .agg [.lit (.int .u8 160), .lit (.int .u8 191)], .agg [.lit (.int .u8 128), .lit (.int .u8 159)], .agg [.lit (.int .u8 144), .lit (.int .u8 191)], .agg [.lit (.int .u8 128), .lit (.int .u8 143)], .agg [.lit (.int .u8 0), .lit (.int .u8 0)], .agg [.lit (.int .u8 0), .lit (.int .u8 0)], .agg [.lit (.int .u8 0), .lit (.int .u8 0)], .agg [.lit (.int .u8 0), .lit (.int .u8 0)], .agg [.lit (.int .u8 0), .lit (.int .u8 0)], .agg [.lit (.int .u8 0), .lit (.int .u8 0)], .agg [.lit (.int .u8 0), .lit (.int .u8 0)], .agg [.lit (.int .u8 0), .lit (.int .u8 0)], .agg [.lit (.int .u8 0), .lit (.int .u8 0)], .agg [.lit (.int .u8 0), .lit (.int .u8 0)], .agg [.lit (.int .u8 0), .lit (.int .u8 0)]]
/-- One of Go's own tables, pinned by name: the form's constant. -/
def laid_unicode_utf8_first : DataW Unit := Go.Pinned.utf8First

/-- 'flipbooklaw10.TermBytes': WHATEVER THE INPUT: true; the input reads as it did. -/
def termBytesSpec : ChangeSpec := { name := "termBytes", fn := fun _ => fun
  | [d1, d2] => { results := [.lit (.bool true)], args := [d1, d2] }
  | _ => none }
def termBytesRow : OpenClaim := { program := "yteoejhjfbfacdaagreatdoor", sum := "ac9d4d6a9bcb86f0414d5b5ba75b5514b7fe1cc061cdf1f8ad5b78b3fd2f3550", func := "flipbook/flipbooklaw10.TermBytes", spec := "termBytes", named := ["unicode/utf8.first", "unicode/utf8.acceptRanges", "flipbook/glyph.signs", "flipbook/glyph.wide", "internal/strconv.uint64pow10", "math/bits.deBruijn32tab", "math/bits.deBruijn64tab"], apart := false, laid := [("flipbook/glyph.wide", laid_flipbook_glyph_wide), ("flipbook/glyph.signs", laid_flipbook_glyph_signs), ("math/bits.deBruijn32tab", laid_math_bits_deBruijn32tab), ("math/bits.deBruijn64tab", laid_math_bits_deBruijn64tab), ("internal/strconv.uint64pow10", laid_internal_strconv_uint64pow10), ("unicode/utf8.acceptRanges", laid_unicode_utf8_acceptRanges), ("unicode/utf8.first", laid_unicode_utf8_first)] }
def TermBytesSaid : Prop := termBytesRow.holds Tryz.pinned (OpenSpec.ofChange termBytesSpec)

/-- ITS FALSE NEIGHBOUR: 'it returns false'. Refute it at one input. -/
def termBytesWrong : ChangeSpec := { name := "termBytes", fn := fun _ => fun
  | [d1, d2] => { results := [.lit (.bool false)], args := [d1, d2] }
  | _ => none }
def TermBytesWrongFalsely : Prop := termBytesRow.holds Tryz.pinned (OpenSpec.ofChange termBytesWrong)

/-- 'flipbooklaw10.TermRuns': WHATEVER THE INPUT: true; the input reads as it did. -/
def termRunsSpec : ChangeSpec := { name := "termRuns", fn := fun _ => fun
  | [d1, d2] => { results := [.lit (.bool true)], args := [d1, d2] }
  | _ => none }
def termRunsRow : OpenClaim := { program := "yteoejhjfbfacdaagreatdoor", sum := "ac9d4d6a9bcb86f0414d5b5ba75b5514b7fe1cc061cdf1f8ad5b78b3fd2f3550", func := "flipbook/flipbooklaw10.TermRuns", spec := "termRuns", named := ["unicode/utf8.first", "unicode/utf8.acceptRanges", "flipbook/glyph.signs", "flipbook/glyph.wide", "internal/strconv.uint64pow10", "math/bits.deBruijn32tab", "math/bits.deBruijn64tab"], apart := false, laid := [("flipbook/glyph.wide", laid_flipbook_glyph_wide), ("flipbook/glyph.signs", laid_flipbook_glyph_signs), ("math/bits.deBruijn32tab", laid_math_bits_deBruijn32tab), ("math/bits.deBruijn64tab", laid_math_bits_deBruijn64tab), ("internal/strconv.uint64pow10", laid_internal_strconv_uint64pow10), ("unicode/utf8.acceptRanges", laid_unicode_utf8_acceptRanges), ("unicode/utf8.first", laid_unicode_utf8_first)] }
def TermRunsSaid : Prop := termRunsRow.holds Tryz.pinned (OpenSpec.ofChange termRunsSpec)

/-- ITS FALSE NEIGHBOUR: 'it returns false'. Refute it at one input. -/
def termRunsWrong : ChangeSpec := { name := "termRuns", fn := fun _ => fun
  | [d1, d2] => { results := [.lit (.bool false)], args := [d1, d2] }
  | _ => none }
def TermRunsWrongFalsely : Prop := termRunsRow.holds Tryz.pinned (OpenSpec.ofChange termRunsWrong)

/-- 'flipbooklaw10.TermBounds': WHATEVER THE INPUT: true; the input reads as it did. -/
def termBoundsSpec : ChangeSpec := { name := "termBounds", fn := fun _ => fun
  | [d1, d2] => { results := [.lit (.bool true)], args := [d1, d2] }
  | _ => none }
def termBoundsRow : OpenClaim := { program := "yteoejhjfbfacdaagreatdoor", sum := "ac9d4d6a9bcb86f0414d5b5ba75b5514b7fe1cc061cdf1f8ad5b78b3fd2f3550", func := "flipbook/flipbooklaw10.TermBounds", spec := "termBounds", unfollowed := true, recurses := true, named := ["unicode/utf8.first", "unicode/utf8.acceptRanges", "flipbook/glyph.signs", "flipbook/glyph.wide", "internal/strconv.uint64pow10", "math/bits.deBruijn32tab", "math/bits.deBruijn64tab"], apart := false, laid := [("flipbook/glyph.wide", laid_flipbook_glyph_wide), ("flipbook/glyph.signs", laid_flipbook_glyph_signs), ("math/bits.deBruijn32tab", laid_math_bits_deBruijn32tab), ("math/bits.deBruijn64tab", laid_math_bits_deBruijn64tab), ("internal/strconv.uint64pow10", laid_internal_strconv_uint64pow10), ("unicode/utf8.acceptRanges", laid_unicode_utf8_acceptRanges), ("unicode/utf8.first", laid_unicode_utf8_first)] }
def TermBoundsSaid : Prop := termBoundsRow.holds Tryz.pinned (OpenSpec.ofChange termBoundsSpec)

/-- ITS FALSE NEIGHBOUR: 'it returns false'. Refute it at one input. -/
def termBoundsWrong : ChangeSpec := { name := "termBounds", fn := fun _ => fun
  | [d1, d2] => { results := [.lit (.bool false)], args := [d1, d2] }
  | _ => none }
def TermBoundsWrongFalsely : Prop := termBoundsRow.holds Tryz.pinned (OpenSpec.ofChange termBoundsWrong)

/- THE SECOND FORM. 'bulk': how many values and letters a reading holds, each counted each time it is reached (what is shared counts as often as it is met; a slice's spare places count too). A statement '..UptoSaid' is the law's where the arguments, and the package variables that the reading takes, are together of bulk at most 1048576: NARROWER than '..Said'. Prove '..Said' where nothing that the law and all that it calls make is longer than what came in: it says more and counts as full. Else prove '..UptoSaid'. A law counts once. -/
mutual
def uptoBulk {H : Type} : DataW H → Nat
  | .lit (.string bytes) => bytes.length + 1
  | .lit _ => 1
  | .nil => 1
  | .ptr d => uptoBulk d + 1
  | .slice elems spare => uptoBulkAll elems + uptoBulkAll spare + 1
  | .agg parts => uptoBulkAll parts + 1
  | .iface _ d => uptoBulk d + 1
  | .map entries => uptoBulkEntries entries + 1
  | .held _ => 1
def uptoBulkAll {H : Type} : List (DataW H) → Nat
  | [] => 0
  | d :: r => uptoBulk d + uptoBulkAll r
def uptoBulkEntries {H : Type} : List (Lit × DataW H) → Nat
  | [] => 0
  | x :: r => uptoBulkEntry x + uptoBulkEntries r
def uptoBulkEntry {H : Type} : Lit × DataW H → Nat
  | (.string bytes, d) => bytes.length + uptoBulk d + 1
  | (_, d) => uptoBulk d + 1
 end
def uptoSmall : (H : Type) → List (DataW H) → Bool := fun _ ds => decide (uptoBulkAll ds ≤ 1048576)
def OpenSpec.upto (s : _root_.Go.ChangeSpec) : _root_.Go.OpenSpec := { _root_.Go.OpenSpec.ofChange s with cond := some uptoSmall }

/-- 'flipbooklaw10.TermBytes', WHERE WHAT IT READS IS OF BULK AT MOST 1048576: true; the input reads as it did. -/
def termBytesUptoRow : OpenClaim := { program := "yteoejhjfbfacdaagreatdoor", sum := "ac9d4d6a9bcb86f0414d5b5ba75b5514b7fe1cc061cdf1f8ad5b78b3fd2f3550", func := "flipbook/flipbooklaw10.TermBytes", spec := "termBytes", named := ["unicode/utf8.first", "unicode/utf8.acceptRanges", "flipbook/glyph.signs", "flipbook/glyph.wide", "internal/strconv.uint64pow10", "math/bits.deBruijn32tab", "math/bits.deBruijn64tab"], apart := false, laid := [("flipbook/glyph.wide", laid_flipbook_glyph_wide), ("flipbook/glyph.signs", laid_flipbook_glyph_signs), ("math/bits.deBruijn32tab", laid_math_bits_deBruijn32tab), ("math/bits.deBruijn64tab", laid_math_bits_deBruijn64tab), ("internal/strconv.uint64pow10", laid_internal_strconv_uint64pow10), ("unicode/utf8.acceptRanges", laid_unicode_utf8_acceptRanges), ("unicode/utf8.first", laid_unicode_utf8_first)], narrowed := true }
def TermBytesUptoSaid : Prop := termBytesUptoRow.holds Tryz.pinned (OpenSpec.upto termBytesSpec)

/-- 'flipbooklaw10.TermRuns', WHERE WHAT IT READS IS OF BULK AT MOST 1048576: true; the input reads as it did. -/
def termRunsUptoRow : OpenClaim := { program := "yteoejhjfbfacdaagreatdoor", sum := "ac9d4d6a9bcb86f0414d5b5ba75b5514b7fe1cc061cdf1f8ad5b78b3fd2f3550", func := "flipbook/flipbooklaw10.TermRuns", spec := "termRuns", named := ["unicode/utf8.first", "unicode/utf8.acceptRanges", "flipbook/glyph.signs", "flipbook/glyph.wide", "internal/strconv.uint64pow10", "math/bits.deBruijn32tab", "math/bits.deBruijn64tab"], apart := false, laid := [("flipbook/glyph.wide", laid_flipbook_glyph_wide), ("flipbook/glyph.signs", laid_flipbook_glyph_signs), ("math/bits.deBruijn32tab", laid_math_bits_deBruijn32tab), ("math/bits.deBruijn64tab", laid_math_bits_deBruijn64tab), ("internal/strconv.uint64pow10", laid_internal_strconv_uint64pow10), ("unicode/utf8.acceptRanges", laid_unicode_utf8_acceptRanges), ("unicode/utf8.first", laid_unicode_utf8_first)], narrowed := true }
def TermRunsUptoSaid : Prop := termRunsUptoRow.holds Tryz.pinned (OpenSpec.upto termRunsSpec)

/-- 'flipbooklaw10.TermBounds', WHERE WHAT IT READS IS OF BULK AT MOST 1048576: true; the input reads as it did. -/
def termBoundsUptoRow : OpenClaim := { program := "yteoejhjfbfacdaagreatdoor", sum := "ac9d4d6a9bcb86f0414d5b5ba75b5514b7fe1cc061cdf1f8ad5b78b3fd2f3550", func := "flipbook/flipbooklaw10.TermBounds", spec := "termBounds", unfollowed := true, recurses := true, named := ["unicode/utf8.first", "unicode/utf8.acceptRanges", "flipbook/glyph.signs", "flipbook/glyph.wide", "internal/strconv.uint64pow10", "math/bits.deBruijn32tab", "math/bits.deBruijn64tab"], apart := false, laid := [("flipbook/glyph.wide", laid_flipbook_glyph_wide), ("flipbook/glyph.signs", laid_flipbook_glyph_signs), ("math/bits.deBruijn32tab", laid_math_bits_deBruijn32tab), ("math/bits.deBruijn64tab", laid_math_bits_deBruijn64tab), ("internal/strconv.uint64pow10", laid_internal_strconv_uint64pow10), ("unicode/utf8.acceptRanges", laid_unicode_utf8_acceptRanges), ("unicode/utf8.first", laid_unicode_utf8_first)], narrowed := true }
def TermBoundsUptoSaid : Prop := termBoundsUptoRow.holds Tryz.pinned (OpenSpec.upto termBoundsSpec)

end Rows
end Go.Proofs.YteoejhjfbfacdaaGreatDoor
