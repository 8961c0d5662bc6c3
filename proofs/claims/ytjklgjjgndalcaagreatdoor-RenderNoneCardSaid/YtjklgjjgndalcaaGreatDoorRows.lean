/-
  NARROWER THAN 'FOR EVERY INPUT', by the rows' own cells (each row's printed sentence says how): RenderShows: laid · RenderNone: laid · RenderLines: laid · RenderFirsts: laid · RenderPaints: laid.
  DERIVED. THE GIVEN ROWS OF THIS SEAT. 5 by the template 'for every input the law returns true; each argument reads behind the call as it read before'; 0 by the template 'total and deterministic' (their statements: YtjklgjjgndalcaaGreatDoorTotals.lean).
  GIVEN WITH THE SEED: the statements are not yours to turn. If you find one false, say at which input.
  Laid BY PROGRAM, IN A SANDBOX (cutbox-rows.mjs): the forced cells as the released guide's own fill.sh prints them over the translation b105b6a1468a44fa… (all of the seat's roots in one cut). By AI agents, Wed Nov 11 2026. No macro, syntax, notation, axiom, sorry.
-/
import Derived.Test.YtjklgjjgndalcaaGreatDoorChecked
import GoSem.PinnedTables
import GoSem.Claim
import GoSem.ClaimJoined
import GoSem.ClaimMapViews
import Derived.JoinedTies
import Derived.KernelRfl
namespace Go.Proofs.YtjklgjjgndalcaaGreatDoor
/- THE CELL 'sum', in the pinned program and in every row, IS THE sha256 OF THE DUMP (.gsa) THAT YtjklgjjgndalcaaGreatDoorProg.lean LOADS. Nothing in Lean hashes anything: it is a label: what it is worth is what the hold of that sum in a sandbox is worth. -/
noncomputable def Tryz.pinned : Pinned := { name := "ytjklgjjgndalcaagreatdoor", sum := "b105b6a1468a44fa32d96b0f3157afd7ff9bf3f34d58862fb680ebbe28667a96", checked := Tryz.checked }
namespace Rows
def none {H : Type} : Left H := { results := [], args := [] }

/- WHAT THE LISTED PACKAGE-LEVEL VARIABLES READ AS WHEN THE CALL BEGINS. Each datum BY PROGRAM (the guide's laid-datum.mjs) off the statement by which the dump's own 'gosem.cut.vars' lays the variable. In a bare row this is a premise. The card (YtjklgjjgndalcaaGreatDoorCards.lean) ties it to the program's text. -/
def laid_flipbook_glyph_wide {H : Type} : DataW H := .agg [.lit (.int .i32 4352), .lit (.int .i32 4447), .lit (.int .i32 11904), .lit (.int .i32 42191), .lit (.int .i32 44032), .lit (.int .i32 55203), .lit (.int .i32 63744), .lit (.int .i32 64255), .lit (.int .i32 65072), .lit (.int .i32 65135), .lit (.int .i32 65280), .lit (.int .i32 65376), .lit (.int .i32 65504), .lit (.int .i32 65510), .lit (.int .i32 127744), .lit (.int .i32 128591), .lit (.int .i32 131072), .lit (.int .i32 262141)]
def laid_flipbook_glyph_signs {H : Type} : DataW H := .agg [.lit (.int .i32 9670), .lit (.int .i32 9618), .lit (.int .i32 9225), .lit (.int .i32 9228), .lit (.int .i32 9229), .lit (.int .i32 9226), .lit (.int .i32 176), .lit (.int .i32 177), .lit (.int .i32 9252), .lit (.int .i32 9227), .lit (.int .i32 9496), .lit (.int .i32 9488), .lit (.int .i32 9484), .lit (.int .i32 9492), .lit (.int .i32 9532), .lit (.int .i32 9146), .lit (.int .i32 9147), .lit (.int .i32 9472), .lit (.int .i32 9148), .lit (.int .i32 9149), .lit (.int .i32 9500), .lit (.int .i32 9508), .lit (.int .i32 9524), .lit (.int .i32 9516), .lit (.int .i32 9474), .lit (.int .i32 8804), .lit (.int .i32 8805), .lit (.int .i32 960), .lit (.int .i32 8800), .lit (.int .i32 163), .lit (.int .i32 183)]
def laid_math_bits_deBruijn32tab {H : Type} : DataW H := .agg [.lit (.int .u8 0), .lit (.int .u8 1), .lit (.int .u8 28), .lit (.int .u8 2), .lit (.int .u8 29), .lit (.int .u8 14), .lit (.int .u8 24), .lit (.int .u8 3), .lit (.int .u8 30), .lit (.int .u8 22), .lit (.int .u8 20), .lit (.int .u8 15), .lit (.int .u8 25), .lit (.int .u8 17), .lit (.int .u8 4), .lit (.int .u8 8), .lit (.int .u8 31), .lit (.int .u8 27), .lit (.int .u8 13), .lit (.int .u8 23), .lit (.int .u8 21), .lit (.int .u8 19), .lit (.int .u8 16), .lit (.int .u8 7), .lit (.int .u8 26), .lit (.int .u8 12), .lit (.int .u8 18), .lit (.int .u8 6), .lit (.int .u8 11), .lit (.int .u8 5), .lit (.int .u8 10), .lit (.int .u8 9)]
def laid_math_bits_deBruijn64tab {H : Type} : DataW H := .agg [.lit (.int .u8 0), .lit (.int .u8 1), .lit (.int .u8 56), .lit (.int .u8 2), .lit (.int .u8 57), .lit (.int .u8 49), .lit (.int .u8 28), .lit (.int .u8 3), .lit (.int .u8 61), .lit (.int .u8 58), .lit (.int .u8 42), .lit (.int .u8 50), .lit (.int .u8 38), .lit (.int .u8 29), .lit (.int .u8 17), .lit (.int .u8 4), .lit (.int .u8 62), .lit (.int .u8 47), .lit (.int .u8 59), .lit (.int .u8 36), .lit (.int .u8 45), .lit (.int .u8 43), .lit (.int .u8 51), .lit (.int .u8 22), .lit (.int .u8 53), .lit (.int .u8 39), .lit (.int .u8 33), .lit (.int .u8 30), .lit (.int .u8 24), .lit (.int .u8 18), .lit (.int .u8 12), .lit (.int .u8 5), .lit (.int .u8 63), .lit (.int .u8 55), .lit (.int .u8 48), .lit (.int .u8 27), .lit (.int .u8 60), .lit (.int .u8 41), .lit (.int .u8 37), .lit (.int .u8 16), .lit (.int .u8 46), .lit (.int .u8 35), .lit (.int .u8 44), .lit (.int .u8 21), .lit (.int .u8 52), .lit (.int .u8 32), .lit (.int .u8 23), .lit (.int .u8 11), .lit (.int .u8 54), .lit (.int .u8 26), .lit (.int .u8 40), .lit (.int .u8 15), .lit (.int .u8 34), .lit (.int .u8 20), .lit (.int .u8 31), .lit (.int .u8 10), .lit (.int .u8 25), .lit (.int .u8 14), .lit (.int .u8 19), .lit (.int .u8 9), .lit (.int .u8 13), .lit (.int .u8 8), .lit (.int .u8 7), .lit (.int .u8 6)]
def laid_internal_strconv_uint64pow10 {H : Type} : DataW H := .agg [.lit (.int .u64 1), .lit (.int .u64 10), .lit (.int .u64 100), .lit (.int .u64 1000), .lit (.int .u64 10000), .lit (.int .u64 100000), .lit (.int .u64 1000000), .lit (.int .u64 10000000), .lit (.int .u64 100000000), .lit (.int .u64 1000000000), .lit (.int .u64 10000000000), .lit (.int .u64 100000000000), .lit (.int .u64 1000000000000), .lit (.int .u64 10000000000000), .lit (.int .u64 100000000000000), .lit (.int .u64 1000000000000000), .lit (.int .u64 10000000000000000), .lit (.int .u64 100000000000000000), .lit (.int .u64 1000000000000000000), .lit (.int .u64 10000000000000000000)]
def laid_unicode_utf8_acceptRanges {H : Type} : DataW H := .agg [.agg [.lit (.int .u8 128), .lit (.int .u8 191)], .agg [.lit (.int .u8 160), .lit (.int .u8 191)], .agg [.lit (.int .u8 128), .lit (.int .u8 159)], .agg [.lit (.int .u8 144), .lit (.int .u8 191)], .agg [.lit (.int .u8 128), .lit (.int .u8 143)], .agg [.lit (.int .u8 0), .lit (.int .u8 0)], .agg [.lit (.int .u8 0), .lit (.int .u8 0)], .agg [.lit (.int .u8 0), .lit (.int .u8 0)], .agg [.lit (.int .u8 0), .lit (.int .u8 0)], .agg [.lit (.int .u8 0), .lit (.int .u8 0)], .agg [.lit (.int .u8 0), .lit (.int .u8 0)], .agg [.lit (.int .u8 0), .lit (.int .u8 0)], .agg [.lit (.int .u8 0), .lit (.int .u8 0)], .agg [.lit (.int .u8 0), .lit (.int .u8 0)], .agg [.lit (.int .u8 0), .lit (.int .u8 0)], .agg [.lit (.int .u8 0), .lit (.int .u8 0)]]
/-- One of Go's own tables, pinned by name: the form's constant. -/
def laid_unicode_utf8_first : DataW Unit := Go.Pinned.utf8First

/-- 'flipbooklaw22.RenderShows': WHATEVER THE INPUT: true; the input reads as it did. -/
def renderShowsSpec : ChangeSpec := { name := "renderShows", fn := fun _ => fun
  | [d1, d2] => { results := [.lit (.bool true)], args := [d1, d2] }
  | _ => none }
def renderShowsRow : OpenClaim := { program := "ytjklgjjgndalcaagreatdoor", sum := "b105b6a1468a44fa32d96b0f3157afd7ff9bf3f34d58862fb680ebbe28667a96", func := "flipbook/flipbooklaw22.RenderShows", spec := "renderShows", named := ["flipbook/glyph.wide", "internal/strconv.uint64pow10", "math/bits.deBruijn32tab", "math/bits.deBruijn64tab", "unicode/utf8.first", "unicode/utf8.acceptRanges", "flipbook/glyph.signs"], apart := false, laid := [("flipbook/glyph.wide", laid_flipbook_glyph_wide), ("flipbook/glyph.signs", laid_flipbook_glyph_signs), ("math/bits.deBruijn32tab", laid_math_bits_deBruijn32tab), ("math/bits.deBruijn64tab", laid_math_bits_deBruijn64tab), ("internal/strconv.uint64pow10", laid_internal_strconv_uint64pow10), ("unicode/utf8.acceptRanges", laid_unicode_utf8_acceptRanges), ("unicode/utf8.first", laid_unicode_utf8_first)] }
def RenderShowsSaid : Prop := renderShowsRow.holds Tryz.pinned (OpenSpec.ofChange renderShowsSpec)

/-- ITS FALSE NEIGHBOUR: 'it returns false'. Refute it at one input. -/
def renderShowsWrong : ChangeSpec := { name := "renderShows", fn := fun _ => fun
  | [d1, d2] => { results := [.lit (.bool false)], args := [d1, d2] }
  | _ => none }
def RenderShowsWrongFalsely : Prop := renderShowsRow.holds Tryz.pinned (OpenSpec.ofChange renderShowsWrong)

/-- 'flipbooklaw22.RenderNone': WHATEVER THE INPUT: true; the input reads as it did. -/
def renderNoneSpec : ChangeSpec := { name := "renderNone", fn := fun _ => fun
  | [d1, d2, d3] => { results := [.lit (.bool true)], args := [d1, d2, d3] }
  | _ => none }
def renderNoneRow : OpenClaim := { program := "ytjklgjjgndalcaagreatdoor", sum := "b105b6a1468a44fa32d96b0f3157afd7ff9bf3f34d58862fb680ebbe28667a96", func := "flipbook/flipbooklaw22.RenderNone", spec := "renderNone", named := ["flipbook/glyph.wide", "internal/strconv.uint64pow10", "math/bits.deBruijn32tab", "math/bits.deBruijn64tab", "unicode/utf8.first", "unicode/utf8.acceptRanges", "flipbook/glyph.signs"], apart := false, laid := [("flipbook/glyph.wide", laid_flipbook_glyph_wide), ("flipbook/glyph.signs", laid_flipbook_glyph_signs), ("math/bits.deBruijn32tab", laid_math_bits_deBruijn32tab), ("math/bits.deBruijn64tab", laid_math_bits_deBruijn64tab), ("internal/strconv.uint64pow10", laid_internal_strconv_uint64pow10), ("unicode/utf8.acceptRanges", laid_unicode_utf8_acceptRanges), ("unicode/utf8.first", laid_unicode_utf8_first)] }
def RenderNoneSaid : Prop := renderNoneRow.holds Tryz.pinned (OpenSpec.ofChange renderNoneSpec)

/-- ITS FALSE NEIGHBOUR: 'it returns false'. Refute it at one input. -/
def renderNoneWrong : ChangeSpec := { name := "renderNone", fn := fun _ => fun
  | [d1, d2, d3] => { results := [.lit (.bool false)], args := [d1, d2, d3] }
  | _ => none }
def RenderNoneWrongFalsely : Prop := renderNoneRow.holds Tryz.pinned (OpenSpec.ofChange renderNoneWrong)

/-- 'flipbooklaw22.RenderLines': WHATEVER THE INPUT: true; the input reads as it did. -/
def renderLinesSpec : ChangeSpec := { name := "renderLines", fn := fun _ => fun
  | [d1, d2, d3] => { results := [.lit (.bool true)], args := [d1, d2, d3] }
  | _ => none }
def renderLinesRow : OpenClaim := { program := "ytjklgjjgndalcaagreatdoor", sum := "b105b6a1468a44fa32d96b0f3157afd7ff9bf3f34d58862fb680ebbe28667a96", func := "flipbook/flipbooklaw22.RenderLines", spec := "renderLines", named := ["flipbook/glyph.wide", "internal/strconv.uint64pow10", "math/bits.deBruijn32tab", "math/bits.deBruijn64tab", "unicode/utf8.first", "unicode/utf8.acceptRanges", "flipbook/glyph.signs"], apart := false, laid := [("flipbook/glyph.wide", laid_flipbook_glyph_wide), ("flipbook/glyph.signs", laid_flipbook_glyph_signs), ("math/bits.deBruijn32tab", laid_math_bits_deBruijn32tab), ("math/bits.deBruijn64tab", laid_math_bits_deBruijn64tab), ("internal/strconv.uint64pow10", laid_internal_strconv_uint64pow10), ("unicode/utf8.acceptRanges", laid_unicode_utf8_acceptRanges), ("unicode/utf8.first", laid_unicode_utf8_first)] }
def RenderLinesSaid : Prop := renderLinesRow.holds Tryz.pinned (OpenSpec.ofChange renderLinesSpec)

/-- ITS FALSE NEIGHBOUR: 'it returns false'. Refute it at one input. -/
def renderLinesWrong : ChangeSpec := { name := "renderLines", fn := fun _ => fun
  | [d1, d2, d3] => { results := [.lit (.bool false)], args := [d1, d2, d3] }
  | _ => none }
def RenderLinesWrongFalsely : Prop := renderLinesRow.holds Tryz.pinned (OpenSpec.ofChange renderLinesWrong)

/-- 'flipbooklaw22.RenderFirsts': WHATEVER THE INPUT: true; the input reads as it did. -/
def renderFirstsSpec : ChangeSpec := { name := "renderFirsts", fn := fun _ => fun
  | [d1, d2, d3] => { results := [.lit (.bool true)], args := [d1, d2, d3] }
  | _ => none }
def renderFirstsRow : OpenClaim := { program := "ytjklgjjgndalcaagreatdoor", sum := "b105b6a1468a44fa32d96b0f3157afd7ff9bf3f34d58862fb680ebbe28667a96", func := "flipbook/flipbooklaw22.RenderFirsts", spec := "renderFirsts", named := ["flipbook/glyph.wide", "internal/strconv.uint64pow10", "math/bits.deBruijn32tab", "math/bits.deBruijn64tab", "unicode/utf8.first", "unicode/utf8.acceptRanges", "flipbook/glyph.signs"], apart := false, laid := [("flipbook/glyph.wide", laid_flipbook_glyph_wide), ("flipbook/glyph.signs", laid_flipbook_glyph_signs), ("math/bits.deBruijn32tab", laid_math_bits_deBruijn32tab), ("math/bits.deBruijn64tab", laid_math_bits_deBruijn64tab), ("internal/strconv.uint64pow10", laid_internal_strconv_uint64pow10), ("unicode/utf8.acceptRanges", laid_unicode_utf8_acceptRanges), ("unicode/utf8.first", laid_unicode_utf8_first)] }
def RenderFirstsSaid : Prop := renderFirstsRow.holds Tryz.pinned (OpenSpec.ofChange renderFirstsSpec)

/-- ITS FALSE NEIGHBOUR: 'it returns false'. Refute it at one input. -/
def renderFirstsWrong : ChangeSpec := { name := "renderFirsts", fn := fun _ => fun
  | [d1, d2, d3] => { results := [.lit (.bool false)], args := [d1, d2, d3] }
  | _ => none }
def RenderFirstsWrongFalsely : Prop := renderFirstsRow.holds Tryz.pinned (OpenSpec.ofChange renderFirstsWrong)

/-- 'flipbooklaw22.RenderPaints': WHATEVER THE INPUT: true; the input reads as it did. -/
def renderPaintsSpec : ChangeSpec := { name := "renderPaints", fn := fun _ => fun
  | [d1, d2, d3] => { results := [.lit (.bool true)], args := [d1, d2, d3] }
  | _ => none }
def renderPaintsRow : OpenClaim := { program := "ytjklgjjgndalcaagreatdoor", sum := "b105b6a1468a44fa32d96b0f3157afd7ff9bf3f34d58862fb680ebbe28667a96", func := "flipbook/flipbooklaw22.RenderPaints", spec := "renderPaints", named := ["flipbook/glyph.wide", "internal/strconv.uint64pow10", "math/bits.deBruijn32tab", "math/bits.deBruijn64tab", "unicode/utf8.first", "unicode/utf8.acceptRanges", "flipbook/glyph.signs"], apart := false, laid := [("flipbook/glyph.wide", laid_flipbook_glyph_wide), ("flipbook/glyph.signs", laid_flipbook_glyph_signs), ("math/bits.deBruijn32tab", laid_math_bits_deBruijn32tab), ("math/bits.deBruijn64tab", laid_math_bits_deBruijn64tab), ("internal/strconv.uint64pow10", laid_internal_strconv_uint64pow10), ("unicode/utf8.acceptRanges", laid_unicode_utf8_acceptRanges), ("unicode/utf8.first", laid_unicode_utf8_first)] }
def RenderPaintsSaid : Prop := renderPaintsRow.holds Tryz.pinned (OpenSpec.ofChange renderPaintsSpec)

/-- ITS FALSE NEIGHBOUR: 'it returns false'. Refute it at one input. -/
def renderPaintsWrong : ChangeSpec := { name := "renderPaints", fn := fun _ => fun
  | [d1, d2, d3] => { results := [.lit (.bool false)], args := [d1, d2, d3] }
  | _ => none }
def RenderPaintsWrongFalsely : Prop := renderPaintsRow.holds Tryz.pinned (OpenSpec.ofChange renderPaintsWrong)

/- THE SECOND FORM. 'bulk': how many values and letters a reading holds, each counted each time it is reached (what is shared counts as often as it is met; a slice's spare places count too). A statement '..UptoSaid' is the law's where the arguments, and the package variables that the reading takes, are together of bulk at most 1048576: NARROWER than '..Said'. Prove '..Said' where nothing that the law and all that it calls make is longer than what came in: it says more and counts as full. Else prove '..UptoSaid'. A law counts once. -/
mutual
def uptoBulk {H : Type} : DataW H → Nat
  | .lit (.string bytes) => bytes.length + 1
  | .lit _ => 1
  | .nil => 1
  | .ptr d => uptoBulk d + 1
  | .slice elems spare => uptoBulkAll elems + uptoBulkAll spare + 1
  | .agg parts => uptoBulkAll parts + 1
  | .iface _ d => uptoBulk d + 1
  | .map entries => uptoBulkEntries entries + 1
  | .held _ => 1
def uptoBulkAll {H : Type} : List (DataW H) → Nat
  | [] => 0
  | d :: r => uptoBulk d + uptoBulkAll r
def uptoBulkEntries {H : Type} : List (Lit × DataW H) → Nat
  | [] => 0
  | x :: r => uptoBulkEntry x + uptoBulkEntries r
def uptoBulkEntry {H : Type} : Lit × DataW H → Nat
  | (.string bytes, d) => bytes.length + uptoBulk d + 1
  | (_, d) => uptoBulk d + 1
 end
def uptoSmall : (H : Type) → List (DataW H) → Bool := fun _ ds => decide (uptoBulkAll ds ≤ 1048576)
def OpenSpec.upto (s : _root_.Go.ChangeSpec) : _root_.Go.OpenSpec := { _root_.Go.OpenSpec.ofChange s with cond := some uptoSmall }

/-- 'flipbooklaw22.RenderShows', WHERE WHAT IT READS IS OF BULK AT MOST 1048576: true; the input reads as it did. -/
def renderShowsUptoRow : OpenClaim := { program := "ytjklgjjgndalcaagreatdoor", sum := "b105b6a1468a44fa32d96b0f3157afd7ff9bf3f34d58862fb680ebbe28667a96", func := "flipbook/flipbooklaw22.RenderShows", spec := "renderShows", named := ["flipbook/glyph.wide", "internal/strconv.uint64pow10", "math/bits.deBruijn32tab", "math/bits.deBruijn64tab", "unicode/utf8.first", "unicode/utf8.acceptRanges", "flipbook/glyph.signs"], apart := false, laid := [("flipbook/glyph.wide", laid_flipbook_glyph_wide), ("flipbook/glyph.signs", laid_flipbook_glyph_signs), ("math/bits.deBruijn32tab", laid_math_bits_deBruijn32tab), ("math/bits.deBruijn64tab", laid_math_bits_deBruijn64tab), ("internal/strconv.uint64pow10", laid_internal_strconv_uint64pow10), ("unicode/utf8.acceptRanges", laid_unicode_utf8_acceptRanges), ("unicode/utf8.first", laid_unicode_utf8_first)], narrowed := true }
def RenderShowsUptoSaid : Prop := renderShowsUptoRow.holds Tryz.pinned (OpenSpec.upto renderShowsSpec)

/-- 'flipbooklaw22.RenderNone', WHERE WHAT IT READS IS OF BULK AT MOST 1048576: true; the input reads as it did. -/
def renderNoneUptoRow : OpenClaim := { program := "ytjklgjjgndalcaagreatdoor", sum := "b105b6a1468a44fa32d96b0f3157afd7ff9bf3f34d58862fb680ebbe28667a96", func := "flipbook/flipbooklaw22.RenderNone", spec := "renderNone", named := ["flipbook/glyph.wide", "internal/strconv.uint64pow10", "math/bits.deBruijn32tab", "math/bits.deBruijn64tab", "unicode/utf8.first", "unicode/utf8.acceptRanges", "flipbook/glyph.signs"], apart := false, laid := [("flipbook/glyph.wide", laid_flipbook_glyph_wide), ("flipbook/glyph.signs", laid_flipbook_glyph_signs), ("math/bits.deBruijn32tab", laid_math_bits_deBruijn32tab), ("math/bits.deBruijn64tab", laid_math_bits_deBruijn64tab), ("internal/strconv.uint64pow10", laid_internal_strconv_uint64pow10), ("unicode/utf8.acceptRanges", laid_unicode_utf8_acceptRanges), ("unicode/utf8.first", laid_unicode_utf8_first)], narrowed := true }
def RenderNoneUptoSaid : Prop := renderNoneUptoRow.holds Tryz.pinned (OpenSpec.upto renderNoneSpec)

/-- 'flipbooklaw22.RenderLines', WHERE WHAT IT READS IS OF BULK AT MOST 1048576: true; the input reads as it did. -/
def renderLinesUptoRow : OpenClaim := { program := "ytjklgjjgndalcaagreatdoor", sum := "b105b6a1468a44fa32d96b0f3157afd7ff9bf3f34d58862fb680ebbe28667a96", func := "flipbook/flipbooklaw22.RenderLines", spec := "renderLines", named := ["flipbook/glyph.wide", "internal/strconv.uint64pow10", "math/bits.deBruijn32tab", "math/bits.deBruijn64tab", "unicode/utf8.first", "unicode/utf8.acceptRanges", "flipbook/glyph.signs"], apart := false, laid := [("flipbook/glyph.wide", laid_flipbook_glyph_wide), ("flipbook/glyph.signs", laid_flipbook_glyph_signs), ("math/bits.deBruijn32tab", laid_math_bits_deBruijn32tab), ("math/bits.deBruijn64tab", laid_math_bits_deBruijn64tab), ("internal/strconv.uint64pow10", laid_internal_strconv_uint64pow10), ("unicode/utf8.acceptRanges", laid_unicode_utf8_acceptRanges), ("unicode/utf8.first", laid_unicode_utf8_first)], narrowed := true }
def RenderLinesUptoSaid : Prop := renderLinesUptoRow.holds Tryz.pinned (OpenSpec.upto renderLinesSpec)

/-- 'flipbooklaw22.RenderFirsts', WHERE WHAT IT READS IS OF BULK AT MOST 1048576: true; the input reads as it did. -/
def renderFirstsUptoRow : OpenClaim := { program := "ytjklgjjgndalcaagreatdoor", sum := "b105b6a1468a44fa32d96b0f3157afd7ff9bf3f34d58862fb680ebbe28667a96", func := "flipbook/flipbooklaw22.RenderFirsts", spec := "renderFirsts", named := ["flipbook/glyph.wide", "internal/strconv.uint64pow10", "math/bits.deBruijn32tab", "math/bits.deBruijn64tab", "unicode/utf8.first", "unicode/utf8.acceptRanges", "flipbook/glyph.signs"], apart := false, laid := [("flipbook/glyph.wide", laid_flipbook_glyph_wide), ("flipbook/glyph.signs", laid_flipbook_glyph_signs), ("math/bits.deBruijn32tab", laid_math_bits_deBruijn32tab), ("math/bits.deBruijn64tab", laid_math_bits_deBruijn64tab), ("internal/strconv.uint64pow10", laid_internal_strconv_uint64pow10), ("unicode/utf8.acceptRanges", laid_unicode_utf8_acceptRanges), ("unicode/utf8.first", laid_unicode_utf8_first)], narrowed := true }
def RenderFirstsUptoSaid : Prop := renderFirstsUptoRow.holds Tryz.pinned (OpenSpec.upto renderFirstsSpec)

/-- 'flipbooklaw22.RenderPaints', WHERE WHAT IT READS IS OF BULK AT MOST 1048576: true; the input reads as it did. -/
def renderPaintsUptoRow : OpenClaim := { program := "ytjklgjjgndalcaagreatdoor", sum := "b105b6a1468a44fa32d96b0f3157afd7ff9bf3f34d58862fb680ebbe28667a96", func := "flipbook/flipbooklaw22.RenderPaints", spec := "renderPaints", named := ["flipbook/glyph.wide", "internal/strconv.uint64pow10", "math/bits.deBruijn32tab", "math/bits.deBruijn64tab", "unicode/utf8.first", "unicode/utf8.acceptRanges", "flipbook/glyph.signs"], apart := false, laid := [("flipbook/glyph.wide", laid_flipbook_glyph_wide), ("flipbook/glyph.signs", laid_flipbook_glyph_signs), ("math/bits.deBruijn32tab", laid_math_bits_deBruijn32tab), ("math/bits.deBruijn64tab", laid_math_bits_deBruijn64tab), ("internal/strconv.uint64pow10", laid_internal_strconv_uint64pow10), ("unicode/utf8.acceptRanges", laid_unicode_utf8_acceptRanges), ("unicode/utf8.first", laid_unicode_utf8_first)], narrowed := true }
def RenderPaintsUptoSaid : Prop := renderPaintsUptoRow.holds Tryz.pinned (OpenSpec.upto renderPaintsSpec)

end Rows
end Go.Proofs.YtjklgjjgndalcaaGreatDoor
