/-
  NARROWER THAN 'FOR EVERY INPUT', by the rows' own cells (each row's printed sentence says how): GlyphRights: laid · GlyphWides: laid · GlyphUnlike: laid · GlyphDraws: laid · GlyphColumns: laid.
  DERIVED. THE GIVEN ROWS OF THIS SEAT. 5 by the template 'for every input the law returns true; each argument reads behind the call as it read before'; 0 by the template 'total and deterministic' (their statements: YtamccnffnljadaaDoorTotals.lean).
  GIVEN WITH THE SEED: the statements are not yours to turn. If you find one false, say at which input.
  Laid BY PROGRAM, IN A SANDBOX (cutbox-rows.mjs): the forced cells as the released guide's own fill.sh prints them over the translation c231b955c9d100cb… (all of the seat's roots in one cut). By AI agents, Wed Nov 11 2026. No macro, syntax, notation, axiom, sorry.
-/
import Derived.Test.YtamccnffnljadaaDoorChecked
import GoSem.Claim
import GoSem.ClaimJoined
import GoSem.ClaimMapViews
import Derived.JoinedTies
import Derived.KernelRfl
namespace Go.Proofs.YtamccnffnljadaaDoor
/- THE CELL 'sum', in the pinned program and in every row, IS THE sha256 OF THE DUMP (.gsa) THAT YtamccnffnljadaaDoorProg.lean LOADS. Nothing in Lean hashes anything: it is a label: what it is worth is what the hold of that sum in a sandbox is worth. -/
noncomputable def Tryd.pinned : Pinned := { name := "ytamccnffnljadaadoor", sum := "c231b955c9d100cb287808015fcb05091e3d4a7c7c5c2f8d6fc4f8513ab29273", checked := Tryd.checked }
namespace Rows
def none {H : Type} : Left H := { results := [], args := [] }

/- WHAT THE LISTED PACKAGE-LEVEL VARIABLES READ AS WHEN THE CALL BEGINS. Each datum BY PROGRAM (the guide's laid-datum.mjs) off the statement by which the dump's own 'gosem.cut.vars' lays the variable. In a bare row this is a premise. The card (YtamccnffnljadaaDoorCards.lean) ties it to the program's text. -/
def laid_flipbook_glyph_wide {H : Type} : DataW H := .agg [.lit (.int .i32 4352), .lit (.int .i32 4447), .lit (.int .i32 11904), .lit (.int .i32 42191), .lit (.int .i32 44032), .lit (.int .i32 55203), .lit (.int .i32 63744), .lit (.int .i32 64255), .lit (.int .i32 65072), .lit (.int .i32 65135), .lit (.int .i32 65280), .lit (.int .i32 65376), .lit (.int .i32 65504), .lit (.int .i32 65510), .lit (.int .i32 127744), .lit (.int .i32 128591), .lit (.int .i32 131072), .lit (.int .i32 262141)]
def laid_flipbook_glyph_signs {H : Type} : DataW H := .agg [.lit (.int .i32 9670), .lit (.int .i32 9618), .lit (.int .i32 9225), .lit (.int .i32 9228), .lit (.int .i32 9229), .lit (.int .i32 9226), .lit (.int .i32 176), .lit (.int .i32 177), .lit (.int .i32 9252), .lit (.int .i32 9227), .lit (.int .i32 9496), .lit (.int .i32 9488), .lit (.int .i32 9484), .lit (.int .i32 9492), .lit (.int .i32 9532), .lit (.int .i32 9146), .lit (.int .i32 9147), .lit (.int .i32 9472), .lit (.int .i32 9148), .lit (.int .i32 9149), .lit (.int .i32 9500), .lit (.int .i32 9508), .lit (.int .i32 9524), .lit (.int .i32 9516), .lit (.int .i32 9474), .lit (.int .i32 8804), .lit (.int .i32 8805), .lit (.int .i32 960), .lit (.int .i32 8800), .lit (.int .i32 163), .lit (.int .i32 183)]

/-- 'flipbooklaw07.GlyphRights': WHATEVER THE INPUT: true; the input reads as it did. -/
def glyphRightsSpec : ChangeSpec := { name := "glyphRights", fn := fun _ => fun
  | [d] => { results := [.lit (.bool true)], args := [d] }
  | _ => none }
def glyphRightsRow : OpenClaim := { program := "ytamccnffnljadaadoor", sum := "c231b955c9d100cb287808015fcb05091e3d4a7c7c5c2f8d6fc4f8513ab29273", func := "flipbook/flipbooklaw07.GlyphRights", spec := "glyphRights", named := ["flipbook/glyph.signs", "flipbook/glyph.wide"], apart := false, laid := [("flipbook/glyph.wide", laid_flipbook_glyph_wide), ("flipbook/glyph.signs", laid_flipbook_glyph_signs)] }
def GlyphRightsSaid : Prop := glyphRightsRow.holds Tryd.pinned (OpenSpec.ofChange glyphRightsSpec)

/-- ITS FALSE NEIGHBOUR: 'it returns false'. Refute it at one input. -/
def glyphRightsWrong : ChangeSpec := { name := "glyphRights", fn := fun _ => fun
  | [d] => { results := [.lit (.bool false)], args := [d] }
  | _ => none }
def GlyphRightsWrongFalsely : Prop := glyphRightsRow.holds Tryd.pinned (OpenSpec.ofChange glyphRightsWrong)

/-- 'flipbooklaw07.GlyphWides': WHATEVER THE INPUT: true; the input reads as it did. -/
def glyphWidesSpec : ChangeSpec := { name := "glyphWides", fn := fun _ => fun
  | [d] => { results := [.lit (.bool true)], args := [d] }
  | _ => none }
def glyphWidesRow : OpenClaim := { program := "ytamccnffnljadaadoor", sum := "c231b955c9d100cb287808015fcb05091e3d4a7c7c5c2f8d6fc4f8513ab29273", func := "flipbook/flipbooklaw07.GlyphWides", spec := "glyphWides", named := ["flipbook/glyph.signs", "flipbook/glyph.wide"], apart := false, laid := [("flipbook/glyph.wide", laid_flipbook_glyph_wide), ("flipbook/glyph.signs", laid_flipbook_glyph_signs)] }
def GlyphWidesSaid : Prop := glyphWidesRow.holds Tryd.pinned (OpenSpec.ofChange glyphWidesSpec)

/-- ITS FALSE NEIGHBOUR: 'it returns false'. Refute it at one input. -/
def glyphWidesWrong : ChangeSpec := { name := "glyphWides", fn := fun _ => fun
  | [d] => { results := [.lit (.bool false)], args := [d] }
  | _ => none }
def GlyphWidesWrongFalsely : Prop := glyphWidesRow.holds Tryd.pinned (OpenSpec.ofChange glyphWidesWrong)

/-- 'flipbooklaw07.GlyphUnlike': WHATEVER THE INPUT: true; the input reads as it did. -/
def glyphUnlikeSpec : ChangeSpec := { name := "glyphUnlike", fn := fun _ => fun
  | [d1, d2] => { results := [.lit (.bool true)], args := [d1, d2] }
  | _ => none }
def glyphUnlikeRow : OpenClaim := { program := "ytamccnffnljadaadoor", sum := "c231b955c9d100cb287808015fcb05091e3d4a7c7c5c2f8d6fc4f8513ab29273", func := "flipbook/flipbooklaw07.GlyphUnlike", spec := "glyphUnlike", named := ["flipbook/glyph.signs", "flipbook/glyph.wide"], apart := false, laid := [("flipbook/glyph.wide", laid_flipbook_glyph_wide), ("flipbook/glyph.signs", laid_flipbook_glyph_signs)] }
def GlyphUnlikeSaid : Prop := glyphUnlikeRow.holds Tryd.pinned (OpenSpec.ofChange glyphUnlikeSpec)

/-- ITS FALSE NEIGHBOUR: 'it returns false'. Refute it at one input. -/
def glyphUnlikeWrong : ChangeSpec := { name := "glyphUnlike", fn := fun _ => fun
  | [d1, d2] => { results := [.lit (.bool false)], args := [d1, d2] }
  | _ => none }
def GlyphUnlikeWrongFalsely : Prop := glyphUnlikeRow.holds Tryd.pinned (OpenSpec.ofChange glyphUnlikeWrong)

/-- 'flipbooklaw07.GlyphDraws': WHATEVER THE INPUT: true; the input reads as it did. -/
def glyphDrawsSpec : ChangeSpec := { name := "glyphDraws", fn := fun _ => fun
  | [d] => { results := [.lit (.bool true)], args := [d] }
  | _ => none }
def glyphDrawsRow : OpenClaim := { program := "ytamccnffnljadaadoor", sum := "c231b955c9d100cb287808015fcb05091e3d4a7c7c5c2f8d6fc4f8513ab29273", func := "flipbook/flipbooklaw07.GlyphDraws", spec := "glyphDraws", named := ["flipbook/glyph.signs", "flipbook/glyph.wide"], apart := false, laid := [("flipbook/glyph.wide", laid_flipbook_glyph_wide), ("flipbook/glyph.signs", laid_flipbook_glyph_signs)] }
def GlyphDrawsSaid : Prop := glyphDrawsRow.holds Tryd.pinned (OpenSpec.ofChange glyphDrawsSpec)

/-- ITS FALSE NEIGHBOUR: 'it returns false'. Refute it at one input. -/
def glyphDrawsWrong : ChangeSpec := { name := "glyphDraws", fn := fun _ => fun
  | [d] => { results := [.lit (.bool false)], args := [d] }
  | _ => none }
def GlyphDrawsWrongFalsely : Prop := glyphDrawsRow.holds Tryd.pinned (OpenSpec.ofChange glyphDrawsWrong)

/-- 'flipbooklaw07.GlyphColumns': WHATEVER THE INPUT: true; the input reads as it did. -/
def glyphColumnsSpec : ChangeSpec := { name := "glyphColumns", fn := fun _ => fun
  | [d1, d2] => { results := [.lit (.bool true)], args := [d1, d2] }
  | _ => none }
def glyphColumnsRow : OpenClaim := { program := "ytamccnffnljadaadoor", sum := "c231b955c9d100cb287808015fcb05091e3d4a7c7c5c2f8d6fc4f8513ab29273", func := "flipbook/flipbooklaw07.GlyphColumns", spec := "glyphColumns", named := ["flipbook/glyph.signs", "flipbook/glyph.wide"], apart := false, laid := [("flipbook/glyph.wide", laid_flipbook_glyph_wide), ("flipbook/glyph.signs", laid_flipbook_glyph_signs)] }
def GlyphColumnsSaid : Prop := glyphColumnsRow.holds Tryd.pinned (OpenSpec.ofChange glyphColumnsSpec)

/-- ITS FALSE NEIGHBOUR: 'it returns false'. Refute it at one input. -/
def glyphColumnsWrong : ChangeSpec := { name := "glyphColumns", fn := fun _ => fun
  | [d1, d2] => { results := [.lit (.bool false)], args := [d1, d2] }
  | _ => none }
def GlyphColumnsWrongFalsely : Prop := glyphColumnsRow.holds Tryd.pinned (OpenSpec.ofChange glyphColumnsWrong)

/- THE SECOND FORM. 'bulk': how many values and letters a reading holds, each counted each time it is reached (what is shared counts as often as it is met; a slice's spare places count too). A statement '..UptoSaid' is the law's where the arguments, and the package variables that the reading takes, are together of bulk at most 1048576: NARROWER than '..Said'. Prove '..Said' where nothing that the law and all that it calls make is longer than what came in: it says more and counts as full. Else prove '..UptoSaid'. A law counts once. -/
mutual
def uptoBulk {H : Type} : DataW H → Nat
  | .lit (.string bytes) => bytes.length + 1
  | .lit _ => 1
  | .nil => 1
  | .ptr d => uptoBulk d + 1
  | .slice elems spare => uptoBulkAll elems + uptoBulkAll spare + 1
  | .agg parts => uptoBulkAll parts + 1
  | .iface _ d => uptoBulk d + 1
  | .map entries => uptoBulkEntries entries + 1
  | .held _ => 1
def uptoBulkAll {H : Type} : List (DataW H) → Nat
  | [] => 0
  | d :: r => uptoBulk d + uptoBulkAll r
def uptoBulkEntries {H : Type} : List (Lit × DataW H) → Nat
  | [] => 0
  | x :: r => uptoBulkEntry x + uptoBulkEntries r
def uptoBulkEntry {H : Type} : Lit × DataW H → Nat
  | (.string bytes, d) => bytes.length + uptoBulk d + 1
  | (_, d) => uptoBulk d + 1
 end
def uptoSmall : (H : Type) → List (DataW H) → Bool := fun _ ds => decide (uptoBulkAll ds ≤ 1048576)
def OpenSpec.upto (s : _root_.Go.ChangeSpec) : _root_.Go.OpenSpec := { _root_.Go.OpenSpec.ofChange s with cond := some uptoSmall }

/-- 'flipbooklaw07.GlyphRights', WHERE WHAT IT READS IS OF BULK AT MOST 1048576: true; the input reads as it did. -/
def glyphRightsUptoRow : OpenClaim := { program := "ytamccnffnljadaadoor", sum := "c231b955c9d100cb287808015fcb05091e3d4a7c7c5c2f8d6fc4f8513ab29273", func := "flipbook/flipbooklaw07.GlyphRights", spec := "glyphRights", named := ["flipbook/glyph.signs", "flipbook/glyph.wide"], apart := false, laid := [("flipbook/glyph.wide", laid_flipbook_glyph_wide), ("flipbook/glyph.signs", laid_flipbook_glyph_signs)], narrowed := true }
def GlyphRightsUptoSaid : Prop := glyphRightsUptoRow.holds Tryd.pinned (OpenSpec.upto glyphRightsSpec)

/-- 'flipbooklaw07.GlyphWides', WHERE WHAT IT READS IS OF BULK AT MOST 1048576: true; the input reads as it did. -/
def glyphWidesUptoRow : OpenClaim := { program := "ytamccnffnljadaadoor", sum := "c231b955c9d100cb287808015fcb05091e3d4a7c7c5c2f8d6fc4f8513ab29273", func := "flipbook/flipbooklaw07.GlyphWides", spec := "glyphWides", named := ["flipbook/glyph.signs", "flipbook/glyph.wide"], apart := false, laid := [("flipbook/glyph.wide", laid_flipbook_glyph_wide), ("flipbook/glyph.signs", laid_flipbook_glyph_signs)], narrowed := true }
def GlyphWidesUptoSaid : Prop := glyphWidesUptoRow.holds Tryd.pinned (OpenSpec.upto glyphWidesSpec)

/-- 'flipbooklaw07.GlyphUnlike', WHERE WHAT IT READS IS OF BULK AT MOST 1048576: true; the input reads as it did. -/
def glyphUnlikeUptoRow : OpenClaim := { program := "ytamccnffnljadaadoor", sum := "c231b955c9d100cb287808015fcb05091e3d4a7c7c5c2f8d6fc4f8513ab29273", func := "flipbook/flipbooklaw07.GlyphUnlike", spec := "glyphUnlike", named := ["flipbook/glyph.signs", "flipbook/glyph.wide"], apart := false, laid := [("flipbook/glyph.wide", laid_flipbook_glyph_wide), ("flipbook/glyph.signs", laid_flipbook_glyph_signs)], narrowed := true }
def GlyphUnlikeUptoSaid : Prop := glyphUnlikeUptoRow.holds Tryd.pinned (OpenSpec.upto glyphUnlikeSpec)

/-- 'flipbooklaw07.GlyphDraws', WHERE WHAT IT READS IS OF BULK AT MOST 1048576: true; the input reads as it did. -/
def glyphDrawsUptoRow : OpenClaim := { program := "ytamccnffnljadaadoor", sum := "c231b955c9d100cb287808015fcb05091e3d4a7c7c5c2f8d6fc4f8513ab29273", func := "flipbook/flipbooklaw07.GlyphDraws", spec := "glyphDraws", named := ["flipbook/glyph.signs", "flipbook/glyph.wide"], apart := false, laid := [("flipbook/glyph.wide", laid_flipbook_glyph_wide), ("flipbook/glyph.signs", laid_flipbook_glyph_signs)], narrowed := true }
def GlyphDrawsUptoSaid : Prop := glyphDrawsUptoRow.holds Tryd.pinned (OpenSpec.upto glyphDrawsSpec)

/-- 'flipbooklaw07.GlyphColumns', WHERE WHAT IT READS IS OF BULK AT MOST 1048576: true; the input reads as it did. -/
def glyphColumnsUptoRow : OpenClaim := { program := "ytamccnffnljadaadoor", sum := "c231b955c9d100cb287808015fcb05091e3d4a7c7c5c2f8d6fc4f8513ab29273", func := "flipbook/flipbooklaw07.GlyphColumns", spec := "glyphColumns", named := ["flipbook/glyph.signs", "flipbook/glyph.wide"], apart := false, laid := [("flipbook/glyph.wide", laid_flipbook_glyph_wide), ("flipbook/glyph.signs", laid_flipbook_glyph_signs)], narrowed := true }
def GlyphColumnsUptoSaid : Prop := glyphColumnsUptoRow.holds Tryd.pinned (OpenSpec.upto glyphColumnsSpec)

end Rows
end Go.Proofs.YtamccnffnljadaaDoor
