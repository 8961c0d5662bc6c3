/- What the condition on the listed variables gives the walks: the cells of the two tables. -/
import Derived.Test.YtamccnffnljadaaDoorRows
import Derived.Test.YtamccnffnljadaaDoorG5
import Derived.ProofKit
import Derived.OpenShut
import Derived.LaidMore
import Derived.Lay
import Derived.Stop.Joined
namespace Go.Proofs.YtamccnffnljadaaDoor
open Go.ChangeShapes Go.WideShapes Go.ChangeAt Go.RowKit

theorem ownKnobNone : ownKnob Tryd.prog.godebug = none := by kernel_rfl
theorem lawRightsB (r : Int) (w : World) (hT : Tables w) : Calls Tryd.prog 3 #[.int .i32 r] w fun e w' => e = .returned (.bool true) ∧ Below w.heap.size w w' :=
  (lawRights r w hT).mono fun _ _ ⟨h, h2⟩ => ⟨h, h2 ▸ Below.refl _ _⟩
theorem lawWidesB (r : Int) (w : World) (hT : Tables w) : Calls Tryd.prog 4 #[.int .i32 r] w fun e w' => e = .returned (.bool true) ∧ Below w.heap.size w w' :=
  (lawWides r w hT).mono fun _ _ ⟨h, h2⟩ => ⟨h, h2 ▸ Below.refl _ _⟩
theorem lawUnlikeB (a b : Int) (w : World) (hT : Tables w) : Calls Tryd.prog 5 #[.int .i32 a, .int .i32 b] w fun e w' => e = .returned (.bool true) ∧ Below w.heap.size w w' :=
  (lawUnlike a b w hT).mono fun _ _ ⟨h, h2⟩ => ⟨h, h2 ▸ Below.refl _ _⟩

abbrev laidT : List (String × DataW Unit) := [("flipbook/glyph.wide", Rows.laid_flipbook_glyph_wide), ("flipbook/glyph.signs", Rows.laid_flipbook_glyph_signs)]
theorem doorMet (os : Os) (args : Array Value) : laidMetH Tryd.prog laidT ((World.doorLaid Tryd.prog 400 os).forCall (fun _ _ => 0) ⟨#[], args, []⟩).memory :=
  laidMetH_of_parts3 (fuel := 8) (laidMet_of_run' 8 (by kernel_rfl) (by kernel_rfl)) (by kernel_rfl) (by kernel_rfl)

theorem table_of_trod {W : World} {g n t : Nat} {name : String} {cs : Array Value} {fuel : Nat} {l : List Int} {q : List MemPlace} (hg : Tryd.prog.globalNamed name = some g) (hv : W.var? Tryd.prog name = some cs)
    (hd : DataW.trod (H := Unit) (fun _ => ()) Tryd.prog W 0 (fun _ => true) false fuel t cs.toList = some (.agg (l.map fun n => .lit (.int .i32 n)), q))
    (ht : Tryd.prog.underlying t = some (.array n 21)) (hl : l.length = n) : Table W g l := by
  obtain ⟨xs, m, _, ex, _, hlx, hel⟩ := DataW.trod_array ht hd
  have c21 : Tryd.prog.cellsOf 21 = 1 := by kernel_rfl
  intro r hr
  have hE := hel r (by omega)
  rw [c21, Nat.mul_one, List.getElem?_eq_getElem (by omega)] at hE
  obtain ⟨z, e1, e2, _⟩ := DataW.trod_int Tryd.underlying21 hE
  have e3 : (xs.map (·.1)) = l.map fun n => .lit (.int .i32 n) := (DataW.agg.inj (Prod.mk.inj ex).1).symm
  have e4 : (xs.map (·.1))[r]? = (l.map fun n => (DataW.lit (.int .i32 n) : DataW Unit))[r]? := by rw [e3]
  rw [List.getElem?_map, List.getElem?_map, List.getElem?_eq_getElem (by omega : r < xs.length), List.getElem?_eq_getElem (by omega : r < l.length), e2] at e4
  have hz : z = l.getD r 0 := by
    simp only [Option.map_some, Option.some.injEq, DataW.lit.injEq, Lit.int.injEq, true_and] at e4
    rw [e4, List.getD, List.getElem?_eq_getElem (by omega : r < l.length)]; rfl
  rw [World.var?_cell hg hv r, ← hz]
  have : cs.toList[r]? = some (.int .i32 z) := by
    have h0 : ((cs.toList.drop r).take 1)[0]? = some (.int .i32 z) := by rw [e1]; rfl
    simpa using h0
  simpa using this

theorem tables_of_laid {W : World} (h : laidMetH Tryd.prog laidT W) : Tables W := by
  rw [MakeChecks.laidMetH_plain _ _ _ (by kernel_rfl)] at h
  obtain ⟨ps, ⟨g0, t0, cs0, f0, p0, q0, hg0, ht0, hv0, hd0, ⟨g1, t1, cs1, f1, p1, q1, hg1, ht1, hv1, hd1, _, _⟩, _⟩, _, _⟩ := h
  obtain rfl := Option.some.inj ((show Tryd.prog.globalNamed "flipbook/glyph.wide" = some 0 by kernel_rfl).symm.trans hg0)
  obtain rfl := Option.some.inj ((show Tryd.prog.globalNamed "flipbook/glyph.signs" = some 1 by kernel_rfl).symm.trans hg1)
  obtain rfl := Option.some.inj ((show (Tryd.prog.globals[0]?).map (·.type) = some 30 by kernel_rfl).symm.trans ht0)
  obtain rfl := Option.some.inj ((show (Tryd.prog.globals[1]?).map (·.type) = some 31 by kernel_rfl).symm.trans ht1)
  exact ⟨table_of_trod hg0 hv0 hd0 Tryd.underlying30 rfl, table_of_trod hg1 hv1 hd1 Tryd.underlying31 rfl⟩
end Go.Proofs.YtamccnffnljadaaDoor
