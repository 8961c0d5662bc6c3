/- The walks of the functions that the five glyph statements reach. -/
import Derived.Test.YtamccnffnljadaaDoorProg
import Derived.WalkKit
import Derived.KernelRfl
import Derived.Below
import Derived.Deep.LoopGhost
import Derived.Deep.QuietTactic
import Derived.BigQuiet
namespace Go.Proofs.YtamccnffnljadaaDoor
open Go Go.RowKit

theorem hidd {p : Prop} (h : p) : Hid p := h
def rightB (r : Int) : Bool := decide (32 ≤ r) && decide (r ≤ 1114111) && decide (r ≠ 127) && (decide (r < 55296) || decide (57343 < r))

theorem right_any (r : Int) (w : World) : Calls Tryd.prog 9 #[.int .i32 r] w fun e w' => e = .returned (.bool (rightB r)) ∧ w = w' := by
  by_cases h1 : 32 ≤ r <;> by_cases h2 : r ≤ 1114111 <;> by_cases h3 : r = 127 <;> by_cases h4 : r < 55296 <;> by_cases h5 : 57343 < r
  all_goals
    go_enter Tryd.func9, Tryd.ntmps9
    go_wp2
    go_ret
    exact ⟨by simp [rightB, *], rfl⟩
end Go.Proofs.YtamccnffnljadaaDoor
