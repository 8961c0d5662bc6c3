/- The walks of three statements: GlyphRights, GlyphWides, GlyphUnlike. -/
import Derived.Test.YtamccnffnljadaaDoorG3
namespace Go.Proofs.YtamccnffnljadaaDoor
open Go Go.RowKit

theorem rights_eq (r : Int) : rightB r = refRightB r := by
  unfold rightB refRightB amongB
  rw [Bool.eq_iff_iff]; simp; omega
theorem wides_eq (r : Int) : wideB r = refWideB r := by
  unfold wideB refWideB amongB inWide wideL
  rw [Bool.eq_iff_iff]
  simp [inWide]
  omega
theorem wide_right (r : Int) (h : wideB r = true) : rightB r = true := by
  rw [wides_eq] at h
  unfold refWideB amongB at h
  unfold rightB
  simp at h ⊢
  omega
set_option maxHeartbeats 1000000 in
theorem lawRights (r : Int) (w : World) (hT : Tables w) : Calls Tryd.prog 3 #[.int .i32 r] w fun e w' => e = .returned (.bool true) ∧ w = w' := by
  have cf := fit_any w hT
  have c1 := right_any r w
  have c2 := refRight_any r w
  rw [rights_eq] at c1
  clear hT
  generalize refRightB r = b at *
  cases b
  all_goals
    go_enter Tryd.func3, Tryd.ntmps3
    go_wp2_with (first | (go_at_call 8; refine cf.mono ?_; rintro e w' ⟨rfl, rfl⟩) | (go_at_call 9; refine c1.mono ?_; rintro e w' ⟨rfl, rfl⟩) | (go_at_call 10; refine c2.mono ?_; rintro e w' ⟨rfl, rfl⟩))
    go_ret
    exact ⟨rfl, rfl⟩
set_option maxHeartbeats 1000000 in
theorem lawWides (r : Int) (w : World) (hT : Tables w) : Calls Tryd.prog 4 #[.int .i32 r] w fun e w' => e = .returned (.bool true) ∧ w = w' := by
  have cf := fit_any w hT
  have c1 := wide_any r w hT.1
  have c2 := refWide_any r w
  have c3 := right_any r w
  have hwr := wide_right r
  rw [wides_eq] at c1 hwr
  clear hT
  generalize refWideB r = b at *
  generalize rightB r = q at *
  cases b
  · clear hwr
    go_enter Tryd.func4, Tryd.ntmps4
    go_wp2_with (first | (go_at_call 8; refine cf.mono ?_; rintro e w' ⟨rfl, rfl⟩) | (go_at_call 12; refine c1.mono ?_; rintro e w' ⟨rfl, rfl⟩) | (go_at_call 11; refine c2.mono ?_; rintro e w' ⟨rfl, rfl⟩))
    go_ret
    exact ⟨rfl, rfl⟩
  · obtain rfl := hwr rfl
    clear hwr
    go_enter Tryd.func4, Tryd.ntmps4
    go_wp2_with (first | (go_at_call 8; refine cf.mono ?_; rintro e w' ⟨rfl, rfl⟩) | (go_at_call 12; refine c1.mono ?_; rintro e w' ⟨rfl, rfl⟩) | (go_at_call 11; refine c2.mono ?_; rintro e w' ⟨rfl, rfl⟩) | (go_at_call 9; refine c3.mono ?_; rintro e w' ⟨rfl, rfl⟩))
    go_ret
    exact ⟨rfl, rfl⟩
theorem signs_inj : ∀ i, i < 31 → ∀ j, j < 31 → (signsL.getD i 0 = signsL.getD j 0 ↔ i = j) := by decide +kernel
theorem unlike_eq (a b : Int) (ha : amongB a 96 126 = true) (hb : amongB b 96 126 = true) : (drawnI a == drawnI b) = (a == b) := by
  unfold amongB at ha hb
  simp at ha hb
  unfold drawnI
  rw [if_pos ha, if_pos hb]
  have := signs_inj (a - 96).toNat (by omega) (b - 96).toNat (by omega)
  rw [Bool.eq_iff_iff, beq_iff_eq, beq_iff_eq, this]
  omega
set_option maxHeartbeats 1000000 in
theorem lawUnlike (a b : Int) (w : World) (hT : Tables w) : Calls Tryd.prog 5 #[.int .i32 a, .int .i32 b] w fun e w' => e = .returned (.bool true) ∧ w = w' := by
  have cf := fit_any w hT
  have c1 := amongLaw_any a 96 126 w
  have c2 := amongLaw_any b 96 126 w
  have c3 := drawn_any a w hT.2
  have c4 := drawn_any b w hT.2
  have hu := unlike_eq a b
  clear hT
  generalize amongB a 96 126 = p at *
  generalize amongB b 96 126 = q at *
  cases p
  · clear hu c3 c4 c2
    go_enter Tryd.func5, Tryd.ntmps5
    go_wp2_with (first | (go_at_call 8; refine cf.mono ?_; rintro e w' ⟨rfl, rfl⟩) | (go_at_call 13; refine c1.mono ?_; rintro e w' ⟨rfl, rfl⟩))
    go_ret
    exact ⟨rfl, rfl⟩
  cases q
  · clear hu c3 c4
    go_enter Tryd.func5, Tryd.ntmps5
    go_wp2_with fail
    refine cf.mono ?_; rintro e w' ⟨rfl, rfl⟩
    go_wp2_with fail
    refine c1.mono ?_; rintro e w' ⟨rfl, rfl⟩
    go_wp2_with fail
    refine c2.mono ?_; rintro e w' ⟨rfl, rfl⟩
    go_wp2
    go_ret
    exact ⟨rfl, rfl⟩
  · have hu := hu rfl rfl
    generalize drawnI a = x at *
    generalize drawnI b = y at *

    go_enter Tryd.func5, Tryd.ntmps5
    go_wp2_with fail
    refine cf.mono ?_; rintro e w' ⟨rfl, rfl⟩
    go_wp2_with fail
    refine c1.mono ?_; rintro e w' ⟨rfl, rfl⟩
    go_wp2_with fail
    refine c2.mono ?_; rintro e w' ⟨rfl, rfl⟩
    go_wp2_with fail
    refine c3.mono ?_; rintro e w' ⟨rfl, rfl⟩
    go_wp2_with fail
    refine c4.mono ?_; rintro e w' ⟨rfl, rfl⟩
    go_wp2
    go_ret
    refine ⟨?_, rfl⟩
    simp
end Go.Proofs.YtamccnffnljadaaDoor
