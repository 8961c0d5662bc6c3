/- The walks of glyph.Drawn, fit, the reference's functions. -/
import Derived.Test.YtamccnffnljadaaDoorG2
namespace Go.Proofs.YtamccnffnljadaaDoor
open Go Go.RowKit

def signsL : List Int := [9670, 9618, 9225, 9228, 9229, 9226, 176, 177, 9252, 9227, 9496, 9488, 9484, 9492, 9532, 9146, 9147, 9472, 9148, 9149, 9500, 9508, 9524, 9516, 9474, 8804, 8805, 960, 8800, 163, 183]
def drawnI (r : Int) : Int := if 96 ≤ r ∧ r ≤ 126 then signsL.getD (r - 96).toNat 0 else r

set_option maxHeartbeats 1000000 in
theorem drawn_out (r : Int) (w : World) (h : r < 96 ∨ 126 < r) : Calls Tryd.prog 14 #[.int .i32 r] w fun e w' => e = .returned (.int .i32 r) ∧ w = w' := by
  by_cases h1 : r < 96
  · go_enter Tryd.func14, Tryd.ntmps14
    go_wp2
    go_ret
    exact ⟨rfl, rfl⟩
  · have h2 : 126 < r := by omega
    clear h
    go_enter Tryd.func14, Tryd.ntmps14
    go_wp2
    go_ret
    exact ⟨rfl, rfl⟩
set_option maxHeartbeats 1000000 in
theorem drawn_in (j : Nat) (x : Int) (w : World) (h : j < 31) (hc : w.cell? ⟨1, j, none⟩ = some (.int .i32 x)) : Calls Tryd.prog 14 #[.int .i32 ((j : Int) + 96)] w fun e w' => e = .returned (.int .i32 x) ∧ w = w' := by
  go_enter Tryd.func14, Tryd.ntmps14
  go_wp2
  go_ret
  exact ⟨rfl, rfl⟩
theorem drawn_any (r : Int) (w : World) (hs : Table w 1 signsL) : Calls Tryd.prog 14 #[.int .i32 r] w fun e w' => e = .returned (.int .i32 (drawnI r)) ∧ w = w' := by
  unfold drawnI
  by_cases h : 96 ≤ r ∧ r ≤ 126
  · rw [if_pos h]
    obtain ⟨j, rfl⟩ : ∃ j : Nat, r = (j : Int) + 96 := ⟨(r - 96).toNat, by omega⟩
    have e : ((j : Int) + 96 - 96).toNat = j := by omega
    rw [e]
    exact drawn_in j _ w (by omega) (hs j (by simp [signsL]; omega))
  · rw [if_neg h]
    exact drawn_out r w (by omega)

def amongB (r a b : Int) : Bool := decide (a ≤ r) && decide (r ≤ b)
theorem among_any (r a b : Int) (w : World) : Calls Tryd.prog 17 #[.int .i32 r, .int .i32 a, .int .i32 b] w fun e w' => e = .returned (.bool (amongB r a b)) ∧ w = w' := by
  by_cases h1 : a ≤ r <;> by_cases h2 : r ≤ b
  all_goals
    go_enter Tryd.func17, Tryd.ntmps17
    go_wp2
    go_ret
    exact ⟨by simp [amongB, *], rfl⟩
theorem amongLaw_any (r a b : Int) (w : World) : Calls Tryd.prog 13 #[.int .i32 r, .int .i32 a, .int .i32 b] w fun e w' => e = .returned (.bool (amongB r a b)) ∧ w = w' := by
  by_cases h1 : a ≤ r <;> by_cases h2 : r ≤ b
  all_goals
    go_enter Tryd.func13, Tryd.ntmps13
    go_wp2
    go_ret
    exact ⟨by simp [amongB, *], rfl⟩
def refRightB (r : Int) : Bool := amongB r 32 126 || amongB r 128 55295 || amongB r 57344 1114111
set_option maxHeartbeats 1000000 in
theorem refRight_any (r : Int) (w : World) : Calls Tryd.prog 10 #[.int .i32 r] w fun e w' => e = .returned (.bool (refRightB r)) ∧ w = w' := by
  rcases h1 : amongB r 32 126 <;> rcases h2 : amongB r 128 55295 <;> rcases h3 : amongB r 57344 1114111
  all_goals
    go_enter Tryd.func10, Tryd.ntmps10
    go_wp2_with (go_at_call 17; refine (among_any _ _ _ _).mono ?_; rintro e w' ⟨rfl, rfl⟩)
    go_ret
    exact ⟨by simp [refRightB, *], rfl⟩
def refWideB (r : Int) : Bool := (amongB r 4352 4447 || amongB r 11904 12350 || amongB r 12352 42191 || amongB r 44032 55203) || (amongB r 63744 64255 || amongB r 65072 65135 || amongB r 65280 65376 || amongB r 65504 65510) || (amongB r 127744 128591 || amongB r 131072 262141)
set_option maxHeartbeats 1000000 in
theorem refWide_any (r : Int) (w : World) : Calls Tryd.prog 11 #[.int .i32 r] w fun e w' => e = .returned (.bool (refWideB r)) ∧ w = w' := by
  rcases h1 : amongB r 4352 4447
  rotate_left
  · go_enter Tryd.func11, Tryd.ntmps11
    go_wp2_with (go_at_call 17; refine (among_any _ _ _ _).mono ?_; rintro e w' ⟨rfl, rfl⟩)
    go_ret
    exact ⟨by simp [refWideB, *], rfl⟩
  rcases h2 : amongB r 11904 12350
  rotate_left
  · go_enter Tryd.func11, Tryd.ntmps11
    go_wp2_with (go_at_call 17; refine (among_any _ _ _ _).mono ?_; rintro e w' ⟨rfl, rfl⟩)
    go_ret
    exact ⟨by simp [refWideB, *], rfl⟩
  rcases h3 : amongB r 12352 42191
  rotate_left
  · go_enter Tryd.func11, Tryd.ntmps11
    go_wp2_with (go_at_call 17; refine (among_any _ _ _ _).mono ?_; rintro e w' ⟨rfl, rfl⟩)
    go_ret
    exact ⟨by simp [refWideB, *], rfl⟩
  rcases h4 : amongB r 44032 55203
  rotate_left
  · go_enter Tryd.func11, Tryd.ntmps11
    go_wp2_with (go_at_call 17; refine (among_any _ _ _ _).mono ?_; rintro e w' ⟨rfl, rfl⟩)
    go_ret
    exact ⟨by simp [refWideB, *], rfl⟩
  rcases h5 : amongB r 63744 64255
  rotate_left
  · go_enter Tryd.func11, Tryd.ntmps11
    go_wp2_with (go_at_call 17; refine (among_any _ _ _ _).mono ?_; rintro e w' ⟨rfl, rfl⟩)
    go_ret
    exact ⟨by simp [refWideB, *], rfl⟩
  rcases h6 : amongB r 65072 65135
  rotate_left
  · go_enter Tryd.func11, Tryd.ntmps11
    go_wp2_with (go_at_call 17; refine (among_any _ _ _ _).mono ?_; rintro e w' ⟨rfl, rfl⟩)
    go_ret
    exact ⟨by simp [refWideB, *], rfl⟩
  rcases h7 : amongB r 65280 65376
  rotate_left
  · go_enter Tryd.func11, Tryd.ntmps11
    go_wp2_with (go_at_call 17; refine (among_any _ _ _ _).mono ?_; rintro e w' ⟨rfl, rfl⟩)
    go_ret
    exact ⟨by simp [refWideB, *], rfl⟩
  rcases h8 : amongB r 65504 65510
  rotate_left
  · go_enter Tryd.func11, Tryd.ntmps11
    go_wp2_with (go_at_call 17; refine (among_any _ _ _ _).mono ?_; rintro e w' ⟨rfl, rfl⟩)
    go_ret
    exact ⟨by simp [refWideB, *], rfl⟩
  rcases h9 : amongB r 127744 128591 <;> rcases h10 : amongB r 131072 262141
  all_goals
    go_enter Tryd.func11, Tryd.ntmps11
    go_wp2_with (go_at_call 17; refine (among_any _ _ _ _).mono ?_; rintro e w' ⟨rfl, rfl⟩)
    go_ret
    exact ⟨by simp [refWideB, *], rfl⟩
def Tables (w : World) : Prop := Table w 0 wideL ∧ Table w 1 signsL
set_option maxHeartbeats 1000000 in
theorem fit_any (w : World) (hT : Tables w) : Calls Tryd.prog 8 #[] w fun e w' => e = .returned (.bool true) ∧ w = w' := by
  have c1 := drawn_any 113 w hT.2
  have c2 := wide_any 20013 w hT.1
  have c3 := right_any 97 w
  rw [show drawnI 113 = 9472 by decide] at c1
  rw [show wideB 20013 = true by decide] at c2
  rw [show rightB 97 = true by decide] at c3
  clear hT
  go_enter Tryd.func8, Tryd.ntmps8
  go_wp2_with (first | (go_at_call 14; refine c1.mono ?_; rintro e w' ⟨rfl, rfl⟩) | (go_at_call 12; refine c2.mono ?_; rintro e w' ⟨rfl, rfl⟩) | (go_at_call 9; refine c3.mono ?_; rintro e w' ⟨rfl, rfl⟩))
  go_ret
  exact ⟨rfl, rfl⟩
end Go.Proofs.YtamccnffnljadaaDoor
