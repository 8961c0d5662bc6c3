/- The walks of glyph.Columns and of the reference's Drawn. -/
import Derived.Test.YtamccnffnljadaaDoorG3
import Derived.OwnWalk
namespace Go.Proofs.YtamccnffnljadaaDoor
open Go Go.RowKit

def colI (r : Int) : Int := if wideB r then 2 else if rightB r then 1 else 0
def colsI (l : List Int) : Int := (l.map colI).sum
theorem colI_bd (r : Int) : 0 ≤ colI r ∧ colI r ≤ 2 := by unfold colI; split <;> (try split) <;> omega
theorem colsI_bd (l : List Int) : 0 ≤ colsI l ∧ colsI l ≤ 2 * l.length := by
  induction l with
  | nil => simp [colsI]
  | cons a l ih => have := colI_bd a; simp [colsI] at *; omega
theorem colsI_take (l : List Int) (k : Nat) (h : k < l.length) : colsI (l.take (k + 1)) = colsI (l.take k) + colI (l.getD k 0) := by
  rw [List.take_succ_eq_append_getElem h]
  unfold colsI
  rw [List.map_append, List.sum_append]
  simp [List.getD_eq_getElem?_getD, List.getElem?_eq_getElem h]

/-- What a slice of runes reads as. -/
def Runes (w : World) (a : Option Addr) (n : Nat) (l : List Int) : Prop := l.length = n ∧ ∀ j, j < n → ∃ p, a = some p ∧ w.cell? (p.add j) = some (.int .i32 (l.getD j 0))

set_option maxHeartbeats 1000000 in
theorem columns_any (a : Option Addr) (n c : Nat) (l : List Int) (w : World) (hT : Tables w) (hr : Runes w a n l) (hn : n ≤ 4611686018427387903) :
    Calls Tryd.prog 16 #[.slice a n c] w fun e w' => e = .returned (.int .i64 (colsI l)) ∧ w = w' := by
  obtain ⟨hl, hc⟩ := hr
  go_enter Tryd.func16, Tryd.ntmps16
  go_wp2
  go_loop [3, 8] (fun s i => ∃ k : Nat, k ≤ n ∧ i = .int .i64 k ∧ s = .int .i64 (colsI (l.take k))) (fun _ i => n - (intOf i).toNat)
  case atStart => exact ⟨0, by omega, rfl, rfl⟩
  case round =>
    obtain ⟨k, hk, rfl, rfl⟩ := hrel
    by_cases hlt : k < n
    · have ht := colsI_take l k (by omega)
      have hb := colsI_bd (l.take k)
      have hlen : (l.take k).length ≤ k := List.length_take_le _ _
      obtain ⟨p, rfl, hcell⟩ := hc k hlt
      generalize l.getD k 0 = r at *
      generalize hs : colsI (l.take k) = s at *
      have HT := hidd ht
      have HL := hidd hl
      have HS := hidd hs
      have ci : colI r = if wideB r then 2 else if rightB r then 1 else 0 := rfl
      have HC := hidd ci
      clear ht hs hl hc ci
      rcases h1 : wideB r <;> rcases h2 : rightB r
      all_goals
        go_wp2_with (first | (go_at_call 12; refine (wide_any _ _ hT.1).mono ?_; rintro e w' ⟨rfl, rfl⟩) | (go_at_call 9; refine (right_any _ _).mono ?_; rintro e w' ⟨rfl, rfl⟩))
        refine ⟨⟨k + 1, by omega, by go_num, ?_⟩, by simp [intOf]; omega⟩
        rw [HT.out, HC.out]
        simp [h1, h2]
    · obtain rfl : k = n := by omega
      go_wp2
      go_ret
      refine ⟨?_, rfl⟩
      rw [List.take_of_length_le (by omega)]; rfl
theorem refDrawn_out (r : Int) (w : World) (h : amongB r 96 126 = false) : Calls Tryd.prog 15 #[.int .i32 r] w fun e w' => e = .returned (.int .i32 r) ∧ Below w.heap.size w w' := by
  go_enter Tryd.func15, Tryd.ntmps15
  go_wp2_with (go_at_call 17; refine (among_any _ _ _ _).mono ?_; rintro e w' ⟨rfl, rfl⟩)
  go_ret
  exact ⟨rfl, Below.refl _ _⟩
end Go.Proofs.YtamccnffnljadaaDoor
