/- The walk of glyph.Wide. -/
import Derived.Test.YtamccnffnljadaaDoorG1
namespace Go.Proofs.YtamccnffnljadaaDoor
open Go Go.RowKit

def wideL : List Int := [4352, 4447, 11904, 42191, 44032, 55203, 63744, 64255, 65072, 65135, 65280, 65376, 65504, 65510, 127744, 128591, 131072, 262141]
def inWide (r : Int) : List Int → Bool
  | a :: b :: l => if r < a then false else if r ≤ b then true else inWide r l
  | _ => false
def wideB (r : Int) : Bool := !(r == 12351) && inWide r wideL
def Table (w : World) (g : Nat) (l : List Int) : Prop := ∀ j, j < l.length → w.cell? ⟨g, j, none⟩ = some (.int .i32 (l.getD j 0))

theorem inWide_drop (r : Int) (k : Nat) (l : List Int) (h : k + 1 < l.length) :
    inWide r (l.drop k) = if r < l.getD k 0 then false else if r ≤ l.getD (k+1) 0 then true else inWide r (l.drop (k+2)) := by
  have e1 : l.drop k = l.getD k 0 :: l.getD (k+1) 0 :: l.drop (k+2) := by
    rw [List.drop_eq_getElem_cons (by omega), List.drop_eq_getElem_cons (by omega)]
    simp [List.getD_eq_getElem?_getD, List.getElem?_eq_getElem h, List.getElem?_eq_getElem (show k < l.length by omega)]
  rw [e1]
  rfl

set_option maxHeartbeats 1000000 in
theorem wide_any (r : Int) (w : World) (hw : Table w 0 wideL) : Calls Tryd.prog 12 #[.int .i32 r] w fun e w' => e = .returned (.bool (wideB r)) ∧ w = w' := by
  by_cases h1 : r = 12351
  · subst h1
    go_enter Tryd.func12, Tryd.ntmps12
    go_wp2
    go_ret
    exact ⟨rfl, rfl⟩
  · have hb : (r == 12351) = false := by simpa using h1
    have hwb : wideB r = inWide r (wideL.drop 0) := by simp [wideB, hb]
    have HW := hidd hwb
    clear hwb h1
    go_enter Tryd.func12, Tryd.ntmps12
    go_wp2
    go_loop [3] (fun i => ∃ k : Nat, k ≤ 9 ∧ i = .int .i64 (2 * k : Nat) ∧ wideB r = inWide r (wideL.drop (2 * k))) (fun i => 18 - (intOf i).toNat)
    case atStart => exact ⟨0, by omega, rfl, HW.out⟩
    case round =>
      obtain ⟨k, hk, rfl, hrel⟩ := hrel
      have HR := hidd hrel
      clear hrel HW
      by_cases hlt : k < 9
      · have c0 := hw (2 * k) (by simp [wideL]; omega)
        have c1 := hw (2 * k + 1) (by simp [wideL]; omega)
        have hd := inWide_drop r (2 * k) wideL (by simp [wideL]; omega)
        have HD := hidd hd
        clear hd
        generalize wideL.getD (2 * k) 0 = x at *
        generalize wideL.getD (2 * k + 1) 0 = y at *
        obtain ⟨z, hz⟩ : ∃ z, z = 2 * k := ⟨_, rfl⟩
        have hz2 : z + 1 < 18 := by omega
        have HZ := hidd hz
        rw [← hz] at c0 c1 ⊢
        clear hz hw
        go_wp2
        · have hc : r < x := by assumption
          go_ret
          refine ⟨?_, rfl⟩
          rw [HR.out, HD.out, if_pos hc]; rfl
        · have hc : x ≤ r := by assumption
          have hc' : r ≤ y := by assumption
          go_ret
          refine ⟨?_, rfl⟩
          rw [HR.out, HD.out, if_neg (by omega), if_pos hc']; rfl
        · have hc : x ≤ r := by assumption
          have hc' : y < r := by assumption
          refine ⟨⟨k + 1, by omega, ?_, ?_⟩, ?_⟩
          · rw [HZ.out]; congr 1
          · rw [HR.out, HD.out, if_neg (by omega), if_neg (by omega)]; first | rfl | (simp only [Nat.mul_add])
          · simp [intOf]; omega
      · obtain rfl : k = 9 := by omega
        clear hw
        go_wp2
        go_ret
        refine ⟨?_, rfl⟩
        rw [HR.out]; rfl
end Go.Proofs.YtamccnffnljadaaDoor
