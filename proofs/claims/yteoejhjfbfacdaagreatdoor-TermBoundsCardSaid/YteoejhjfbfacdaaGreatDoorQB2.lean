/- What the proof of TermBounds needs, part 2: the walks of the program's functions and the plain laws about them. -/
import Derived.Test.YteoejhjfbfacdaaGreatDoorQB1
import Derived.Test.YteoejhjfbfacdaaGreatDoorProg
import Derived.WalkKit
import Derived.KernelRfl
import Derived.Below
import Derived.Deep.LoopGhost
import Derived.Deep.QuietTactic
import Derived.BigQuiet
import Derived.OwnWalk
set_option linter.unusedSimpArgs false
set_option linter.unusedVariables false
namespace Go.Proofs.YteoejhjfbfacdaaGreatDoor
open Go Go.RowKit
theorem hidd {p : Prop} (h : p) : Hid p := h
def rightB (r : Int) : Bool := decide (32 ≤ r) && decide (r ≤ 1114111) && decide (r ≠ 127) && (decide (r < 55296) || decide (57343 < r))
theorem right_any (r : Int) (w : World) : Calls Tryz.prog 112 #[.int .i32 r] w fun e w' => e = .returned (.bool (rightB r)) ∧ w = w' := by
 by_cases h1 : 32 ≤ r <;> by_cases h2 : r ≤ 1114111 <;> by_cases h3 : r = 127 <;> by_cases h4 : r < 55296 <;> by_cases h5 : 57343 < r
 all_goals
  go_enter Tryz.func112, Tryz.ntmps112
  go_wp2
  go_ret
  exact ⟨by simp [rightB, *], rfl⟩
def wideL : List Int := [4352, 4447, 11904, 42191, 44032, 55203, 63744, 64255, 65072, 65135, 65280, 65376, 65504, 65510, 127744, 128591, 131072, 262141]
def inWide (r : Int) : List Int → Bool
 | a :: b :: l => if r < a then false else if r ≤ b then true else inWide r l
 | _ => false
def wideB (r : Int) : Bool := !(r == 12351) && inWide r wideL
def Table (w : World) (g : Nat) (l : List Int) : Prop := ∀ j, j < l.length → w.cell? ⟨g, j, none⟩ = some (.int .i32 (l.getD j 0))
theorem inWide_drop (r : Int) (k : Nat) (l : List Int) (h : k + 1 < l.length) :
  inWide r (l.drop k) = if r < l.getD k 0 then false else if r ≤ l.getD (k+1) 0 then true else inWide r (l.drop (k+2)) := by
 have e1 : l.drop k = l.getD k 0 :: l.getD (k+1) 0 :: l.drop (k+2) := by
  rw [List.drop_eq_getElem_cons (by omega), List.drop_eq_getElem_cons (by omega)]
  simp [List.getD_eq_getElem?_getD, List.getElem?_eq_getElem h, List.getElem?_eq_getElem (show k < l.length by omega)]
 rw [e1]
 rfl
set_option maxHeartbeats 1000000 in
theorem wide_any (r : Int) (w : World) (hw : Table w 0 wideL) : Calls Tryz.prog 70 #[.int .i32 r] w fun e w' => e = .returned (.bool (wideB r)) ∧ w = w' := by
 by_cases h1 : r = 12351
 ·subst h1
  go_enter Tryz.func70, Tryz.ntmps70
  go_wp2
  go_ret
  exact ⟨rfl, rfl⟩
 ·have hb : (r == 12351) = false := by simpa using h1
  have hwb : wideB r = inWide r (wideL.drop 0) := by simp [wideB, hb]
  have HW := hidd hwb
  clear hwb h1
  go_enter Tryz.func70, Tryz.ntmps70
  go_wp2
  go_loop [3] (fun i => ∃ k : Nat, k ≤ 9 ∧ i = .int .i64 (2 * k : Nat) ∧ wideB r = inWide r (wideL.drop (2 * k))) (fun i => 18 - (intOf i).toNat)
  case atStart => exact ⟨0, by omega, rfl, HW.out⟩
  case round =>
   obtain ⟨k, hk, rfl, hrel⟩ := hrel
   have HR := hidd hrel
   clear hrel HW
   by_cases hlt : k < 9
   ·have c0 := hw (2 * k) (by simp [wideL]; omega)
    have c1 := hw (2 * k + 1) (by simp [wideL]; omega)
    have hd := inWide_drop r (2 * k) wideL (by simp [wideL]; omega)
    have HD := hidd hd
    clear hd
    generalize wideL.getD (2 * k) 0 = x at *
    generalize wideL.getD (2 * k + 1) 0 = y at *
    obtain ⟨z, hz⟩ : ∃ z, z = 2 * k := ⟨_, rfl⟩
    have hz2 : z + 1 < 18 := by omega
    have HZ := hidd hz
    rw [← hz] at c0 c1 ⊢
    clear hz hw
    go_wp2
    ·have hc : r < x := by assumption
     go_ret
     refine ⟨?_, rfl⟩
     rw [HR.out, HD.out, if_pos hc]; rfl
    ·have hc : x ≤ r := by assumption
     have hc' : r ≤ y := by assumption
     go_ret
     refine ⟨?_, rfl⟩
     rw [HR.out, HD.out, if_neg (by omega), if_pos hc']; rfl
    ·have hc : x ≤ r := by assumption
     have hc' : y < r := by assumption
     refine ⟨⟨k + 1, by omega, ?_, ?_⟩, ?_⟩
     ·rw [HZ.out]; congr 1
     ·rw [HR.out, HD.out, if_neg (by omega), if_neg (by omega)]; first | rfl | (simp only [Nat.mul_add])
     ·simp [intOf]; omega
   ·obtain rfl : k = 9 := by omega
    clear hw
    go_wp2
    go_ret
    refine ⟨?_, rfl⟩
    rw [HR.out]; rfl
def signsL : List Int := [9670, 9618, 9225, 9228, 9229, 9226, 176, 177, 9252, 9227, 9496, 9488, 9484, 9492, 9532, 9146, 9147, 9472, 9148, 9149, 9500, 9508, 9524, 9516, 9474, 8804, 8805, 960, 8800, 163, 183]
def drawnI (r : Int) : Int := if 96 ≤ r ∧ r ≤ 126 then signsL.getD (r - 96).toNat 0 else r
set_option maxHeartbeats 1000000 in
theorem drawn_out (r : Int) (w : World) (h : r < 96 ∨ 126 < r) : Calls Tryz.prog 116 #[.int .i32 r] w fun e w' => e = .returned (.int .i32 r) ∧ w = w' := by
 by_cases h1 : r < 96
 ·go_enter Tryz.func116, Tryz.ntmps116
  go_wp2
  go_ret
  exact ⟨rfl, rfl⟩
 ·have h2 : 126 < r := by omega
  clear h
  go_enter Tryz.func116, Tryz.ntmps116
  go_wp2
  go_ret
  exact ⟨rfl, rfl⟩
set_option maxHeartbeats 1000000 in
theorem drawn_in (j : Nat) (x : Int) (w : World) (h : j < 31) (hc : w.cell? ⟨3, j, none⟩ = some (.int .i32 x)) : Calls Tryz.prog 116 #[.int .i32 ((j : Int) + 96)] w fun e w' => e = .returned (.int .i32 x) ∧ w = w' := by
 go_enter Tryz.func116, Tryz.ntmps116
 go_wp2
 go_ret
 exact ⟨rfl, rfl⟩
theorem drawn_any (r : Int) (w : World) (hs : Table w 3 signsL) : Calls Tryz.prog 116 #[.int .i32 r] w fun e w' => e = .returned (.int .i32 (drawnI r)) ∧ w = w' := by
 unfold drawnI
 by_cases h : 96 ≤ r ∧ r ≤ 126
 ·rw [if_pos h]
  obtain ⟨j, rfl⟩ : ∃ j : Nat, r = (j : Int) + 96 := ⟨(r - 96).toNat, by omega⟩
  have e : ((j : Int) + 96 - 96).toNat = j := by omega
  rw [e]
  exact drawn_in j _ w (by omega) (hs j (by simp [signsL]; omega))
 ·rw [if_neg h]
  exact drawn_out r w (by omega)
def Tables (w : World) : Prop := Table w 0 wideL ∧ Table w 3 signsL
def colI (r : Int) : Int := if wideB r then 2 else if rightB r then 1 else 0
def colsI (l : List Int) : Int := (l.map colI).sum
theorem colI_bd (r : Int) : 0 ≤ colI r ∧ colI r ≤ 2 := by unfold colI; split <;> (try split) <;> omega
theorem colsI_bd (l : List Int) : 0 ≤ colsI l ∧ colsI l ≤ 2 * l.length := by
 induction l with
 | nil => simp [colsI]
 | cons a l ih => have := colI_bd a; simp [colsI] at *; omega
theorem colsI_take (l : List Int) (k : Nat) (h : k < l.length) : colsI (l.take (k + 1)) = colsI (l.take k) + colI (l.getD k 0) := by
 rw [List.take_succ_eq_append_getElem h]
 unfold colsI
 rw [List.map_append, List.sum_append]
 simp [List.getD_eq_getElem?_getD, List.getElem?_eq_getElem h]
def Runes (w : World) (a : Option Addr) (n : Nat) (l : List Int) : Prop := l.length = n ∧ ∀ j, j < n → ∃ p, a = some p ∧ w.cell? (p.add j) = some (.int .i32 (l.getD j 0))
set_option maxHeartbeats 1000000 in
theorem columns_any (a : Option Addr) (n c : Nat) (l : List Int) (w : World) (hT : Tables w) (hr : Runes w a n l) (hn : n ≤ 4611686018427387903) :
  Calls Tryz.prog 117 #[.slice a n c] w fun e w' => e = .returned (.int .i64 (colsI l)) ∧ w = w' := by
 obtain ⟨hl, hc⟩ := hr
 go_enter Tryz.func117, Tryz.ntmps117
 go_wp2
 go_loop [3, 8] (fun s i => ∃ k : Nat, k ≤ n ∧ i = .int .i64 k ∧ s = .int .i64 (colsI (l.take k))) (fun _ i => n - (intOf i).toNat)
 case atStart => exact ⟨0, by omega, rfl, rfl⟩
 case round =>
  obtain ⟨k, hk, rfl, rfl⟩ := hrel
  by_cases hlt : k < n
  ·have ht := colsI_take l k (by omega)
   have hb := colsI_bd (l.take k)
   have hlen : (l.take k).length ≤ k := List.length_take_le _ _
   obtain ⟨p, rfl, hcell⟩ := hc k hlt
   generalize l.getD k 0 = r at *
   generalize hs : colsI (l.take k) = s at *
   have HT := hidd ht
   have HL := hidd hl
   have HS := hidd hs
   have ci : colI r = if wideB r then 2 else if rightB r then 1 else 0 := rfl
   have HC := hidd ci
   clear ht hs hl hc ci
   rcases h1 : wideB r <;> rcases h2 : rightB r
   all_goals
    go_wp2_with (first | (go_at_call 70; refine (wide_any _ _ hT.1).mono ?_; rintro e w' ⟨rfl, rfl⟩) | (go_at_call 112; refine (right_any _ _).mono ?_; rintro e w' ⟨rfl, rfl⟩))
    refine ⟨⟨k + 1, by omega, by go_num, ?_⟩, by simp [intOf]; omega⟩
    rw [HT.out, HC.out]
    simp [h1, h2]
  ·obtain rfl : k = n := by omega
   go_wp2
   go_ret
   refine ⟨?_, rfl⟩
   rw [List.take_of_length_le (by omega)]; rfl
end Go.Proofs.YteoejhjfbfacdaaGreatDoor
namespace Go.Proofs.YteoejhjfbfacdaaGreatDoor.X
open Go Go.RowKit Go.Proofs.YteoejhjfbfacdaaGreatDoor
structure Sty where
 bold : Bool
 under : Bool
 turned : Bool
 fore : Int
 back : Int
 deriving DecidableEq
structure Cel where
 rune : Int
 sty : Sty
 deriving DecidableEq
structure Cur where
 x : Int
 y : Int
 late : Bool
 sty : Sty
 deriving DecidableEq
def sty0 : Sty := ⟨false, false, false, 0, 0⟩
def cel0 : Cel := ⟨0, sty0⟩
def cur0 : Cur := ⟨0, 0, false, sty0⟩
def blankC (s : Sty) : Cel := ⟨32, ⟨false, false, false, 0, s.back⟩⟩
def Cel.vals (c : Cel) : List Value := [.int .i32 c.rune, .bool c.sty.bold, .bool c.sty.under, .bool c.sty.turned, .int .i64 c.sty.fore, .int .i64 c.sty.back]
def flat : List Cel → List Value
 | [] => []
 | c :: l => c.vals ++ flat l
theorem vals_len (c : Cel) : c.vals.length = 6 := rfl
theorem flat_len (l : List Cel) : (flat l).length = l.length * 6 := by
 induction l with
 | nil => rfl
 | cons c l ih => simp [flat, vals_len, ih]; omega
theorem flat_app (a b : List Cel) : flat (a ++ b) = flat a ++ flat b := by
 induction a with
 | nil => rfl
 | cons c l ih => simp [flat, ih]
theorem flat_drop (l : List Cel) (n : Nat) : (flat l).drop (n * 6) = flat (l.drop n) := by
 induction n generalizing l with
 | zero => simp
 | succ n ih =>
  cases l with
  | nil => simp [flat]
  | cons c l =>
   rw [List.drop_succ_cons, ← ih l, flat, show (n + 1) * 6 = c.vals.length + n * 6 by rw [vals_len]; omega, ← List.drop_drop, List.drop_left]
theorem flat_take (l : List Cel) (n : Nat) : (flat l).take (n * 6) = flat (l.take n) := by
 induction n generalizing l with
 | zero => simp [flat]
 | succ n ih =>
  cases l with
  | nil => simp [flat]
  | cons c l =>
   rw [List.take_succ_cons, flat, flat, show (n + 1) * 6 = c.vals.length + n * 6 by rw [vals_len]; omega, List.take_length_add_append, ih l]
def gc (l : List Cel) (i : Int) : Cel := l.getD i.toNat cel0
theorem flat_get (l : List Cel) (i : Int) (k : Nat) (h0 : 0 ≤ i) (h : i < (l.length : Nat)) (hk : k < 6) : (flat l)[i.toNat * 6 + k]? = (gc l i).vals[k]? := by
 have h1 : i.toNat < l.length := by omega
 have e : flat l = flat (l.take i.toNat) ++ ((gc l i).vals ++ flat (l.drop (i.toNat + 1))) := by
  conv => lhs; rw [← List.take_append_drop i.toNat l, List.drop_eq_getElem_cons h1]
  rw [flat_app, flat]
  have : gc l i = l[i.toNat] := by simp [gc, List.getD, List.getElem?_eq_getElem h1]
  rw [this]
 have hl : (flat (l.take i.toNat)).length = i.toNat * 6 := by rw [flat_len, List.length_take]; omega
 rw [e, List.getElem?_append_right (by omega), hl, List.getElem?_append_left (by rw [vals_len]; omega)]
 congr 1; omega
theorem put_mid (a b r vs : List Value) (o : Nat) (ho : a.length = o) (hb : b.length = vs.length) : put (a ++ b ++ r) o vs = a ++ vs ++ r := by
 subst ho
 have e1 : (a ++ b ++ r).take a.length = a := by rw [List.append_assoc, List.take_left]
 have e2 : (a ++ b ++ r).drop (a.length + vs.length) = r := by rw [← hb, ← List.length_append, List.drop_left]
 unfold put
 rw [e1, e2]
theorem flat_cut (l : List Cel) (i : Int) (h0 : 0 ≤ i) (h : i < (l.length : Nat)) (r : List Value) : flat l ++ r = flat (l.take i.toNat) ++ (gc l i).vals ++ (flat (l.drop (i.toNat + 1)) ++ r) := by
 have h1 : i.toNat < l.length := by omega
 have : gc l i = l[i.toNat] := by simp [gc, List.getD, List.getElem?_eq_getElem h1]
 conv => lhs; rw [← List.take_append_drop i.toNat l, List.drop_eq_getElem_cons h1]
 rw [flat_app, flat, this]
 simp [List.append_assoc]
theorem flat_set (l : List Cel) (i : Int) (h0 : 0 ≤ i) (h : i < (l.length : Nat)) (c : Cel) (r : List Value) : flat (l.set i.toNat c) ++ r = flat (l.take i.toNat) ++ c.vals ++ (flat (l.drop (i.toNat + 1)) ++ r) := by
 have h1 : i.toNat < l.length := by omega
 rw [List.set_eq_take_append_cons_drop, if_pos h1, flat_app, flat]
 simp [List.append_assoc]
theorem put_cel (l : List Cel) (i : Int) (h0 : 0 ≤ i) (h : i < (l.length : Nat)) (c : Cel) (r : List Value) : put (flat l ++ r) (i.toNat * 6) c.vals = flat (l.set i.toNat c) ++ r := by
 rw [flat_cut l i h0 h r, flat_set l i h0 h c r]
 exact put_mid _ (gc l i).vals _ c.vals _ (by rw [flat_len, List.length_take]; omega) rfl
theorem put_rune (l : List Cel) (i : Int) (h0 : 0 ≤ i) (h : i < (l.length : Nat)) (x : Int) (r : List Value) : put (flat l ++ r) (i.toNat * 6) [.int .i32 x] = flat (l.set i.toNat ⟨x, (gc l i).sty⟩) ++ r := by
 rw [flat_cut l i h0 h r, flat_set l i h0 h _ r]
 have e : ∀ (c : Cel) (s : List Value), c.vals ++ s = [Value.int .i32 c.rune] ++ ((Cel.vals c).drop 1 ++ s) := fun _ _ => rfl
 rw [List.append_assoc, e, ← List.append_assoc, put_mid _ [.int .i32 (gc l i).rune] _ [.int .i32 x] _ (by rw [flat_len, List.length_take]; omega) rfl]
 simp [Cel.vals, List.append_assoc]
abbrev tCell : TypeId := 61
abbrev tLine : TypeId := 85
theorem rd_at {w : World} {b o : Nat} {ys : List Value} (h : Rd w (some ⟨b, o, none⟩) ys) (j : Nat) (v : Value) (hv : ys[j]? = some v) : w.cell? ⟨b, o + j, none⟩ = some v := by
 have := h.2 _ rfl j v hv
 rwa [add_pl] at this
section
variable {w : World} {b : Nat} {l : List Cel} {i : Int} (h : Rd w (some ⟨b, 0, none⟩) (flat l)) (h0 : 0 ≤ i) (h1 : i < (l.length : Nat))
include h h0 h1
theorem c_rune : w.cell? ⟨b, 0 + i.toNat * 6, none⟩ = some (.int .i32 (gc l i).rune) := rd_at h (i.toNat * 6) _ (flat_get l i 0 h0 h1 (by decide))
theorem c_bold : w.cell? ⟨b, 0 + i.toNat * 6 + 1, none⟩ = some (.bool (gc l i).sty.bold) := by rw [Nat.add_assoc]; exact rd_at h (i.toNat * 6 + 1) _ (flat_get l i 1 h0 h1 (by decide))
theorem c_under : w.cell? ⟨b, 0 + i.toNat * 6 + 2, none⟩ = some (.bool (gc l i).sty.under) := by rw [Nat.add_assoc]; exact rd_at h (i.toNat * 6 + 2) _ (flat_get l i 2 h0 h1 (by decide))
theorem c_turned : w.cell? ⟨b, 0 + i.toNat * 6 + 3, none⟩ = some (.bool (gc l i).sty.turned) := by rw [Nat.add_assoc]; exact rd_at h (i.toNat * 6 + 3) _ (flat_get l i 3 h0 h1 (by decide))
theorem c_fore : w.cell? ⟨b, 0 + i.toNat * 6 + 4, none⟩ = some (.int .i64 (gc l i).sty.fore) := by rw [Nat.add_assoc]; exact rd_at h (i.toNat * 6 + 4) _ (flat_get l i 4 h0 h1 (by decide))
theorem c_back : w.cell? ⟨b, 0 + i.toNat * 6 + 5, none⟩ = some (.int .i64 (gc l i).sty.back) := by rw [Nat.add_assoc]; exact rd_at h (i.toNat * 6 + 5) _ (flat_get l i 5 h0 h1 (by decide))
end
def LineAt (w : World) (b : Nat) (l : List Cel) (cap : Nat) : Prop := Own w tCell 6 (some b) l.length cap (flat l)
theorem LineAt.rd {w : World} {b cap : Nat} {l : List Cel} (h : LineAt w b l cap) : Rd w (some ⟨b, 0, none⟩) (flat l) := Own.rd h
theorem LineAt.ch {w w' : World} {b cap : Nat} {l : List Cel} {B : Nat → Prop} (h : LineAt w b l cap) (hc : Ch B w w') (hn : ¬ B b) : LineAt w' b l cap := Own.ch h hc fun g e => by cases e; exact hn
theorem LineAt.lt {w : World} {b cap : Nat} {l : List Cel} (h : LineAt w b l cap) : b < w.heap.size := Own.lt h
theorem LineAt.blk {w : World} {b cap : Nat} {l : List Cel} (h : LineAt w b l cap) : ∃ r, r.length = (cap - l.length) * 6 ∧ Blk w b (flat l ++ r) tCell := h.2.2.2.2 b rfl
theorem LineAt.of {w : World} {b cap : Nat} {l : List Cel} {r : List Value} (h : Blk w b (flat l ++ r) tCell) (hr : r.length = (cap - l.length) * 6) (hc : l.length ≤ cap) (hm : cap ≤ maxLen) : LineAt w b l cap :=
 ⟨flat_len l, hc, hm, (fun e => by cases e), fun g e => by cases e; exact ⟨r, hr, h⟩⟩
theorem Ch.rd {w w' : World} {b o : Nat} {ys : List Value} {B : Nat → Prop} (hc : Ch B w w') (h : Rd w (some ⟨b, o, none⟩) ys) (hn : ¬ B b) : Rd w' (some ⟨b, o, none⟩) ys := h.ch hc fun ad e => by cases e; exact hn
def pairedB (l : List Cel) (i : Int) : Bool := decide (0 ≤ i) && decide (i + 1 < (l.length : Nat)) && wideB (gc l i).rune && (gc l (i + 1) == ⟨0, (gc l i).sty⟩)
def mendC (l : List Cel) (i : Int) : Cel := if (decide ((gc l i).rune = 0) && !pairedB l (i - 1)) || (wideB (gc l i).rune && !pairedB l i) then ⟨32, (gc l i).sty⟩ else gc l i
def mendTo (l : List Cel) : Nat → List Cel
 | 0 => l
 | k + 1 => (mendTo l k).set k (mendC l (k : Int))
def mend (l : List Cel) : List Cel := mendTo l l.length
theorem mendTo_len (l : List Cel) (k : Nat) : (mendTo l k).length = l.length := by
 induction k with
 | zero => rfl
 | succ k ih => simp [mendTo, ih]
theorem mend_len (l : List Cel) : (mend l).length = l.length := mendTo_len l _
def styleB (s : Sty) : Bool := decide (0 ≤ s.fore) && decide (s.fore ≤ 8) && decide (0 ≤ s.back) && decide (s.back ≤ 8)
def celB (c : Cel) : Bool := rightB c.rune && styleB c.sty
end Go.Proofs.YteoejhjfbfacdaaGreatDoor.X
namespace Go.Proofs.YteoejhjfbfacdaaGreatDoor.X
open Go Go.RowKit Go.Proofs.YteoejhjfbfacdaaGreatDoor
abbrev gWide : Nat := 0
abbrev gSigns : Nat := 3
abbrev gTop : Nat := 7
theorem g_lt : gWide < gTop ∧ gSigns < gTop := by decide
theorem tables_ch {w w' : World} {B : Nat → Prop} (h : Ch B w w') (hT : Tables w) (h0 : ¬ B gWide) (h1 : ¬ B gSigns) : Tables w' :=
 ⟨fun j hj => cell_ch h (hT.1 j hj) h0, fun j hj => cell_ch h (hT.2 j hj) h1⟩
theorem ch_eq {w w' : World} (h : w = w') : Ch (fun _ => False) w w' := h ▸ Ch.refl _ _
def Df (x y : Nat) : Prop := ¬ x = y
def Up (B : Nat) (w w' : World) : Prop := Ch (fun k => B ≤ k) w w'
theorem Up.refl (B : Nat) (w : World) : Up B w w := Ch.refl _ _
theorem Up.step {B : Nat} {w w1 w2 : World} {C : Nat → Prop} (h : Up B w w1) (k : Ch C w1 w2) (hC : ∀ i, i < B → ¬ C i) : Up B w w2 :=
 h.trans k fun i _ hi => Nat.le_of_not_lt fun hlt => hC i hlt hi
theorem Up.ch {w w' : World} (h : Up w.heap.size w w') : Ch (fun _ => False) w w' := h.mono fun i hi hb => by omega
theorem cell_lt {w : World} {b o : Nat} {v : Value} (hc : w.cell? ⟨b, o, none⟩ = some v) : b < w.heap.size := by
 rcases Nat.lt_or_ge b w.heap.size with h' | h'
 ·exact h'
 ·simp [World.cell?, Array.getElem?_eq_none h'] at hc
theorem tab_lt {w : World} (h : Tables w) : gWide < w.heap.size ∧ gSigns < w.heap.size := ⟨cell_lt (h.1 0 (by decide)), cell_lt (h.2 0 (by decide))⟩
theorem flat_one_cells (l : List Cel) : ((flat l).all fun c => c.oneCell') = true := by
 induction l with
 | nil => rfl
 | cons c l ih => rw [flat, List.all_append, ih, Bool.and_true]; rfl
theorem new_le {w : World} {g b B : Nat} (h : some g = some b ∨ ∃ g', some g = some g' ∧ w.heap.size ≤ g') (hb : B ≤ b) (hw : B ≤ w.heap.size) : B ≤ g := by
 rcases h with h | ⟨g', h, h'⟩
 ·have := Option.some.inj h; omega
 ·have := Option.some.inj h; omega
theorem line_fit (l : List Cel) (r : List Value) (i : Int) (h0 : 0 ≤ i) (h1 : i < (l.length : Nat)) {vs : List Value} (hv : vs.length ≤ 6) : 0 + i.toNat * 6 + vs.length ≤ (flat l ++ r).length := by
 rw [List.length_append, flat_len]; omega
section
variable {w w' : World} {b cap : Nat} {l : List Cel} {r : List Value} {i : Int} (h : LineAt w b l cap) (hr : r.length = (cap - l.length) * 6) (h0 : 0 ≤ i) (h1 : i < (l.length : Nat))
include h hr h0 h1
theorem s_cel (c : Cel) (hb : Blk w' b (put (flat l ++ r) (0 + i.toNat * 6) c.vals) tCell) : LineAt w' b (l.set i.toNat c) cap := by
 rw [Nat.zero_add, put_cel l i h0 h1] at hb
 exact LineAt.of hb (by rw [List.length_set]; exact hr) (by rw [List.length_set]; exact h.2.1) h.2.2.1
theorem s_rune (x : Int) (hb : Blk w' b (put (flat l ++ r) (0 + i.toNat * 6) [.int .i32 x]) tCell) : LineAt w' b (l.set i.toNat ⟨x, (gc l i).sty⟩) cap := by
 rw [Nat.zero_add, put_rune l i h0 h1] at hb
 exact LineAt.of hb (by rw [List.length_set]; exact hr) (by rw [List.length_set]; exact h.2.1) h.2.2.1
end
theorem beq_cel (a b : Cel) : ((a.rune : Int) == b.rune && ((a.sty.bold == b.sty.bold) && ((a.sty.under == b.sty.under) && ((a.sty.turned == b.sty.turned) && (((a.sty.fore : Int) == b.sty.fore) && (((a.sty.back : Int) == b.sty.back) && true)))) && true)) = (a == b) := by
 obtain ⟨r, ⟨b1, b2, b3, f, k⟩⟩ := a
 obtain ⟨r', ⟨c1, c2, c3, f', k'⟩⟩ := b
 rw [Bool.eq_iff_iff]
 simp [and_assoc]
end Go.Proofs.YteoejhjfbfacdaaGreatDoor.X
namespace Go.Proofs.YteoejhjfbfacdaaGreatDoor.X
open Go Go.RowKit Go.Proofs.YteoejhjfbfacdaaGreatDoor
set_option maxHeartbeats 4000000 in
theorem blank_any (s : Sty) (w : World) : Calls Tryz.prog 114 [.agg #[.bool s.bold, .bool s.under, .bool s.turned, iX s.fore, iX s.back]].toArray w fun e w' => e = .returned (.agg (blankC s).vals.toArray) ∧ Ch (fun _ => False) w w' := by
 refine yA Tryz.func114 rfl <| ysr <| yo (yN [.bool s.bold, .bool s.under, .bool s.turned, iX s.fore, iX s.back] 43 fun w10 b11 hb12 hz13 hB14 hc15 => ?_)
 have hlo16 : w.heap.size ≤ b11 := by rw [hb12]; exact Ch.size (Up.refl w.heap.size w)
 have hu17 := Up.step (Up.refl w.heap.size w) hc15 iZ
 refine yo (yN [rX 0, .bool false, .bool false, .bool false, iX 0, iX 0] 61 fun w18 b19 hb20 hz21 hB22 hc23 => ?_)
 have hlo24 : w.heap.size ≤ b19 := by rw [hb20]; exact Ch.size hu17
 have hu25 := Up.step hu17 hc23 iZ
 have hB26 := hB14.ch hc23 id
 refine ye <| ysr <| yp 4 [] (.l (hB26.c 4) .z) <| yo (yS hB22 fun w27 hB28 hc29 => ?_)
 have hu30 := Up.step hu25 hc29 (fun i hi (h : i = b19) => by omega)
 replace hB28 : Blk w27 b19 [rX 32, .bool false, .bool false, .bool false, iX 0, iX s.back] _ := Blk.to hB28 (by kernel_rfl)
 refine ye <| x_ret (yR1c (.agg #[rX 32, .bool false, .bool false, .bool false, iX 0, iX s.back]) (.a (hB28.cs 0 6) .z) ?_)
 exact ⟨rfl, Up.ch hu30⟩
set_option maxHeartbeats 4000000 in
theorem style_any (s : Sty) (w : World) : Calls Tryz.prog 33 [.agg #[.bool s.bold, .bool s.under, .bool s.turned, iX s.fore, iX s.back]].toArray w fun e w' => e = .returned (.bool (styleB s)) ∧ Ch (fun _ => False) w w' := by
 refine yA Tryz.func33 rfl <| ysr <| yo (yN [.bool s.bold, .bool s.under, .bool s.turned, iX s.fore, iX s.back] 43 fun w10 b11 hb12 hz13 hB14 hc15 => ?_)
 have hlo16 : w.heap.size ≤ b11 := by rw [hb12]; exact Ch.size (Up.refl w.heap.size w)
 have hu17 := Up.step (Up.refl w.heap.size w) hc15 iZ
 refine yp 2 [] .z <| ye <| ysr <| yp 4 [] (.l (hB14.c 3) .z) <| yw [6] (rM 0 s.fore) (fun hC18 => ?_) fun hC18 => ?_
 ·refine yp 9 [] (.l (hB14.c 3) .z) <| yw [11] (rM s.fore 8) (fun hC19 => ?_) fun hC19 => ?_
  ·refine yp 14 [] (.l (hB14.c 4) .z) <| yw [16] (rM 0 s.back) (fun hC20 => ?_) fun hC20 => ?_
   ·refine yp 19 [] (.l (hB14.c 4) .z) <| ye <| x_ret (yR1 (.bool (decide (s.back ≤ 8))) ?_)
    refine ⟨?_, Up.ch hu17⟩
    refine congrArg Ending.returned (congrArg Value.bool ?_)
    rw [Bool.eq_iff_iff]
    simp only [styleB, Bool.and_eq_true, decide_eq_true_eq, Bool.false_eq_true, true_iff, false_iff, iff_true, iff_false, not_and]
    omega
   refine yp 19 [] .z <| ye <| x_ret (yR1 (.bool false) ?_)
   refine ⟨?_, Up.ch hu17⟩
   refine congrArg Ending.returned (congrArg Value.bool ?_)
   rw [Bool.eq_iff_iff]
   simp only [styleB, Bool.and_eq_true, decide_eq_true_eq, Bool.false_eq_true, true_iff, false_iff, iff_true, iff_false, not_and]
   omega
  refine yp 19 [] .z <| ye <| x_ret (yR1 (.bool false) ?_)
  refine ⟨?_, Up.ch hu17⟩
  refine congrArg Ending.returned (congrArg Value.bool ?_)
  rw [Bool.eq_iff_iff]
  simp only [styleB, Bool.and_eq_true, decide_eq_true_eq, Bool.false_eq_true, true_iff, false_iff, iff_true, iff_false, not_and]
  omega
 refine yp 19 [] .z <| ye <| x_ret (yR1 (.bool false) ?_)
 refine ⟨?_, Up.ch hu17⟩
 refine congrArg Ending.returned (congrArg Value.bool ?_)
 rw [Bool.eq_iff_iff]
 simp only [styleB, Bool.and_eq_true, decide_eq_true_eq, Bool.false_eq_true, true_iff, false_iff, iff_true, iff_false, not_and]
 omega
set_option maxHeartbeats 4000000 in
theorem celB_any (c : Cel) (w : World) : Calls Tryz.prog 69 [.agg #[rX c.rune, .bool c.sty.bold, .bool c.sty.under, .bool c.sty.turned, iX c.sty.fore, iX c.sty.back]].toArray w fun e w' => e = .returned (.bool (celB c)) ∧ Ch (fun _ => False) w w' := by
 refine yA Tryz.func69 rfl <| ysr <| yo (yN [rX c.rune, .bool c.sty.bold, .bool c.sty.under, .bool c.sty.turned, iX c.sty.fore, iX c.sty.back] 61 fun w10 b11 hb12 hz13 hB14 hc15 => ?_)
 have hlo16 : w.heap.size ≤ b11 := by rw [hb12]; exact Ch.size (Up.refl w.heap.size w)
 have hu17 := Up.step (Up.refl w.heap.size w) hc15 iZ
 refine yp 2 [] .z <| ye <| ysr <| yp 2 [] (.l (hB14.c 0) .z) <| yo (yQ (right_any c.rune _) fun w18 hq => ?_)
 have hc19 := ch_eq hq
 clear hq
 have hu20 := Up.step hu17 hc19 iZ
 have hB21 := hB14.ch hc19 id
 refine yp 4 [] .z <| yw [6] (rY (rightB c.rune)) (fun hC22 => ?_) fun hC22 => ?_
 ·refine yp 6 [] (.a (hB21.cs 1 5) .z) <| yo (yQ (style_any c.sty _) fun w24 hc23 => ?_)
  have hu25 := Up.step hu20 hc23 iZ
  refine yp 9 [] .z <| ye <| x_ret (yR1 (.bool (styleB c.sty)) ?_)
  exact ⟨by simp [celB, *], Up.ch hu25⟩
 refine yp 9 [] .z <| ye <| x_ret (yR1 (.bool false) ?_)
 exact ⟨by simp [celB, *], Up.ch hu20⟩
set_option maxHeartbeats 4000000 in
theorem paired_any (b n cap : Nat) (l : List Cel) (i : Int) (w : World) (hT : Tables w) (hr : Rd w (some ⟨b, 0, none⟩) (flat l)) (hb : b < w.heap.size) (hn : l.length = n) (hnb : n ≤ 1000000) (hi : -10 ≤ i ∧ i ≤ 1000000) : Calls Tryz.prog 68 [.slice (some ⟨b, 0, none⟩) n cap, iX i].toArray w fun e w' => e = .returned (.bool (pairedB l i)) ∧ Ch (fun _ => False) w w' := by
 refine yA Tryz.func68 rfl <| ysr <| yp 1 [] .z <| ye <| ys <| yD [15] fun w10 hH11 hc12 => ?_
 have hu13 := Up.step (Up.refl w.heap.size w) hc12 iZ
 have hT14 := tables_ch hc12 hT id id
 have hr15 := Ch.rd hc12 hr id
 refine yd (uL 0 3) [] .z <| yv [7] (rM 0 i) (fun hC16 => ?_) fun hC16 => ?_
 ·refine yd (uL 3 7) [] (.q6 (i + 1) .z) <| yv [14] (rL (i + 1) ((n : Nat) : Int)) (fun hC17 => ?_) fun hC17 => ?_
  ·refine yd (uL 10 5) [] (.i i (n) (.l (c_rune (i := i) hr15 (by omega) (by omega)) .z)) <| yK 15 (yQ (wide_any (gc l i).rune _ hT14.1) fun w18 hq => ?_)
   have hc19 := ch_eq hq
   clear hq
   have hu20 := Up.step hu13 hc19 iZ
   have hr22 := Ch.rd hc19 hr15 id
   refine x_killed <| yd [16, 17] [] .z <| yv [22] (rY (wideB (gc l i).rune)) (fun hC23 => ?_) fun hC23 => ?_
   ·refine yd (uL 18 14) [] (.q6 (i + 1) (.i (i + 1) (n) (.m (c_rune (i := (i + 1)) hr22 (by omega) (by omega)) (.m (c_bold (i := (i + 1)) hr22 (by omega) (by omega)) (.m (c_under (i := (i + 1)) hr22 (by omega) (by omega)) (.m (c_turned (i := (i + 1)) hr22 (by omega) (by omega)) (.m (c_fore (i := (i + 1)) hr22 (by omega) (by omega)) (.m (c_back (i := (i + 1)) hr22 (by omega) (by omega)) (.e (.i i (n) (.m (c_bold (i := i) hr22 (by omega) (by omega)) (.m (c_under (i := i) hr22 (by omega) (by omega)) (.m (c_turned (i := i) hr22 (by omega) (by omega)) (.m (c_fore (i := i) hr22 (by omega) (by omega)) (.m (c_back (i := i) hr22 (by omega) (by omega)) (.e .z)))))))))))))))) <| yDe (nS ?_)
    refine x_ret (yR1 (.bool ((((gc l (i + 1)).rune : Int) == 0) && ((((gc l (i + 1)).sty.bold == (gc l i).sty.bold) && (((gc l (i + 1)).sty.under == (gc l i).sty.under) && (((gc l (i + 1)).sty.turned == (gc l i).sty.turned) && ((((gc l (i + 1)).sty.fore : Int) == (gc l i).sty.fore) && ((((gc l (i + 1)).sty.back : Int) == (gc l i).sty.back) && true))))) && true))) ?_)
    refine ⟨congrArg Ending.returned (congrArg Value.bool ?_), Up.ch hu20⟩
    refine (beq_cel (gc l (i + 1)) ⟨0, (gc l i).sty⟩).trans ?_
    unfold pairedB; rw [hn]; simp [*]
   refine yd (uL 18 14) [] .z <| yDe (nS ?_)
   refine x_ret (yR1 (.bool false) ?_)
   refine ⟨congrArg Ending.returned (congrArg Value.bool ?_), Up.ch hu20⟩
   unfold pairedB; rw [hn]; simp [*] <;> omega
  refine yd (uL 10 22) [] .z <| yDe (nS ?_)
  refine x_ret (yR1 (.bool false) ?_)
  refine ⟨congrArg Ending.returned (congrArg Value.bool ?_), Up.ch hu13⟩
  unfold pairedB; rw [hn]; simp [*] <;> omega
 refine yd (uL 3 29) [] .z <| yDe (nS ?_)
 refine x_ret (yR1 (.bool false) ?_)
 refine ⟨congrArg Ending.returned (congrArg Value.bool ?_), Up.ch hu13⟩
 unfold pairedB; rw [hn]; simp [*] <;> omega
set_option maxHeartbeats 4000000 in
theorem clone_any (b n cap : Nat) (l : List Cel) (w : World) (hr : Rd w (some ⟨b, 0, none⟩) (flat l)) (hb : b < w.heap.size) (hn : l.length = n) (hnb : n ≤ 1000000) : Calls Tryz.prog 133 [.slice (some ⟨b, 0, none⟩) n cap].toArray w fun e w' =>
    ∃ g cap', e = .returned (.slice (some ⟨g, 0, none⟩) n cap') ∧ LineAt w' g l cap' ∧ w.heap.size ≤ g ∧ Ch (fun _ => False) w w' := by
  refine yA Tryz.func133 rfl ?_
  refine ysr ?_
  refine yp 1 [] .z ?_
  refine ye ?_
  refine ys ?_
  refine ysr ?_
  refine yp 2 [] .z ?_
  refine ye ?_
  refine ycf ?_
  refine yk ?_
  refine ysr ?_
  refine yo (e_bs0 61 (some 5) (by kernel_rfl) ?_)
  intro w10 b11 hb12 hz13 hB14 hc15
  have hlo16 : w.heap.size ≤ b11 := by rw [hb12]; exact Ch.size (Up.refl w.heap.size w)
  have hu17 := Up.step (Up.refl w.heap.size w) hc15 iZ
  have hr18 := Ch.rd hc15 hr id
  refine yp 2 [] .z ?_
  refine yo (e_app' 61 6 32 (some b11) 0 0 [] (some ⟨b, 0, none⟩) n cap (flat l) (some 7) n (Nat.zero_add _) (flat l) rfl (by kernel_rfl) (Own.blk hB14 rfl (Nat.zero_le _)) hr18 (by rw [flat_len, hn]) (by first | rfl | exact flat_one_cells _) (fun h => by cases h) (by constructor <;> (first | omega | (simp only [maxLen]; omega))) ?_)
  intro w19 og20 cp21 hO22 hne23 hpos24 hc25
  obtain ⟨g26, rfl⟩ : ∃ g, og20 = some g := by rcases hne23 with h | ⟨g, h, _⟩ <;> exact ⟨_, h⟩
  have hd27 : Df b g26 := app_ne hne23 (fun h => (fun (h : b = b11) => by have := (Nat.lt_of_lt_of_le hb (Ch.size (Up.refl w.heap.size w))); omega) (Option.some.inj h).symm) (Nat.lt_of_lt_of_le hb (Ch.size hu17))
  replace hc25 := ch_some hc25
  have hu28 := Up.step hu17 hc25 (fun i hi (h : i = b11) => by omega)
  have hl30 : LineAt w19 g26 l cp21 := by unfold LineAt; rw [hn]; exact hO22
  refine yp 4 [] .z ?_
  refine ye ?_
  refine x_ret (yR1 (.slice (some ⟨g26, 0, none⟩) n cp21) ?_)
  exact ⟨g26, cp21, rfl, hl30, new_le hne23 (by omega) (by have := Ch.size (Up.refl w.heap.size w); omega), Up.ch hu28⟩
theorem mendTo_get (l : List Cel) : ∀ (k : Nat) (i : Int), (k : Int) ≤ i → gc (mendTo l k) i = gc l i
  | 0, _, _ => rfl
  | k + 1, i, h => by
    rw [← mendTo_get l k i (by omega)]
    show gc ((mendTo l k).set k _) i = _
    unfold gc
    rw [List.getD, List.getD, List.getElem?_set_ne (by omega)]
theorem mendC_on (l : List Cel) (i : Int) (h : ((gc l i).rune = 0 ∧ pairedB l (i - 1) = false) ∨ (wideB (gc l i).rune = true ∧ pairedB l i = false)) : mendC l i = ⟨32, (gc l i).sty⟩ := by
 unfold mendC
 rw [if_pos (by rcases h with ⟨a, b⟩ | ⟨a, b⟩ <;> simp [a, b])]
theorem mendC_off (l : List Cel) (i : Int) (h : ¬ ((gc l i).rune = 0 ∧ pairedB l (i - 1) = false)) (h' : ¬ (wideB (gc l i).rune = true ∧ pairedB l i = false)) : mendC l i = gc l i := by
 unfold mendC
 rw [if_neg (by simp only [Bool.or_eq_true, Bool.and_eq_true, decide_eq_true_eq, Bool.not_eq_true']; exact fun h1 => h1.elim h h')]
theorem mend_keep (l : List Cel) (k : Nat) (hk : k < l.length) (h : mendC l (k : Int) = gc l (k : Int)) : mendTo l (k + 1) = mendTo l k := by
 show (mendTo l k).set k _ = _
 rw [h, ← mendTo_get l k k (by omega)]
 have hl : k < (mendTo l k).length := by rw [mendTo_len]; exact hk
 simp [gc, List.getD, List.getElem?_eq_getElem hl]
theorem mend_put (l : List Cel) (k : Nat) (h : mendC l (k : Int) = ⟨32, (gc l (k : Int)).sty⟩) : mendTo l (k + 1) = (mendTo l k).set ((k : Nat) : Int).toNat (Cel.mk 32 (gc (mendTo l k) ((k : Nat) : Int)).sty) := by
 rw [mendTo_get l k k (by omega), ← h]
 rfl
set_option maxHeartbeats 4000000 in
theorem mend_any (b n cap : Nat) (l : List Cel) (w : World) (hT : Tables w) (hr : Rd w (some ⟨b, 0, none⟩) (flat l)) (hb : b < w.heap.size) (hn : l.length = n) (hnb : n ≤ 1000000) : Calls Tryz.prog 120 [.slice (some ⟨b, 0, none⟩) n cap].toArray w fun e w' =>
    ∃ g cap', e = .returned (.slice (some ⟨g, 0, none⟩) n cap') ∧ LineAt w' g (mend l) cap' ∧ w.heap.size ≤ g ∧ Ch (fun _ => False) w w' := by
  refine yA Tryz.func120 rfl ?_
  refine ysr ?_
  refine yp 1 [] .z ?_
  refine ye ?_
  refine ysr ?_
  refine yp 1 [] .z ?_
  refine yo (yC (clone_any b n cap l _ hr (Nat.lt_of_lt_of_le hb (Ch.size (Up.refl w.heap.size w))) hn (by omega)) ?_)
  rintro _ w15 ⟨g10, cp11, rfl, hl12, hlo13, hc14⟩
  refine ⟨_, rfl, ?_⟩
  have hlo13w : w.heap.size ≤ g10 := Nat.le_trans (Ch.size (Up.refl w.heap.size w)) hlo13
  have hd16 : Df b g10 := (show ¬ b = g10 by have := (Nat.lt_of_lt_of_le hb (Ch.size (Up.refl w.heap.size w))); omega)
  have hu17 := Up.step (Up.refl w.heap.size w) hc14 iZ
  have hT18 := tables_ch hc14 hT id id
  have hr19 := Ch.rd hc14 hr id
  refine yp 3 [] .z ?_
  refine ye ?_
  refine ys ?_
  refine ysr ?_
  refine yp 3 [] .z ?_
  refine ye ?_
  refine x_block ?_
  refine ykeep [0, 3, 8, 9, 10] (f' := [(0, .slice (some ⟨b, 0, none⟩) n cap), (3, .slice (some ⟨g10, 0, none⟩) n cp11), (8, .slice (some ⟨b, 0, none⟩) n cap), (9, iX ((n : Nat) : Int)), (10, iX 0)]) ?_
  refine x_loop (σ := Nat) (fun k => [(0, .slice (some ⟨b, 0, none⟩) n cap), (3, .slice (some ⟨g10, 0, none⟩) n cp11), (8, .slice (some ⟨b, 0, none⟩) n cap), (9, iX ((n : Nat) : Int)), (10, iX ((k : Nat) : Int))]) (fun k w => k ≤ n ∧ LineAt w g10 (mendTo l k) cp11 ∧ Ch (fun j => j = g10) w15 w) (fun k => n - k) 0 rfl ?_ ?_
  · exact ⟨Nat.zero_le _, hl12, Ch.refl _ _⟩
  · intro k w20 hI21 K22 hL23
    obtain ⟨hk24, hl25, hc26⟩ := hI21
    have hu27 := Up.step hu17 hc26 (fun i hi (h : i = g10) => by omega)
    have hT28 := tables_ch hc26 hT18 (fun (h : gWide = g10) => by have := tab_lt hT; omega) (fun (h : gSigns = g10) => by have := tab_lt hT; omega)
    have hr29 := Ch.rd hc26 hr19 hd16
    refine ysr ?_
    refine yp 1 [] .z ?_
    refine ye ?_
    refine ys ?_
    refine yc (rL ((k : Nat) : Int) ((n : Nat) : Int)) (fun hC30 => ?_) fun hC30 => ?_
    · refine yk ?_
      refine ys ?_
      refine x_block ?_
      refine ysr ?_
      refine yp 3 [] (.i ((k : Nat) : Int) (n) (.m (c_rune (i := ((k : Nat) : Int)) hr29 (by omega) (by omega)) (.m (c_bold (i := ((k : Nat) : Int)) hr29 (by omega) (by omega)) (.m (c_under (i := ((k : Nat) : Int)) hr29 (by omega) (by omega)) (.m (c_turned (i := ((k : Nat) : Int)) hr29 (by omega) (by omega)) (.m (c_fore (i := ((k : Nat) : Int)) hr29 (by omega) (by omega)) (.m (c_back (i := ((k : Nat) : Int)) hr29 (by omega) (by omega)) (.e .z)))))))) ?_
      refine yo (yN [rX 0, .bool false, .bool false, .bool false, iX 0, iX 0] 61 fun w31 b32 hb33 hz34 hB35 hc36 => ?_)
      have hlo37 : w.heap.size ≤ b32 := by rw [hb33]; exact Ch.size hu27
      have hlo37l : w15.heap.size ≤ b32 := by rw [hb33]; exact Ch.size hc26
      have hu38 := Up.step hu27 hc36 iZ
      have hL39 := Ch.trans hc26 hc36 eZ
      have hT40 := tables_ch hc36 hT28 id id
      have hr41 := Ch.rd hc36 hr29 id
      have hl42 := hl25.ch hc36 id
      refine yp 5 [] .z ?_
      refine yo (yS hB35 fun w43 hB44 hc45 => ?_)
      have hu46 := Up.step hu38 hc45 (fun i hi (h : i = b32) => by omega)
      have hL47 := Ch.trans hL39 hc45 (fun i hi (h : i = b32) => by omega)
      have hT48 := tables_ch hc45 hT40 (fun (h : gWide = b32) => by have := tab_lt hT; omega) (fun (h : gSigns = b32) => by have := tab_lt hT; omega)
      have hr49 := Ch.rd hc45 hr41 (fun (h : b = b32) => by have := (Nat.lt_of_lt_of_le hb (Ch.size hu27)); omega)
      have hl50 := hl42.ch hc45 (fun (h : g10 = b32) => by have := hl25.lt; omega)
      replace hB44 : Blk w43 b32 [rX (gc l ((k : Nat) : Int)).rune, .bool (gc l ((k : Nat) : Int)).sty.bold, .bool (gc l ((k : Nat) : Int)).sty.under, .bool (gc l ((k : Nat) : Int)).sty.turned, iX (gc l ((k : Nat) : Int)).sty.fore, iX (gc l ((k : Nat) : Int)).sty.back] _ := Blk.to hB44 (by kernel_rfl)
      refine ye ?_
      refine ysr ?_
      refine yp 4 [] (.l (hB44.c 0) .z) ?_
      refine yw [18] (rE (gc l ((k : Nat) : Int)).rune 0) (fun hC51 => ?_) fun hC51 => ?_
      · refine yp 7 [] (.q6 (((k : Nat) : Int) - 1) .z) ?_
        refine yo (yQ (paired_any b n cap l (((k : Nat) : Int) - 1) _ hT48 hr49 (Nat.lt_of_lt_of_le hb (Ch.size hu46)) hn (by omega) (by constructor <;> omega)) fun w53 hc52 => ?_)
        have hu54 := Up.step hu46 hc52 iZ
        have hL55 := Ch.trans hL47 hc52 eZ
        have hT56 := tables_ch hc52 hT48 id id
        have hr57 := Ch.rd hc52 hr49 id
        have hl58 := hl50.ch hc52 id
        have hB59 := hB44.ch hc52 id
        refine yp 11 [] .z ?_
        refine yw [25] (rN (rY (pairedB l (((k : Nat) : Int) - 1)))) (fun hC60 => ?_) fun hC60 => ?_
        · refine yp 21 [] .z ?_
          refine ye ?_
          refine yct ?_
          refine x_region ?_
          refine yp 4 [] (.i ((k : Nat) : Int) (n) .z) ?_
          obtain ⟨r64, hr65, hb66⟩ := hl58.blk
          refine yo (e_store (0 + (((k : Nat) : Int) : Int).toNat * 6) [rX 32] none (by kernel_rfl) hb66 (line_fit (mendTo l k) r64 ((k : Nat) : Int) (by omega) (by first | omega | (simp only [mendTo_len]; omega)) (of_ble rfl)) ?_)
          intro w61 hb66 hc63
          have hl62 := s_rune hl58 hr65 (by omega) (by first | omega | (simp only [mendTo_len]; omega)) 32 hb66
          have hL68 := Ch.trans hL55 hc63 iZ
          refine yE (nB (nS ?_))
          refine x_region ?_
          refine yp 2 [] (.q6 (((k : Nat) : Int) + 1) .z) ?_
          refine yE (fun a ha => hL23 (k + 1) _ ⟨by omega, (by rw [mend_put l k (mendC_on _ _ (by first | exact .inl ⟨by assumption, by assumption⟩ | exact .inr ⟨by assumption, by assumption⟩))]; exact hl62), hL68⟩ (by show n - (k + 1) < n - k; omega) a (ha.kp [0, 3, 8, 9, 10]))
        · refine yp 13 [] (.l (hB59.c 0) .z) ?_
          refine yo (yQ (wide_any (gc l ((k : Nat) : Int)).rune _ hT56.1) fun w72 hq => ?_)
          have hc73 := ch_eq hq
          clear hq
          have hu74 := Up.step hu54 hc73 iZ
          have hL75 := Ch.trans hL55 hc73 eZ
          have hT76 := tables_ch hc73 hT56 id id
          have hr77 := Ch.rd hc73 hr57 id
          have hl78 := hl58.ch hc73 id
          refine yp 15 [] .z ?_
          refine yw [29] (rY (wideB (gc l ((k : Nat) : Int)).rune)) (fun hC80 => ?_) fun hC80 => ?_
          · refine yp 17 [] .z ?_
            refine yo (yQ (paired_any b n cap l ((k : Nat) : Int) _ hT76 hr77 (Nat.lt_of_lt_of_le hb (Ch.size hu74)) hn (by omega) (by constructor <;> omega)) fun w82 hc81 => ?_)
            have hL84 := Ch.trans hL75 hc81 eZ
            have hl87 := hl78.ch hc81 id
            refine yp 21 [] .z ?_
            refine ye ?_
            refine yc (rN (rY (pairedB l ((k : Nat) : Int)))) (fun hC89 => ?_) fun hC89 => ?_
            · refine x_region ?_
              refine yp 4 [] (.i ((k : Nat) : Int) (n) .z) ?_
              obtain ⟨r93, hr94, hb95⟩ := hl87.blk
              refine yo (e_store (0 + (((k : Nat) : Int) : Int).toNat * 6) [rX 32] none (by kernel_rfl) hb95 (line_fit (mendTo l k) r93 ((k : Nat) : Int) (by omega) (by first | omega | (simp only [mendTo_len]; omega)) (of_ble rfl)) ?_)
              intro w90 hb95 hc92
              have hl91 := s_rune hl87 hr94 (by omega) (by first | omega | (simp only [mendTo_len]; omega)) 32 hb95
              have hL97 := Ch.trans hL84 hc92 iZ
              refine yE (nB (nS ?_))
              refine x_region ?_
              refine yp 2 [] (.q6 (((k : Nat) : Int) + 1) .z) ?_
              refine yE (fun a ha => hL23 (k + 1) _ ⟨by omega, (by rw [mend_put l k (mendC_on _ _ (by first | exact .inl ⟨by assumption, by assumption⟩ | exact .inr ⟨by assumption, by assumption⟩))]; exact hl91), hL97⟩ (by show n - (k + 1) < n - k; omega) a (ha.kp [0, 3, 8, 9, 10]))
            · refine x_skip (nB (nS ?_))
              refine x_region ?_
              refine yp 2 [] (.q6 (((k : Nat) : Int) + 1) .z) ?_
              refine yE (fun a ha => hL23 (k + 1) _ ⟨by omega, (by rw [mend_keep l k (by omega) (mendC_off _ _ (fun ⟨a, b⟩ => by first | contradiction | exact absurd (a.symm.trans (by assumption : _ = false)) (by decide) | exact absurd (b.symm.trans (by assumption : _ = true)) (by decide)) (fun ⟨a, b⟩ => by first | contradiction | exact absurd (a.symm.trans (by assumption : _ = false)) (by decide) | exact absurd (b.symm.trans (by assumption : _ = true)) (by decide)))]; exact hl87), hL84⟩ (by show n - (k + 1) < n - k; omega) a (ha.kp [0, 3, 8, 9, 10]))
          · refine yp 21 [] .z ?_
            refine ye ?_
            refine ycf ?_
            refine x_skip (nB (nS ?_))
            refine x_region ?_
            refine yp 2 [] (.q6 (((k : Nat) : Int) + 1) .z) ?_
            refine yE (fun a ha => hL23 (k + 1) _ ⟨by omega, (by rw [mend_keep l k (by omega) (mendC_off _ _ (fun ⟨a, b⟩ => by first | contradiction | exact absurd (a.symm.trans (by assumption : _ = false)) (by decide) | exact absurd (b.symm.trans (by assumption : _ = true)) (by decide)) (fun ⟨a, b⟩ => by first | contradiction | exact absurd (a.symm.trans (by assumption : _ = false)) (by decide) | exact absurd (b.symm.trans (by assumption : _ = true)) (by decide)))]; exact hl78), hL75⟩ (by show n - (k + 1) < n - k; omega) a (ha.kp [0, 3, 8, 9, 10]))
      · refine yp 13 [] (.l (hB44.c 0) .z) ?_
        refine yo (yQ (wide_any (gc l ((k : Nat) : Int)).rune _ hT48.1) fun w101 hq => ?_)
        have hc102 := ch_eq hq
        clear hq
        have hu103 := Up.step hu46 hc102 iZ
        have hL104 := Ch.trans hL47 hc102 eZ
        have hT105 := tables_ch hc102 hT48 id id
        have hr106 := Ch.rd hc102 hr49 id
        have hl107 := hl50.ch hc102 id
        refine yp 15 [] .z ?_
        refine yw [29] (rY (wideB (gc l ((k : Nat) : Int)).rune)) (fun hC109 => ?_) fun hC109 => ?_
        · refine yp 17 [] .z ?_
          refine yo (yQ (paired_any b n cap l ((k : Nat) : Int) _ hT105 hr106 (Nat.lt_of_lt_of_le hb (Ch.size hu103)) hn (by omega) (by constructor <;> omega)) fun w111 hc110 => ?_)
          have hL113 := Ch.trans hL104 hc110 eZ
          have hl116 := hl107.ch hc110 id
          refine yp 21 [] .z ?_
          refine ye ?_
          refine yc (rN (rY (pairedB l ((k : Nat) : Int)))) (fun hC118 => ?_) fun hC118 => ?_
          · refine x_region ?_
            refine yp 4 [] (.i ((k : Nat) : Int) (n) .z) ?_
            obtain ⟨r122, hr123, hb124⟩ := hl116.blk
            refine yo (e_store (0 + (((k : Nat) : Int) : Int).toNat * 6) [rX 32] none (by kernel_rfl) hb124 (line_fit (mendTo l k) r122 ((k : Nat) : Int) (by omega) (by first | omega | (simp only [mendTo_len]; omega)) (of_ble rfl)) ?_)
            intro w119 hb124 hc121
            have hl120 := s_rune hl116 hr123 (by omega) (by first | omega | (simp only [mendTo_len]; omega)) 32 hb124
            have hL126 := Ch.trans hL113 hc121 iZ
            refine yE (nB (nS ?_))
            refine x_region ?_
            refine yp 2 [] (.q6 (((k : Nat) : Int) + 1) .z) ?_
            refine yE (fun a ha => hL23 (k + 1) _ ⟨by omega, (by rw [mend_put l k (mendC_on _ _ (by first | exact .inl ⟨by assumption, by assumption⟩ | exact .inr ⟨by assumption, by assumption⟩))]; exact hl120), hL126⟩ (by show n - (k + 1) < n - k; omega) a (ha.kp [0, 3, 8, 9, 10]))
          · refine x_skip (nB (nS ?_))
            refine x_region ?_
            refine yp 2 [] (.q6 (((k : Nat) : Int) + 1) .z) ?_
            refine yE (fun a ha => hL23 (k + 1) _ ⟨by omega, (by rw [mend_keep l k (by omega) (mendC_off _ _ (fun ⟨a, b⟩ => by first | contradiction | exact absurd (a.symm.trans (by assumption : _ = false)) (by decide) | exact absurd (b.symm.trans (by assumption : _ = true)) (by decide)) (fun ⟨a, b⟩ => by first | contradiction | exact absurd (a.symm.trans (by assumption : _ = false)) (by decide) | exact absurd (b.symm.trans (by assumption : _ = true)) (by decide)))]; exact hl116), hL113⟩ (by show n - (k + 1) < n - k; omega) a (ha.kp [0, 3, 8, 9, 10]))
        · refine yp 21 [] .z ?_
          refine ye ?_
          refine ycf ?_
          refine x_skip (nB (nS ?_))
          refine x_region ?_
          refine yp 2 [] (.q6 (((k : Nat) : Int) + 1) .z) ?_
          refine yE (fun a ha => hL23 (k + 1) _ ⟨by omega, (by rw [mend_keep l k (by omega) (mendC_off _ _ (fun ⟨a, b⟩ => by first | contradiction | exact absurd (a.symm.trans (by assumption : _ = false)) (by decide) | exact absurd (b.symm.trans (by assumption : _ = true)) (by decide)) (fun ⟨a, b⟩ => by first | contradiction | exact absurd (a.symm.trans (by assumption : _ = false)) (by decide) | exact absurd (b.symm.trans (by assumption : _ = true)) (by decide)))]; exact hl107), hL104⟩ (by show n - (k + 1) < n - k; omega) a (ha.kp [0, 3, 8, 9, 10]))
    · have hkn : k = n := by omega
      refine x_exit (eS (then_exit (block_exit (nS ?_))))
      refine ysr ?_
      refine yp 2 [] .z ?_
      refine ye ?_
      refine x_ret (yR1 (.slice (some ⟨g10, 0, none⟩) n cp11) ?_)
      exact ⟨g10, cp11, rfl, by unfold mend; rw [hn, ← hkn]; exact hl25, hlo13w, Up.ch hu27⟩
end Go.Proofs.YteoejhjfbfacdaaGreatDoor.X
namespace Go.Proofs.YteoejhjfbfacdaaGreatDoor.X
open Go Go.RowKit Go.Proofs.YteoejhjfbfacdaaGreatDoor
set_option maxHeartbeats 4000000 in
theorem mul64_any (n : Int) (w : World) (h0 : 0 ≤ n) (h1 : n ≤ 60) : Calls Tryz.prog 146 [.int .u64 1, .int .u64 n].toArray w fun e w' => e = .returned (.tuple #[.int .u64 0, .int .u64 n]) ∧ Ch (fun _ => False) w w' := by
 refine yA Tryz.func146 rfl <| ysr <| yp 2 [] .z <| ye <| ysr <| yp 3 [] .z <| ye <| ysr <| yp 3 [] (.p (q := 0 ≤ (32 : Int)) (by omega) .z) <| ye <| ysr <| yp 3 [] .z <| ye <| ysr <| yp 3 [] (.p (q := 0 ≤ (32 : Int)) (by omega) .z) <| ye <| ysr <| yp 4 [] .z <| ye <| ysr <| yp 7 [] (.p (q := 0 ≤ (32 : Int)) (by omega) .z) <| ye <| ysr <| yp 3 [] .z <| ye <| ysr <| yp 3 [] (.p (q := 0 ≤ (32 : Int)) (by omega) .z) <| ye <| ysr <| yp 6 [] .z <| ye <| ysr <| yp 9 [] (.p (q := 0 ≤ (32 : Int)) (by omega) .z) <| ye <| ysr <| yp 4 [] .z <| ye <| x_ret (yR2 [.int .u64 (IntKind.wrap .u64 ((IntKind.wrap .u64 ((IntKind.wrap .u64 (0 * (Int.fdiv n (2 ^ min (32 : Int).toNat (IntKind.bits .u64))))) + (Int.fdiv (IntKind.wrap .u64 ((IntKind.wrap .u64 (0 * (bitsv .and .u64 n 4294967295))) + (Int.fdiv (IntKind.wrap .u64 (1 * (bitsv .and .u64 n 4294967295))) (2 ^ min (32 : Int).toNat (IntKind.bits .u64))))) (2 ^ min (32 : Int).toNat (IntKind.bits .u64))))) + (Int.fdiv (IntKind.wrap .u64 ((bitsv .and .u64 (IntKind.wrap .u64 ((IntKind.wrap .u64 (0 * (bitsv .and .u64 n 4294967295))) + (Int.fdiv (IntKind.wrap .u64 (1 * (bitsv .and .u64 n 4294967295))) (2 ^ min (32 : Int).toNat (IntKind.bits .u64))))) 4294967295) + (IntKind.wrap .u64 (1 * (Int.fdiv n (2 ^ min (32 : Int).toNat (IntKind.bits .u64))))))) (2 ^ min (32 : Int).toNat (IntKind.bits .u64))))), .int .u64 (IntKind.wrap .u64 (1 * n))] .z ?_)
 refine ⟨?_, Up.ch (Up.refl w.heap.size w)⟩
 obtain ⟨k, rfl, hk⟩ : ∃ k : Nat, n = (k : Int) ∧ k < 61 := ⟨n.toNat, by omega, by omega⟩
 have h : ∀ k, k < 61 → ((IntKind.wrap .u64 ((IntKind.wrap .u64 ((IntKind.wrap .u64 (0 * (Int.fdiv ((k : Nat) : Int) (2 ^ min (32 : Int).toNat (IntKind.bits .u64))))) + (Int.fdiv (IntKind.wrap .u64 ((IntKind.wrap .u64 (0 * (bitsv .and .u64 ((k : Nat) : Int) 4294967295))) + (Int.fdiv (IntKind.wrap .u64 (1 * (bitsv .and .u64 ((k : Nat) : Int) 4294967295))) (2 ^ min (32 : Int).toNat (IntKind.bits .u64))))) (2 ^ min (32 : Int).toNat (IntKind.bits .u64))))) + (Int.fdiv (IntKind.wrap .u64 ((bitsv .and .u64 (IntKind.wrap .u64 ((IntKind.wrap .u64 (0 * (bitsv .and .u64 ((k : Nat) : Int) 4294967295))) + (Int.fdiv (IntKind.wrap .u64 (1 * (bitsv .and .u64 ((k : Nat) : Int) 4294967295))) (2 ^ min (32 : Int).toNat (IntKind.bits .u64))))) 4294967295) + (IntKind.wrap .u64 (1 * (Int.fdiv ((k : Nat) : Int) (2 ^ min (32 : Int).toNat (IntKind.bits .u64))))))) (2 ^ min (32 : Int).toNat (IntKind.bits .u64))))) : Int) = 0 ∧ ((IntKind.wrap .u64 (1 * ((k : Nat) : Int))) : Int) = ((k : Nat) : Int) := by decide +kernel
 rw [(h k hk).1, (h k hk).2]
set_option maxHeartbeats 4000000 in
theorem mul_any (n : Int) (w : World) (h0 : 0 ≤ n) (h1 : n ≤ 60) : Calls Tryz.prog 134 [.int .u64 1, .int .u64 n].toArray w fun e w' => e = .returned (.tuple #[.int .u64 0, .int .u64 n]) ∧ Ch (fun _ => False) w w' := by
 refine yA Tryz.func134 rfl <| ysr <| yp 2 [] .z <| ye <| ys <| ycf <| yk <| ysr <| yp 2 [] .z <| yo (yQ (mul64_any n _ (by omega) (by omega)) fun w11 hc10 => ?_)
 have hu12 := Up.step (Up.refl w.heap.size w) hc10 iZ
 refine yp 8 [] .z <| ye <| ysr <| yp 4 [] .z <| ye <| x_ret (yR2 [.int .u64 0, .int .u64 n] .z ?_)
 exact ⟨rfl, Up.ch hu12⟩
theorem rep_flat (k m : Nat) (c : Cel) : flat (List.replicate k c) ++ flat (List.replicate m c) = flat (List.replicate (k + m) c) := by
 rw [← flat_app, List.replicate_append_replicate]
theorem rep_len (k : Nat) (c : Cel) : (flat (List.replicate k c)).length = k * 6 := by rw [flat_len, List.length_replicate]
def RepTo (w : World) (g N : Nat) (c : Cel) (k : Nat) : Prop := ∃ cs, Blk w g cs tCell ∧ cs.length = N * 6 ∧ cs.take (k * 6) = flat (List.replicate k c)
theorem RepTo.lt {w : World} {g N k : Nat} {c : Cel} (h : RepTo w g N c k) : g < w.heap.size := by obtain ⟨cs, hb, _⟩ := h; exact hb.lt
theorem RepTo.ch {w w' : World} {g N k : Nat} {c : Cel} {B : Nat → Prop} (h : RepTo w g N c k) (hc : Ch B w w') (hn : ¬ B g) : RepTo w' g N c k := by
 obtain ⟨cs, hb, h2⟩ := h
 exact ⟨cs, hb.ch hc hn, h2⟩
theorem rep_rd {w : World} {g m k : Nat} {c : Cel} {cs : List Value} (hb : Blk w g cs tCell) (ht : cs.take (k * 6) = flat (List.replicate k c)) (hm : m ≤ k) : Rd w (some ⟨g, 0, none⟩) (flat (List.replicate m c)) := by
 refine Rd.blk hb fun j hj => ?_
 rw [rep_len] at hj
 have e : flat (List.replicate m c) = cs.take (m * 6) := by
  have := rep_flat m (k - m) c
  rw [show m + (k - m) = k by omega, ← ht] at this
  rw [show cs.take (m * 6) = (cs.take (k * 6)).take (m * 6) by rw [List.take_take]; congr 1; omega, ← this, ← rep_len m c, List.take_left]
 rw [e, Nat.zero_add, List.getElem?_take, if_pos (by omega)]
theorem rep_put {w : World} {g N k m : Nat} {c : Cel} {cs : List Value} (hl : cs.length = N * 6) (ht : cs.take (k * 6) = flat (List.replicate k c)) (hk : k + m ≤ N)
    (hb : Blk w g (put cs (0 + k * 6) (flat (List.replicate m c))) tCell) : RepTo w g N c (k + m) := by
  rw [Nat.zero_add] at hb
  refine ⟨_, hb, ?_, ?_⟩
  · simp only [put, List.length_append, List.length_take, List.length_drop, rep_len]; omega
  · unfold put
    rw [ht, rep_flat, show (k + m) * 6 = (flat (List.replicate (k + m) c)).length from (rep_len _ _).symm, List.take_left]
theorem RepTo.line {w : World} {g N : Nat} {c : Cel} (h : RepTo w g N c N) (hN : N ≤ maxLen) : LineAt w g (List.replicate N c) N := by
 obtain ⟨cs, hb, hl, ht⟩ := h
 refine LineAt.of (r := []) ?_ (by simp) (by simp) hN
 rw [List.append_nil, ← ht, List.take_of_length_le (by omega)]
 exact hb
set_option maxHeartbeats 4000000 in
theorem repeat_any (b cap : Nat) (c : Cel) (n : Int) (w : World) (hr : Rd w (some ⟨b, 0, none⟩) (flat [c])) (hb : b < w.heap.size) (h0 : 1 ≤ n) (h1 : n ≤ 60) : Calls Tryz.prog 113 [.slice (some ⟨b, 0, none⟩) 1 cap, iX n].toArray w fun e w' =>
    ∃ g, e = .returned (.slice (some ⟨g, 0, none⟩) n.toNat n.toNat) ∧ LineAt w' g (List.replicate n.toNat c) n.toNat ∧ w.heap.size ≤ g ∧ Ch (fun _ => False) w w' := by
  refine yA Tryz.func113 rfl ?_
  refine ysr ?_
  refine yp 1 [] .z ?_
  refine ye ?_
  refine ys ?_
  refine ysr ?_
  refine yp 2 [] .z ?_
  refine ye ?_
  refine yc (rL n 0) (fun hC10 => ?_) fun hC10 => ?_
  · exfalso; omega
  · refine yk ?_
    refine ysr ?_
    refine yp 5 [4] (.p (q := InR .u64 n) (in_u64 (by omega) (by omega)) .z) ?_
    refine yo (yQ (mul_any n _ (by omega) (by omega)) fun w12 hc11 => ?_)
    have hu13 := Up.step (Up.refl w.heap.size w) hc11 iZ
    have hr14 := Ch.rd hc11 hr id
    refine yp 11 [] .z ?_
    refine ye ?_
    refine ys ?_
    refine ysr ?_
    refine yp 6 [] .z ?_
    refine ye ?_
    refine yc (rL 9223372036854775807 n) (fun hC15 => ?_) fun hC15 => ?_
    · exfalso; omega
    · refine yk ?_
      refine ysr ?_
      refine yp 2 [] (.q6 n .z) ?_
      refine yo (e_make 61 6 32 n.toNat n n (some 30) (by kernel_rfl) (by omega) (by omega) (by constructor <;> first | omega | (simp only [maxLen]; omega)) ?_)
      intro w16 b17 zs18 hb19 hO20 hc21
      have hlo22 : w.heap.size ≤ b17 := by rw [hb19]; exact Ch.size hu13
      have hu23 := Up.step hu13 hc21 iZ
      have hr24 := Ch.rd hc21 hr14 id
      have hR25 : RepTo w16 b17 n.toNat c 0 := by
        obtain ⟨r, hr, hB⟩ := hO20.2.2.2.2 _ rfl
        exact ⟨_, hB, by rw [List.length_append, hO20.1, hr]; omega, by rw [Nat.zero_mul]; rfl⟩
      refine yp 4 [] .z ?_
      refine ye ?_
      refine ysr ?_
      refine yp 2 [] .z ?_
      obtain ⟨cs29, hb30, hl31, ht32⟩ := hR25
      refine yo (e_copy' 6 b17 (0 + 0 * 6) (n.toNat) (n.toNat) (some ⟨b, 0, none⟩) 1 cap (flat (List.replicate (1) c)) (some 33) (1) (by omega) (by kernel_rfl) hb30 hr24 (rep_len _ _) (flat_one_cells _) (by rw [rep_len, hl31]; omega) ?_)
      intro w26 hB27 hc28
      have hR33 := rep_put (k := 0) (m := 1) hl31 ht32 (by omega) hB27
      have hu34 := Up.step hu23 hc28 (fun i hi (h : i = b17) => by omega)
      refine yp 4 [] .z ?_
      refine ye ?_
      refine ys ?_
      refine x_block ?_
      refine ykeep [7, 8] (f' := [(7, .slice (some ⟨b17, 0, none⟩) n.toNat n.toNat), (8, iX ((1 : Nat) : Int))]) ?_
      refine x_loop (σ := Nat) (fun k => [(7, .slice (some ⟨b17, 0, none⟩) n.toNat n.toNat), (8, iX ((k : Nat) : Int))]) (fun k w => 1 ≤ k ∧ k ≤ n.toNat ∧ RepTo w b17 n.toNat c k ∧ Ch (fun j => j = b17) w26 w) (fun k => n.toNat - k) 1 rfl ?_ ?_
      · exact ⟨Nat.le_refl _, by omega, hR33, Ch.refl _ _⟩
      · intro k w36 hI37 K38 hL39
        obtain ⟨h40, h41, hR42, hc43⟩ := hI37
        have hu44 := Up.step hu34 hc43 (fun i hi (h : i = b17) => by omega)
        refine ys ?_
        refine ysr ?_
        refine yp 4 [] .z ?_
        refine ye ?_
        refine yc (rL ((k : Nat) : Int) ((n.toNat : Nat) : Int)) (fun hC46 => ?_) fun hC46 => ?_
        · refine yk ?_
          refine x_block ?_
          refine yD [7] fun w47 hH48 hc49 => ?_
          have hL51 := Ch.trans hc43 hc49 eZ
          have hR53 := hR42.ch hc49 id
          refine yd (uL 0 7) [3] (.j ((k : Nat) : Int) (n.toNat) (.p (q := (((k : Nat) : Int) : Int).toNat < n.toNat) (by omega) (.j ((k : Nat) : Int) (n.toNat) .z))) ?_
          obtain ⟨cs57, hb58, hl59, ht60⟩ := hR53
          refine yK 7 (e_copy' 6 b17 (0 + k * 6) (n.toNat - k) (n.toNat - k) (some ⟨b17, 0, none⟩) k n.toNat (flat (List.replicate (min k (n.toNat - k)) c)) (some 45) (min k (n.toNat - k)) (by omega) (by kernel_rfl) hb58 (rep_rd hb58 ht60 (by omega)) (rep_len _ _) (flat_one_cells _) (by rw [rep_len, hl59]; omega) ?_)
          intro w54 hB55 hc56
          have hR61 := rep_put (k := k) (m := min k (n.toNat - k)) hl59 ht60 (by omega) hB55
          have hL63 := Ch.trans hL51 hc56 iZ
          refine x_killed ?_
          refine yd [8, 9] [] (.q6 (((k : Nat) : Int) + ((min k (n.toNat - k) : Nat) : Int)) .z) ?_
          refine yDe (nB  (fun a ha => hL39 (k + min k (n.toNat - k)) _ ⟨by omega, by omega, hR61, hL63⟩ (by show n.toNat - (k + min k (n.toNat - k)) < n.toNat - k; omega) a (ha.kp [7, 8])))
        · have hkn : k = n.toNat := by omega
          refine x_exit (eS (then_exit (block_exit (nS ?_))))
          refine ysr ?_
          refine yp 2 [] .z ?_
          refine ye ?_
          refine x_ret (yR1 (.slice (some ⟨b17, 0, none⟩) n.toNat n.toNat) ?_)
          exact ⟨b17, rfl, RepTo.line (by rw [hkn] at hR42; exact hR42) (by simp only [maxLen]; omega), by omega, Up.ch hu44⟩
set_option maxHeartbeats 4000000 in
theorem blanks_any (n : Int) (s : Sty) (w : World) (h0 : 1 ≤ n) (h1 : n ≤ 60) : Calls Tryz.prog 73 [iX n, .agg #[.bool s.bold, .bool s.under, .bool s.turned, iX s.fore, iX s.back]].toArray w fun e w' =>
    ∃ g, e = .returned (.slice (some ⟨g, 0, none⟩) n.toNat n.toNat) ∧ LineAt w' g (List.replicate n.toNat (blankC s)) n.toNat ∧ w.heap.size ≤ g ∧ Ch (fun _ => False) w w' := by
  refine yA Tryz.func73 rfl ?_
  refine ysr ?_
  refine yo (yN [.bool s.bold, .bool s.under, .bool s.turned, iX s.fore, iX s.back] 43 fun w10 b11 hb12 hz13 hB14 hc15 => ?_)
  have hlo16 : w.heap.size ≤ b11 := by rw [hb12]; exact Ch.size (Up.refl w.heap.size w)
  have hu17 := Up.step (Up.refl w.heap.size w) hc15 iZ
  refine yp 2 [] .z ?_
  refine ye ?_
  refine ysr ?_
  refine yp 1 [] (.a (hB14.cs 0 5) .z) ?_
  refine yo (yQ (blank_any s _) fun w19 hc18 => ?_)
  have hu20 := Up.step hu17 hc18 iZ
  have hB21 := hB14.ch hc18 id
  refine yo (yB [rX (blankC s).rune, .bool (blankC s).sty.bold, .bool (blankC s).sty.under, .bool (blankC s).sty.turned, iX (blankC s).sty.fore, iX (blankC s).sty.back] 61 1 fun w22 b23 hb24 hz25 hB26 hc27 => ?_)
  have hlo28 : w.heap.size ≤ b23 := by rw [hb24]; exact Ch.size hu20
  have hu29 := Up.step hu20 hc27 iZ
  have hB30 := hB21.ch hc27 id
  refine yp 4 [] .z ?_
  refine yo (yC (repeat_any b23 1 (blankC s) n _ (Rd.all hB26) hB26.lt (by omega) (by omega)) ?_)
  rintro _ w36 ⟨g31, rfl, hl33, hlo34, hc35⟩
  refine ⟨_, rfl, ?_⟩
  have hlo34w : w.heap.size ≤ g31 := Nat.le_trans (Ch.size hu29) hlo34
  have hd37 : Df b11 g31 := (show ¬ b11 = g31 by have := hB30.lt; omega)
  have hd38 : Df b23 g31 := (show ¬ b23 = g31 by have := hB26.lt; omega)
  have hu39 := Up.step hu29 hc35 iZ
  refine yp 6 [] .z ?_
  refine ye ?_
  refine x_ret (yR1 (.slice (some ⟨g31, 0, none⟩) (n : Int).toNat (n : Int).toNat) ?_)
  exact ⟨g31, rfl, hl33, hlo34w, Up.ch hu39⟩
end Go.Proofs.YteoejhjfbfacdaaGreatDoor.X
namespace Go.Proofs.YteoejhjfbfacdaaGreatDoor.X
open Go Go.RowKit Go.Proofs.YteoejhjfbfacdaaGreatDoor
structure Gr where
 w : Int
 h : Int
 lines : List (List Cel)
def Gr.ok (G : Gr) : Prop := (1 ≤ G.w ∧ G.w ≤ 60) ∧ (1 ≤ G.h ∧ G.h ≤ 60) ∧ G.lines.length = G.h.toNat ∧ ∀ l ∈ G.lines, l.length = G.w.toNat
structure Row where
 b : Nat
 n : Nat
 cap : Nat
 l : List Cel
def Row.val (x : Row) : Value := .slice (some ⟨x.b, 0, none⟩) x.n x.cap
abbrev tGrid : TypeId := 58
def gl (G : Gr) (y : Int) : List Cel := G.lines.getD y.toNat []
def more (F : Nat → Prop) (w w' : World) : Nat → Prop := fun b => F b ∨ (w.heap.size ≤ b ∧ b < w'.heap.size)
theorem more_trans {F : Nat → Prop} {w w1 w2 : World} (h1 : w.heap.size ≤ w1.heap.size) (h2 : w1.heap.size ≤ w2.heap.size) : ∀ b, more (more F w w1) w1 w2 b → more F w w2 b := by
 rintro b ((h | ⟨h, h'⟩) | ⟨h, h'⟩)
 ·exact .inl h
 ·exact .inr ⟨h, by omega⟩
 ·exact .inr ⟨by omega, h'⟩
structure GridIn (w : World) (g r cap : Nat) (rows : List Row) (G : Gr) (F : Nat → Prop) : Prop where
 head : Blk w g [.int .i64 G.w, .int .i64 G.h, .slice (some ⟨r, 0, none⟩) rows.length cap] tGrid
 body : Own w tLine 1 (some r) rows.length cap (rows.map Row.val)
 line : ∀ x ∈ rows, LineAt w x.b x.l x.cap ∧ x.l.length = x.n
 lines : rows.map Row.l = G.lines
 ok : G.ok
 gr : r ≠ g
 gb : ∀ x ∈ rows, x.b ≠ g ∧ x.b ≠ r
 nodup : (rows.map Row.b).Nodup
 inF : F g ∧ F r ∧ ∀ x ∈ rows, F x.b
 lt : ∀ b, F b → b < w.heap.size
 hi : ∀ b, F b → gTop ≤ b
def GridAt (w : World) (g : Nat) (G : Gr) (F : Nat → Prop) : Prop := ∃ r cap rows, GridIn w g r cap rows G F
section
variable {w w' : World} {g r cap : Nat} {rows : List Row} {G : Gr} {F : Nat → Prop}
theorem GridIn.len (h : GridIn w g r cap rows G F) : rows.length = G.h.toNat := by
 have := h.ok.2.2.1
 rw [← h.lines, List.length_map] at this
 exact this
theorem GridIn.ch {B : Nat → Prop} (h : GridIn w g r cap rows G F) (hc : Ch B w w') (hB : ∀ b, F b → ¬ B b) : GridIn w' g r cap rows G F :=
 {head := h.head.ch hc (hB g h.inF.1)
  body := h.body.ch hc fun b e => by cases e; exact hB r h.inF.2.1
  line := fun x hx => ⟨(h.line x hx).1.ch hc (hB _ (h.inF.2.2 x hx)), (h.line x hx).2⟩
  lines := h.lines, ok := h.ok, gr := h.gr, gb := h.gb, nodup := h.nodup, inF := h.inF
  lt := fun b hb => Nat.lt_of_lt_of_le (h.lt b hb) hc.size
  hi := h.hi }
theorem GridAt.ch {B : Nat → Prop} (h : GridAt w g G F) (hc : Ch B w w') (hB : ∀ b, F b → ¬ B b) : GridAt w' g G F := by
 obtain ⟨r, cap, rows, h⟩ := h
 exact ⟨r, cap, rows, h.ch hc hB⟩
theorem GridIn.mono {F' : Nat → Prop} (h : GridIn w g r cap rows G F) (hF : ∀ b, F b → F' b) (hl : ∀ b, F' b → b < w.heap.size ∧ gTop ≤ b) : GridIn w g r cap rows G F' :=
 {h with inF := ⟨hF _ h.inF.1, hF _ h.inF.2.1, fun x hx => hF _ (h.inF.2.2 x hx)⟩, lt := fun b hb => (hl b hb).1, hi := fun b hb => (hl b hb).2 }
theorem GridAt.mono {F' : Nat → Prop} (h : GridAt w g G F) (hF : ∀ b, F b → F' b) (hl : ∀ b, F' b → b < w.heap.size ∧ gTop ≤ b) : GridAt w g G F' := by
 obtain ⟨r, cap, rows, h⟩ := h
 exact ⟨r, cap, rows, h.mono hF hl⟩
theorem GridAt.lt (h : GridAt w g G F) : ∀ b, F b → b < w.heap.size := by obtain ⟨r, cap, rows, h⟩ := h; exact h.lt
theorem GridAt.ok (h : GridAt w g G F) : G.ok := by obtain ⟨r, cap, rows, h⟩ := h; exact h.ok
theorem GridAt.inF (h : GridAt w g G F) : F g := by obtain ⟨r, cap, rows, h⟩ := h; exact h.inF.1
theorem GridAt.hi (h : GridAt w g G F) : ∀ b, F b → gTop ≤ b := by obtain ⟨r, cap, rows, h⟩ := h; exact h.hi
theorem more_ok (h : GridAt w g G F) (hs : w.heap.size ≤ w'.heap.size) : ∀ b, more F w w' b → b < w'.heap.size ∧ gTop ≤ b := by
 rintro b (hb | ⟨h1, h2⟩)
 ·exact ⟨Nat.lt_of_lt_of_le (h.lt b hb) hs, h.hi b hb⟩
 ·have h3 := h.hi g h.inF
  have h4 := h.lt g h.inF
  exact ⟨h2, by omega⟩
theorem GridAt.same (h : GridAt w g G F) (hc : Ch (fun _ => False) w w') : GridAt w' g G (more F w w') :=
 (h.ch hc fun _ _ h => h).mono (fun _ h => .inl h) (more_ok h hc.size)
theorem row_any (h : GridIn w g r cap rows G F) (y : Int) : ∃ x, 0 ≤ y ∧ y < G.h → rows[y.toNat]? = some x := by
 by_cases hy : 0 ≤ y ∧ y < G.h
 ·have hlt : y.toNat < rows.length := by
   have := h.ok.2.2.1
   rw [← h.lines, List.length_map] at this
   omega
  exact ⟨rows[y.toNat], fun _ => List.getElem?_eq_getElem hlt⟩
 ·exact ⟨⟨0, 0, 0, []⟩, fun h => absurd h hy⟩
theorem GridAt.glt (h : GridAt w g G F) : g < w.heap.size := h.lt g h.inF
theorem row_cell {x : Row} {y : Int} (h : Own w tLine 1 (some r) rows.length cap (rows.map Row.val)) (hx : rows[y.toNat]? = some x) : w.cell? ⟨r, 0 + y.toNat * 1, none⟩ = some x.val := by
 refine rd_at (Own.rd h) (y.toNat * 1) _ ?_
 rw [Nat.mul_one, List.getElem?_map, hx]; rfl
theorem row_some (h : GridIn w g r cap rows G F) {y : Int} (h0 : 0 ≤ y) (h1 : y < G.h) : ∃ x, rows[y.toNat]? = some x := ⟨_, List.getElem?_eq_getElem (by rw [h.len]; omega)⟩
theorem row_line (h : GridIn w g r cap rows G F) {y : Int} {x : Row} (hx : rows[y.toNat]? = some x) : x.l = gl G y ∧ x.l.length = G.w.toNat ∧ x ∈ rows ∧ x.n = G.w.toNat := by
 have hm := List.mem_of_getElem? hx
 have hw := h.ok.2.2.2 _ (h.lines ▸ List.mem_map_of_mem hm)
 refine ⟨?_, hw, hm, (h.line x hm).2 ▸ hw⟩
 unfold gl
 rw [← h.lines, List.getD, List.getElem?_map, hx]; rfl
theorem row_put {x : Row} {y : Int} {rest : List Value} (h0 : y.toNat < rows.length) (hr : rest.length = (cap - rows.length) * 1) (ho : Own w tLine 1 (some r) rows.length cap (rows.map Row.val))
  (hb : Blk w' r (put (rows.map Row.val ++ rest) (0 + y.toNat * 1) [x.val]) tLine) : Own w' tLine 1 (some r) (rows.set y.toNat x).length cap ((rows.set y.toNat x).map Row.val) := by
 refine ⟨by simp, by rw [List.length_set]; exact ho.2.1, ho.2.2.1, (fun e => by cases e), fun b e => ⟨rest, by rw [List.length_set]; exact hr, ?_⟩⟩
 cases e
 have e : put (rows.map Row.val ++ rest) (0 + y.toNat * 1) [x.val] = (rows.set y.toNat x).map Row.val ++ rest := by
  rw [Nat.zero_add, Nat.mul_one, List.map_set]
  have hl : y.toNat < (rows.map Row.val).length := by simpa using h0
  unfold put
  rw [List.take_append_of_le_length (by omega), List.drop_append_of_le_length (by simp; omega), List.set_eq_take_append_cons_drop, if_pos hl]
  simp
 rwa [e] at hb
theorem row_fit {y : Int} {rest : List Value} {v : Value} (h0 : y.toNat < rows.length) : 0 + y.toNat * 1 + [v].length ≤ (rows.map Row.val ++ rest).length := by simp; omega
theorem nd_inj {rows : List Row} (h : (rows.map Row.b).Nodup) {i j : Nat} (hi : i < rows.length) (hj : j < rows.length) (e : rows[i].b = rows[j].b) : i = j := by
 have key : ∀ a b (ha : a < rows.length) (hb : b < rows.length), a < b → rows[a].b ≠ rows[b].b := fun a b ha hb hab => by
  have := List.pairwise_iff_getElem.1 h a b (by simpa using ha) (by simpa using hb) hab
  simpa using this
 rcases Nat.lt_trichotomy i j with h' | h' | h'
 ·exact absurd e (key i j hi hj h')
 ·exact h'
 ·exact absurd e.symm (key j i hj hi h')
theorem GridIn.setLine {x x' : Row} {y : Int} (h : GridIn w g r cap rows G F) (hx : rows[y.toNat]? = some x) (hc : Ch (fun j => j = x.b ∨ j = r) w w')
  (hbody : Own w' tLine 1 (some r) (rows.set y.toNat x').length cap ((rows.set y.toNat x').map Row.val)) (hl : LineAt w' x'.b x'.l x'.cap) (hb : x'.b = x.b ∨ w.heap.size ≤ x'.b) (hlen : x'.l.length = G.w.toNat) (hn : x'.l.length = x'.n) :
  GridIn w' g r cap (rows.set y.toNat x') ⟨G.w, G.h, G.lines.set y.toNat x'.l⟩ (more F w w') := by
 have hi : y.toNat < rows.length := (List.getElem?_eq_some_iff.1 hx).1
 have hxi : rows[y.toNat] = x := (List.getElem?_eq_some_iff.1 hx).2
 have hxm : x ∈ rows := List.mem_of_getElem? hx
 have hmem : ∀ z ∈ rows.set y.toNat x', z = x' ∨ (z ∈ rows ∧ z.b ≠ x.b) := by
  intro z hz
  obtain ⟨j, hj⟩ := List.getElem?_of_mem hz
  rw [List.getElem?_set] at hj
  split at hj
  ·exact .inl (Option.some.inj hj).symm
  ·rename_i e
   refine .inr ⟨List.mem_of_getElem? hj, fun hb => e ?_⟩
   obtain ⟨hj', rfl⟩ := List.getElem?_eq_some_iff.1 hj
   subst hxi
   exact nd_inj h.nodup hi hj' hb.symm
 have hnew : ∀ z ∈ rows, z.b ≠ x.b → z.b ≠ x'.b := fun z hz hne e => by
  rcases hb with hb | hb
  ·exact hne (e.trans hb)
  ·have := h.lt _ (h.inF.2.2 z hz); omega
 have hg' : x'.b ≠ g ∧ x'.b ≠ r := by
  rcases hb with hb | hb
  ·rw [hb]; exact h.gb x hxm
  ·have h1 := h.lt _ h.inF.1
   have h2 := h.lt _ h.inF.2.1
   exact ⟨by omega, by omega⟩
 refine ⟨?_, hbody, ?_, ?_, ?_, h.gr, ?_, ?_, ?_, fun b hb => (more_ok ⟨r, cap, rows, h⟩ hc.size b hb).1, fun b hb => (more_ok ⟨r, cap, rows, h⟩ hc.size b hb).2⟩
 ·rw [List.length_set]
  exact h.head.ch hc (by
   rintro (e | e)
   ·exact (h.gb x hxm).1 e.symm
   ·exact h.gr e.symm)
 ·intro z hz
  rcases hmem z hz with rfl | ⟨hz, hne⟩
  ·exact ⟨hl, hn⟩
  ·exact ⟨(h.line z hz).1.ch hc (by
    rintro (e | e)
    ·exact hne e
    ·exact (h.gb z hz).2 e), (h.line z hz).2⟩
 ·rw [List.map_set, h.lines]
 ·refine ⟨h.ok.1, h.ok.2.1, by rw [List.length_set]; exact h.ok.2.2.1, fun l hl' => ?_⟩
  rcases List.mem_or_eq_of_mem_set hl' with h' | h'
  ·exact h.ok.2.2.2 l h'
  ·rw [h']; exact hlen
 ·intro z hz
  rcases hmem z hz with rfl | ⟨hz, _⟩
  ·exact hg'
  ·exact h.gb z hz
 ·rw [List.map_set]
  refine List.pairwise_iff_getElem.2 fun i j hi' hj' hij => ?_
  simp only [List.length_set, List.length_map] at hi' hj'
  rw [List.getElem_set, List.getElem_set]
  have hd : ∀ a b (ha : a < rows.length) (hb : b < rows.length), a ≠ b → rows[a].b ≠ rows[b].b := fun a b ha hb hne e => hne (nd_inj h.nodup ha hb e)
  split
  ·rename_i e
   rw [if_neg (by omega), List.getElem_map]
   refine fun e' => hnew rows[j] (List.getElem_mem _) (fun e2 => ?_) e'.symm
   rw [← hxi] at e2
   exact hd j y.toNat hj' hi (by omega) e2
  ·rename_i e
   split
   ·rename_i e3
    rw [List.getElem_map]
    refine fun e' => hnew rows[i] (List.getElem_mem _) (fun e2 => ?_) e'
    rw [← hxi] at e2
    exact hd i y.toNat hi' hi (by omega) e2
   ·rw [List.getElem_map, List.getElem_map]
    exact hd i j hi' hj' (by omega)
 ·refine ⟨.inl h.inF.1, .inl h.inF.2.1, fun z hz => ?_⟩
  rcases hmem z hz with rfl | ⟨hz, _⟩
  ·rcases hb with hb | hb
   ·exact .inl (hb ▸ h.inF.2.2 x hxm)
   ·exact .inr ⟨hb, hl.lt⟩
  ·exact .inl (h.inF.2.2 z hz)
end
end Go.Proofs.YteoejhjfbfacdaaGreatDoor.X
namespace Go.Proofs.YteoejhjfbfacdaaGreatDoor.X
open Go Go.RowKit Go.Proofs.YteoejhjfbfacdaaGreatDoor
def sideI (n : Int) : Int := min (max n 1) 60
def thereB (G : Gr) (x y : Int) : Bool := decide (0 ≤ x) && decide (0 ≤ y) && decide (x < G.w) && decide (y < G.h)
def atG (G : Gr) (x y : Int) : Cel := if thereB G x y then gc (gl G y) x else cel0
def setG (G : Gr) (y : Int) (l : List Cel) : Gr := ⟨G.w, G.h, G.lines.set y.toNat l⟩
def putL (W : Int) (l : List Cel) (x : Int) (c : Cel) : List Cel :=
 if wideB c.rune = true ∧ x + 1 < W then (l.set x.toNat c).set (x + 1).toNat ⟨0, c.sty⟩ else l.set x.toNat c
def putG (G : Gr) (x y : Int) (c : Cel) : Gr := if thereB G x y = true ∧ celB c = true then setG G y (mend (putL G.w (gl G y) x c)) else G
def fillL (l : List Cel) (a : Int) (c : Cel) : Nat → List Cel
 | 0 => l
 | k + 1 => (fillL l a c k).set (a + (k : Int)).toNat c
theorem fillL_len (l : List Cel) (a : Int) (c : Cel) (k : Nat) : (fillL l a c k).length = l.length := by
 induction k with
 | zero => rfl
 | succ k ih => simp [fillL, ih]
def clearL (W : Int) (l : List Cel) (a b : Int) (s : Sty) : List Cel := mend (fillL l (max a 0) (blankC s) (min b W - max a 0).toNat)
def clearG (G : Gr) (y a b : Int) (s : Sty) : Gr := if thereB G 0 y = true then setG G y (clearL G.w (gl G y) a b s) else G
theorem set_len {l : List Cel} {i : Nat} {c : Cel} : (l.set i c).length = l.length := List.length_set
theorem there_iff {G : Gr} {x y : Int} : thereB G x y = true ↔ (0 ≤ x ∧ 0 ≤ y) ∧ x < G.w ∧ y < G.h := by
 unfold thereB; simp only [Bool.and_eq_true, decide_eq_true_eq]; constructor <;> rintro h <;> omega
def openL (l : List Cel) (x n : Int) : List Cel := l.take (x + n).toNat ++ (l.drop x.toNat).take (l.length - (x + n).toNat) ++ l.drop ((x + n).toNat + ((l.drop x.toNat).take (l.length - (x + n).toNat)).length)
def shutL (l : List Cel) (x n : Int) : List Cel := l.take x.toNat ++ (l.drop (x + n).toNat).take (l.length - (x + n).toNat) ++ l.drop (x.toNat + ((l.drop (x + n).toNat).take (l.length - (x + n).toNat)).length)
def openG (G : Gr) (x y n : Int) (s : Sty) : Gr :=
 if thereB G x y = true then clearG (setG G y (openL (gl G y) x (min (max n 0) (G.w - x)))) y x (x + min (max n 0) (G.w - x)) s else G
def shutG (G : Gr) (x y n : Int) (s : Sty) : Gr :=
 if thereB G x y = true then clearG (setG G y (shutL (gl G y) x (min (max n 0) (G.w - x)))) y (G.w - min (max n 0) (G.w - x)) G.w s else G
theorem line_copy {w w' : World} {b cap lo : Nat} {l ys : List Cel} {r : List Value} (h : LineAt w b l cap) (hr : r.length = (cap - l.length) * 6) (hlo : lo + ys.length ≤ l.length)
  (hb : Blk w' b (put (flat l ++ r) (if cap = lo then 0 else 0 + lo * 6) (flat ys)) tCell) : LineAt w' b (l.take lo ++ ys ++ l.drop (lo + ys.length)) cap := by
 have hcap := h.2.1
 have hlen : (l.take lo ++ ys ++ l.drop (lo + ys.length)).length = l.length := by
  simp only [List.length_append, List.length_take, List.length_drop]; omega
 refine LineAt.of (r := r) ?_ (by rw [hlen]; exact hr) (by rw [hlen]; exact hcap) h.2.2.1
 by_cases e : cap = lo
 ·have hy : ys = [] := List.eq_nil_of_length_eq_zero (by omega)
  subst hy
  rw [if_pos e] at hb
  have e1 : put (flat l ++ r) 0 (flat []) = flat l ++ r := by simp [put, flat]
  have e2 : l.take lo ++ [] ++ l.drop (lo + ([] : List Cel).length) = l := by simp
  rw [e2]; rwa [e1] at hb
 ·rw [if_neg e, Nat.zero_add] at hb
  have e1 : flat l ++ r = flat (l.take lo) ++ flat ((l.drop lo).take ys.length) ++ (flat (l.drop (lo + ys.length)) ++ r) := by
   rw [← List.append_assoc, ← flat_app, ← flat_app]
   congr 2
   rw [List.append_assoc, ← List.drop_drop, List.take_append_drop, List.take_append_drop]
  rw [e1, put_mid _ _ _ _ _ (by rw [flat_len, List.length_take]; omega) (by rw [flat_len, flat_len, List.length_take, List.length_drop]; omega)] at hb
  rw [flat_app, flat_app]
  simpa [List.append_assoc] using hb
theorem line_from {w : World} {b cap k m : Nat} {l : List Cel} (h : LineAt w b l cap) (hkm : m ≤ l.length - k) : Rd w (some ⟨b, if cap = k then 0 else 0 + k * 6, none⟩) (flat ((l.drop k).take m)) := by
 have hcap := h.2.1
 by_cases e : cap = k
 ·have : (l.drop k).take m = [] := List.eq_nil_of_length_eq_zero (by rw [List.length_take, List.length_drop]; omega)
  rw [this]; exact Rd.nil _ _
 ·rw [if_neg e, Nat.zero_add]
  have hrd := h.rd
  refine ⟨(fun e => by cases e), fun ad e j u hj => ?_⟩
  obtain rfl := Option.some.inj e
  rw [add_pl]
  have := rd_at hrd (k * 6 + j) u (by
   rw [← flat_take, ← flat_drop, List.getElem?_take] at hj
   split at hj
   ·rwa [List.getElem?_drop] at hj
   ·cases hj)
  rwa [Nat.zero_add] at this
theorem line_fit2 {b cap lo : Nat} {l ys : List Cel} {r : List Value} {w : World} (h : LineAt w b l cap) (hlo : lo + ys.length ≤ l.length) : (if cap = lo then 0 else 0 + lo * 6) + (flat ys).length ≤ (flat l ++ r).length := by
 rw [List.length_append, flat_len, flat_len]
 split <;> omega
theorem row_same {w : World} {r cap : Nat} {rows : List Row} {y : Int} {x x' : Row} (ho : Own w tLine 1 (some r) rows.length cap (rows.map Row.val)) (hx : rows[y.toNat]? = some x) (hv : x'.val = x.val) :
  Own w tLine 1 (some r) (rows.set y.toNat x').length cap ((rows.set y.toNat x').map Row.val) := by
 rw [List.length_set, List.map_set, hv]
 have e : (rows.map Row.val).set y.toNat x.val = rows.map Row.val := by
  obtain ⟨hi, rfl⟩ := List.getElem?_eq_some_iff.1 hx
  apply List.ext_getElem?
  intro j
  rw [List.getElem?_set]
  split
  ·rename_i e
   subst e
   simp [hi]
  ·rfl
 rwa [e]
end Go.Proofs.YteoejhjfbfacdaaGreatDoor.X
namespace Go.Proofs.YteoejhjfbfacdaaGreatDoor.X
open Go Go.RowKit Go.Proofs.YteoejhjfbfacdaaGreatDoor
set_option maxHeartbeats 4000000 in
theorem bring_any (n : Int) (w : World) : Calls Tryz.prog 72 [iX n].toArray w fun e w' => e = .returned (iX (sideI n)) ∧ Ch (fun _ => False) w w' := by
 refine yA Tryz.func72 rfl <| ysr <| yp 1 [] .z <| ye <| ysr <| yp 4 [] .z <| ye <| x_ret (yR1 (iX (min ((max (n : Int) 1) : Int) 60)) ?_)
 exact ⟨rfl, Up.ch (Up.refl w.heap.size w)⟩
set_option maxHeartbeats 4000000 in
theorem there_any (g : Nat) (G : Gr) (x y : Int) {v : Value} (w : World) (h : Blk w g [iX G.w, iX G.h, v] tGrid) : Calls Tryz.prog 41 [pX g, iX x, iX y].toArray w fun e w' => e = .returned (.bool (thereB G x y)) ∧ Ch (fun _ => False) w w' := by
 refine yA Tryz.func41 rfl <| ysr <| yp 1 [] .z <| ye <| ysr <| yp 3 [] .z <| yw [9] (rM 0 x) (fun hC10 => ?_) fun hC10 => ?_
 ·refine yp 7 [] .z <| yw [13] (rM 0 y) (fun hC11 => ?_) fun hC11 => ?_
  ·refine yp 15 [] (.l (h.c 0) .z) <| yw [21] (rL x G.w) (fun hC12 => ?_) fun hC12 => ?_
   ·refine yp 23 [] (.l (h.c 1) .z) <| ye <| x_ret (yR1 (.bool (decide (y < G.h))) ?_)
    refine ⟨?_, Up.ch (Up.refl w.heap.size w)⟩
    refine congrArg Ending.returned (congrArg Value.bool ?_)
    rw [Bool.eq_iff_iff]
    simp only [thereB, Bool.and_eq_true, decide_eq_true_eq, Bool.false_eq_true, true_iff, false_iff, iff_true, iff_false, not_and]
    omega
   refine yp 23 [] .z <| ye <| x_ret (yR1 (.bool false) ?_)
   refine ⟨?_, Up.ch (Up.refl w.heap.size w)⟩
   refine congrArg Ending.returned (congrArg Value.bool ?_)
   rw [Bool.eq_iff_iff]
   simp only [thereB, Bool.and_eq_true, decide_eq_true_eq, Bool.false_eq_true, true_iff, false_iff, iff_true, iff_false, not_and]
   omega
  refine yp 23 [] .z <| ye <| x_ret (yR1 (.bool false) ?_)
  refine ⟨?_, Up.ch (Up.refl w.heap.size w)⟩
  refine congrArg Ending.returned (congrArg Value.bool ?_)
  rw [Bool.eq_iff_iff]
  simp only [thereB, Bool.and_eq_true, decide_eq_true_eq, Bool.false_eq_true, true_iff, false_iff, iff_true, iff_false, not_and]
  omega
 refine yp 23 [] .z <| ye <| x_ret (yR1 (.bool false) ?_)
 refine ⟨?_, Up.ch (Up.refl w.heap.size w)⟩
 refine congrArg Ending.returned (congrArg Value.bool ?_)
 rw [Bool.eq_iff_iff]
 simp only [thereB, Bool.and_eq_true, decide_eq_true_eq, Bool.false_eq_true, true_iff, false_iff, iff_true, iff_false, not_and]
 omega
set_option maxHeartbeats 4000000 in
theorem some_any (g : Nat) (G : Gr) (p1 p2 n : Int) {v : Value} (w : World) (h : Blk w g [iX G.w, iX G.h, v] tGrid) (h1 : 1 ≤ G.h) (h2 : G.h ≤ 60) : Calls Tryz.prog 137 [pX g, iX p1, iX p2, iX n].toArray w fun e w' => e = .returned (.tuple #[iX (min (max p1 0) G.h), iX (min (max p2 0) G.h), iX (min (max n 0) (max (min (max p2 0) G.h - min (max p1 0) G.h) 0))]) ∧ Ch (fun _ => False) w w' := by
 refine yA Tryz.func137 rfl <| ysr <| yp 3 [] .z <| ye <| ys <| yD [] fun w10 hH11 hc12 => ?_
 have hu13 := Up.step (Up.refl w.heap.size w) hc12 iZ
 have hB14 := h.ch hc12 id
 refine yd (uL 0 16) [] (.l (hB14.c 1) (.l (hB14.c 1) .z)) <| yDe (nS ?_)
 refine ysr <| yp 12 [] (.q6 ((min ((max (p2 : Int) 0) : Int) G.h) - (min ((max (p1 : Int) 0) : Int) G.h)) .z) <| ye <| x_ret (yR2 [iX (min ((max (p1 : Int) 0) : Int) G.h), iX (min ((max (p2 : Int) 0) : Int) G.h), iX (min ((max (n : Int) 0) : Int) (max (((min ((max (p2 : Int) 0) : Int) G.h) - (min ((max (p1 : Int) 0) : Int) G.h)) : Int) 0))] .z ?_)
 exact ⟨rfl, Up.ch hu13⟩
set_option maxHeartbeats 4000000 in
theorem at_any (g : Nat) (G : Gr) (F : Nat → Prop) (x y : Int) (w : World) (hT : Tables w) (hG0 : GridAt w g G F) : Calls Tryz.prog 19 [pX g, iX x, iX y].toArray w fun e w' => e = .returned (.agg (atG G x y).vals.toArray) ∧ Ch (fun _ => False) w w' := by
 obtain ⟨r, rc, rows, hG⟩ := hG0
 have hG0 : GridAt w g G F := ⟨r, rc, rows, hG⟩
 obtain ⟨⟨hw1, hw2⟩, ⟨hh1, hh2⟩, hll, hall⟩ := hG.ok
 have hlen := hG.len
 have hgr : Df r g := hG.gr
 have hg7 := hG.hi _ hG.inF.1
 have hr7 := hG.hi _ hG.inF.2.1
 obtain ⟨q, hq⟩ := row_any hG y
 refine yA Tryz.func19 rfl <| ysr <| yo (yN [rX 0, .bool false, .bool false, .bool false, iX 0, iX 0] 61 fun w10 b11 hb12 hz13 hB14 hc15 => ?_)
 have hlo16 : w.heap.size ≤ b11 := by rw [hb12]; exact Ch.size (Ch.refl (fun j => j = q.b ∨ j = r) w)
 have hu18 := Up.step (Up.refl w.heap.size w) hc15 iZ
 have hB19 := hG.head.ch hc15 id
 have hrow20 := hG.body.ch hc15 (fun b e => by cases e; exact id)
 refine ye <| ys <| ysr <| yp 3 [] .z <| yo (yQ (there_any g G x y _ hB19) fun w23 hc22 => ?_)
 have hu25 := Up.step hu18 hc22 iZ
 have hB26 := hB19.ch hc22 id
 have hrow27 := hrow20.ch hc22 (fun b e => by cases e; exact id)
 have hB29 := hB14.ch hc22 id
 refine yp 5 [] .z <| ye <| yc (rN (rY (thereB G x y))) (fun hC30 => ?_) fun hC30 => ?_
 ·have hno := hC30
  refine ysr <| yp 1 [] .z <| yo (yS hB29 fun w31 hB32 hc33 => ?_)
  have hu35 := Up.step hu25 hc33 (fun i hi (h : i = b11) => by omega)
  replace hB32 : Blk w31 b11 [rX 0, .bool false, .bool false, .bool false, iX 0, iX 0] _ := Blk.to hB32 (by kernel_rfl)
  refine ye <| x_ret (rS (yR1c (.agg #[rX 0, .bool false, .bool false, .bool false, iX 0, iX 0]) (.a (hB32.cs 0 6) .z) ?_))
  refine ⟨congrArg Ending.returned ?_, Up.ch hu35⟩
  unfold atG
  rw [if_neg (by rw [hno]; decide)]; rfl
 have hyes := there_iff.1 hC30
 have hxs := hq ⟨by omega, by omega⟩
 obtain ⟨hql, hqw, hqm, hqn⟩ := row_line hG hxs
 have hqb1 : Df q.b g := (hG.gb q hqm).1
 have hqb2 : Df q.b r := (hG.gb q hqm).2
 have hq7 := hG.hi _ (hG.inF.2.2 q hqm)
 have hqL := (hG.line q hqm).1
 have hql39 := hqL.ch (Up.ch hu25) id
 have hd40 : Df q.b b11 := (show ¬ q.b = b11 by have := hqL.lt; omega)
 have hd41 : Df g b11 := (show ¬ g = b11 by have := hG.head.lt; omega)
 have hd42 : Df r b11 := (show ¬ r = b11 by have := hG.body.lt; omega)
 refine yk <| ysr <| yp 10 [] (.l (hB26.c 2) (.i y (rows.length) (.l (row_cell hrow27 hxs) (.i x (q.n) (.m (c_rune (i := x) hql39.rd (by omega) (by omega)) (.m (c_bold (i := x) hql39.rd (by omega) (by omega)) (.m (c_under (i := x) hql39.rd (by omega) (by omega)) (.m (c_turned (i := x) hql39.rd (by omega) (by omega)) (.m (c_fore (i := x) hql39.rd (by omega) (by omega)) (.m (c_back (i := x) hql39.rd (by omega) (by omega)) (.e .z))))))))))) <| yo (yS hB29 fun w43 hB44 hc45 => ?_)
 have hu47 := Up.step hu25 hc45 (fun i hi (h : i = b11) => by omega)
 replace hB44 : Blk w43 b11 [rX (gc q.l x).rune, .bool (gc q.l x).sty.bold, .bool (gc q.l x).sty.under, .bool (gc q.l x).sty.turned, iX (gc q.l x).sty.fore, iX (gc q.l x).sty.back] _ := Blk.to hB44 (by kernel_rfl)
 refine ye <| x_ret (yR1c (.agg #[rX (gc q.l x).rune, .bool (gc q.l x).sty.bold, .bool (gc q.l x).sty.under, .bool (gc q.l x).sty.turned, iX (gc q.l x).sty.fore, iX (gc q.l x).sty.back]) (.a (hB44.cs 0 6) .z) ?_)
 refine ⟨congrArg Ending.returned ?_, Up.ch hu47⟩
 unfold atG
 rw [if_pos (there_iff.2 hyes), ← hql]; rfl
set_option maxHeartbeats 4000000 in
theorem put_any (g : Nat) (G : Gr) (F : Nat → Prop) (x y : Int) (c : Cel) (w : World) (hT : Tables w) (hG0 : GridAt w g G F) : Calls Tryz.prog 82 [pX g, iX x, iX y, .agg #[rX c.rune, .bool c.sty.bold, .bool c.sty.under, .bool c.sty.turned, iX c.sty.fore, iX c.sty.back]].toArray w fun e w' => e = .returned (.tuple #[]) ∧ GridAt w' g (putG G x y c) (more F w w') ∧ Ch F w w' := by
 obtain ⟨r, rc, rows, hG⟩ := hG0
 have hG0 : GridAt w g G F := ⟨r, rc, rows, hG⟩
 obtain ⟨⟨hw1, hw2⟩, ⟨hh1, hh2⟩, hll, hall⟩ := hG.ok
 have hlen := hG.len
 have hgr : Df r g := hG.gr
 have hg7 := hG.hi _ hG.inF.1
 have hr7 := hG.hi _ hG.inF.2.1
 obtain ⟨q, hq⟩ := row_any hG y
 refine yA Tryz.func82 rfl <| ysr <| yo (yN [rX c.rune, .bool c.sty.bold, .bool c.sty.under, .bool c.sty.turned, iX c.sty.fore, iX c.sty.back] 61 fun w10 b11 hb12 hz13 hB14 hc15 => ?_)
 have hlo16 : w.heap.size ≤ b11 := by rw [hb12]; exact Ch.size (Ch.refl (fun j => j = q.b ∨ j = r) w)
 have hS17 := Ch.trans (Ch.refl (fun j => j = q.b ∨ j = r) w) hc15 eZ
 have hu18 := Up.step (Up.refl w.heap.size w) hc15 iZ
 have hB19 := hG.head.ch hc15 id
 have hrow20 := hG.body.ch hc15 (fun b e => by cases e; exact id)
 have hT21 := tables_ch hc15 hT id id
 refine ye <| ys <| ysr <| yp 3 [] .z <| yo (yQ (there_any g G x y _ hB19) fun w23 hc22 => ?_)
 have hS24 := Ch.trans hS17 hc22 eZ
 have hu25 := Up.step hu18 hc22 iZ
 have hB26 := hB19.ch hc22 id
 have hrow27 := hrow20.ch hc22 (fun b e => by cases e; exact id)
 have hT28 := tables_ch hc22 hT21 id id
 have hB29 := hB14.ch hc22 id
 refine yp 6 [] .z <| yw [14] (rN (rY (thereB G x y))) (fun hC30 => ?_) fun hC30 => ?_
 ·have hno := hC30
  refine yp 10 [] .z <| ye <| yct <| x_ret (rS (yR0 ?_))
  rw [show putG G x y c = G from if_neg (fun h => by first | exact absurd (h.1.symm.trans hno) (by decide) | exact absurd (h.2.symm.trans hcel) (by decide))]
  exact ⟨rfl, hG0.same (Up.ch hu25), (Up.ch hu25).mono eZ⟩
 have hyes := there_iff.1 hC30
 have hxs := hq ⟨by omega, by omega⟩
 obtain ⟨hql, hqw, hqm, hqn⟩ := row_line hG hxs
 have hqb1 : Df q.b g := (hG.gb q hqm).1
 have hqb2 : Df q.b r := (hG.gb q hqm).2
 have hq7 := hG.hi _ (hG.inF.2.2 q hqm)
 have hqL := (hG.line q hqm).1
 have hql31 := hqL.ch (Up.ch hu25) id
 have hd32 : Df q.b b11 := (show ¬ q.b = b11 by have := hqL.lt; omega)
 have hd33 : Df g b11 := (show ¬ g = b11 by have := hG.head.lt; omega)
 have hd34 : Df r b11 := (show ¬ r = b11 by have := hG.body.lt; omega)
 refine yp 7 [] (.a (hB29.cs 0 6) .z) <| yo (yQ (celB_any c _ ) fun w36 hc35 => ?_)
 have hS37 := Ch.trans hS24 hc35 eZ
 have hu38 := Up.step hu25 hc35 iZ
 have hB39 := hB26.ch hc35 id
 have hrow40 := hrow27.ch hc35 (fun b e => by cases e; exact id)
 have hT41 := tables_ch hc35 hT28 id id
 have hB42 := hB29.ch hc35 id
 have hl43 := hql31.ch hc35 id
 refine yp 10 [] .z <| ye <| yc (rN (rY (celB c))) (fun hC44 => ?_) fun hC44 => ?_
 ·have hcel := hC44
  refine x_ret (rS (yR0 ?_))
  rw [show putG G x y c = G from if_neg (fun h => by first | exact absurd (h.1.symm.trans hno) (by decide) | exact absurd (h.2.symm.trans hcel) (by decide))]
  exact ⟨rfl, hG0.same (Up.ch hu38), (Up.ch hu38).mono eZ⟩
 have hcel := hC44
 refine yk <| ysr <| yp 8 [] (.l (hB39.c 2) (.i y (rows.length) (.l (row_cell hrow40 hxs) .z))) <| ye <| ysr <| yp 4 [] (.a (hB42.cs 0 6) (.i x (q.n) .z)) ?_
 obtain ⟨r48, hr49, hb50⟩ := hl43.blk
 refine yo (e_store (0 + (x : Int).toNat * 6) [rX c.rune, .bool c.sty.bold, .bool c.sty.under, .bool c.sty.turned, iX c.sty.fore, iX c.sty.back] none (by kernel_rfl) hb50 (line_fit q.l r48 x (by omega) (by first | omega | (simp only [hqw, hqn, set_len, fillL_len]; omega)) (of_ble rfl)) ?_)
 intro w45 hb50 hc47
 have hl46 := s_cel hl43 hr49 (by omega) (by first | omega | (simp only [hqw, hqn, set_len, fillL_len]; omega)) c hb50
 have hS51 := Ch.trans hS37 hc47 (fun i hi (h : i = q.b) => .inl h)
 have hB52 := hB39.ch hc47 (fun h => hqb1 h.symm)
 have hrow53 := hrow40.ch hc47 (fun b e => by cases e; exact (fun h => hqb2 h.symm))
 have hT54 := tables_ch hc47 hT41 (fun (h : gWide = q.b) => by have := tab_lt hT; have := g_lt; omega) (fun (h : gSigns = q.b) => by have := tab_lt hT; have := g_lt; omega)
 have hB55 := hB42.ch hc47 (fun h => hd32 h.symm)
 refine ye <| ys <| ysr <| yp 2 [] (.l (hB55.c 0) .z) <| yo (yQ (wide_any c.rune _ hT54.1) fun w56 hq => ?_)
 have hc57 := ch_eq hq
 clear hq
 have hS58 := Ch.trans hS51 hc57 eZ
 have hB59 := hB52.ch hc57 id
 have hrow60 := hrow53.ch hc57 (fun b e => by cases e; exact id)
 have hT61 := tables_ch hc57 hT54 id id
 have hB62 := hB55.ch hc57 id
 have hl63 := hl46.ch hc57 id
 refine yp 4 [] .z <| yw [33] (rY (wideB c.rune)) (fun hC64 => ?_) fun hC64 => ?_
 ·have hwd := hC64
  refine yp 12 [] (.q6 (x + 1) (.l (hB59.c 0) .z)) <| ye <| yc (rL (x + 1) G.w) (fun hC65 => ?_) fun hC65 => ?_
  ·refine x_region <| yp 7 [] (.q6 (x + 1) (.a (hB62.cs 1 5) (.i (x + 1) (q.n) .z))) ?_
   obtain ⟨r69, hr70, hb71⟩ := hl63.blk
   refine yo (e_store (0 + ((x + 1) : Int).toNat * 6) [rX 0, .bool c.sty.bold, .bool c.sty.under, .bool c.sty.turned, iX c.sty.fore, iX c.sty.back] none (by kernel_rfl) hb71 (line_fit (q.l.set (x : Int).toNat c) r69 (x + 1) (by omega) (by first | omega | (simp only [hqw, hqn, set_len, fillL_len]; omega)) (of_ble rfl)) ?_)
   intro w66 hb71 hc68
   have hl67 := s_cel hl63 hr70 (by omega) (by first | omega | (simp only [hqw, hqn, set_len, fillL_len]; omega)) (Cel.mk 0 c.sty) hb71
   have hS72 := Ch.trans hS58 hc68 (fun i hi (h : i = q.b) => .inl h)
   have hB73 := hB59.ch hc68 (fun h => hqb1 h.symm)
   have hrow74 := hrow60.ch hc68 (fun b e => by cases e; exact (fun h => hqb2 h.symm))
   have hT75 := tables_ch hc68 hT61 (fun (h : gWide = q.b) => by have := tab_lt hT; have := g_lt; omega) (fun (h : gSigns = q.b) => by have := tab_lt hT; have := g_lt; omega)
   have hB76 := hB62.ch hc68 (fun h => hd32 h.symm)
   refine ye <| yDC [8] fun w77 hH78 hc79 => ?_
   have hS80 := Ch.trans hS72 hc79 eZ
   have hB81 := hB73.ch hc79 id
   have hrow82 := hrow74.ch hc79 (fun b e => by cases e; exact id)
   have hT83 := tables_ch hc79 hT75 id id
   have hB84 := hB76.ch hc79 id
   have hl85 := hl67.ch hc79 id
   refine ydC (uL 0 6) [] (fun u hu => (.l (cell_ch hu (hB81.c 2) id) .z)) <| yH 6 (yC (mend_any q.b q.n q.cap ((q.l.set (x : Int).toNat c).set ((x + 1) : Int).toNat (Cel.mk 0 c.sty)) _ hT83 hl85.rd hl85.lt (by first | omega | simp only [set_len, fillL_len, hqw, hqn]) (by omega)) ?_)
   rintro _ w91 ⟨g86, cp87, rfl, hl88, hlo89, hc90⟩
   refine ⟨_, rfl, ?_⟩
   have hlo89w : w.heap.size ≤ g86 := Nat.le_trans (Ch.size hS80) hlo89
   have hd92 : Df g g86 := (show ¬ g = g86 by have := hB81.lt; omega)
   have hd93 : Df r g86 := (show ¬ r = g86 by have := hrow82.lt; omega)
   have hd94 : Df b11 g86 := (show ¬ b11 = g86 by have := hB84.lt; omega)
   have hd95 : Df q.b g86 := (show ¬ q.b = g86 by have := hl85.lt; omega)
   have hS96 := Ch.trans hS80 hc90 eZ
   have hrow98 := hrow82.ch hc90 (fun b e => by cases e; exact id)
   refine x_heldC hc90 <| ydC [7] [] (fun u hu => (.i y (rows.length) .z)) ?_
   obtain ⟨rest105, hr106, hb107⟩ := hrow98.2.2.2.2 _ rfl
   refine yK 8 (e_store (0 + (y : Int).toNat * 1) [Row.val (Row.mk g86 q.n cp87 (mend ((q.l.set (x : Int).toNat c).set ((x + 1) : Int).toNat (Cel.mk 0 c.sty))))] none (by kernel_rfl) hb107 (row_fit (List.getElem?_eq_some_iff.1 hxs).1) ?_)
   intro w102 hB103 hc104
   have hrow108 := row_put (x := (Row.mk g86 q.n cp87 (mend ((q.l.set (x : Int).toNat c).set ((x + 1) : Int).toNat (Cel.mk 0 c.sty))))) (List.getElem?_eq_some_iff.1 hxs).1 hr106 hrow98 hB103
   have hS109 := Ch.trans hS96 hc104 (fun i hi (h : i = r) => .inr h)
   have hl114 := hl88.ch hc104 (fun h => hd93 h.symm)
   refine x_killed <| yDe (yR0' ?_)
   have e : putG G x y c = ⟨G.w, G.h, G.lines.set y.toNat (mend ((q.l.set (x : Int).toNat c).set ((x + 1) : Int).toNat (Cel.mk 0 c.sty)))⟩ := by
    unfold putG setG putL
    rw [if_pos ⟨there_iff.2 hyes, hcel⟩, if_pos ⟨hwd, by omega⟩, ← hql]
   rw [e]
   exact ⟨rfl, ⟨r, rc, _, GridIn.setLine (x' := (Row.mk g86 q.n cp87 (mend ((q.l.set (x : Int).toNat c).set ((x + 1) : Int).toNat (Cel.mk 0 c.sty))))) hG hxs hS109 hrow108 hl114 (.inr hlo89w) (by simp only [mend_len, set_len, hqw]) (by simp only [mend_len, set_len, hqw, hqn])⟩, (hS109).mono (fun i _ hi => hi.elim (fun e => e ▸ hG.inF.2.2 q hqm) (fun e => e ▸ hG.inF.2.1))⟩
  refine yk <| yDC [8] fun w115 hH116 hc117 => ?_
  have hS118 := Ch.trans hS58 hc117 eZ
  have hB119 := hB59.ch hc117 id
  have hrow120 := hrow60.ch hc117 (fun b e => by cases e; exact id)
  have hT121 := tables_ch hc117 hT61 id id
  have hB122 := hB62.ch hc117 id
  have hl123 := hl63.ch hc117 id
  refine ydC (uL 0 6) [] (fun u hu => (.l (cell_ch hu (hB119.c 2) id) .z)) <| yH 6 (yC (mend_any q.b q.n q.cap (q.l.set (x : Int).toNat c) _ hT121 hl123.rd hl123.lt (by first | omega | simp only [set_len, fillL_len, hqw, hqn]) (by omega)) ?_)
  rintro _ w129 ⟨g124, cp125, rfl, hl126, hlo127, hc128⟩
  refine ⟨_, rfl, ?_⟩
  have hlo127w : w.heap.size ≤ g124 := Nat.le_trans (Ch.size hS118) hlo127
  have hd130 : Df g g124 := (show ¬ g = g124 by have := hB119.lt; omega)
  have hd131 : Df r g124 := (show ¬ r = g124 by have := hrow120.lt; omega)
  have hd132 : Df b11 g124 := (show ¬ b11 = g124 by have := hB122.lt; omega)
  have hd133 : Df q.b g124 := (show ¬ q.b = g124 by have := hl123.lt; omega)
  have hS134 := Ch.trans hS118 hc128 eZ
  have hrow136 := hrow120.ch hc128 (fun b e => by cases e; exact id)
  refine x_heldC hc128 <| ydC [7] [] (fun u hu => (.i y (rows.length) .z)) ?_
  obtain ⟨rest143, hr144, hb145⟩ := hrow136.2.2.2.2 _ rfl
  refine yK 8 (e_store (0 + (y : Int).toNat * 1) [Row.val (Row.mk g124 q.n cp125 (mend (q.l.set (x : Int).toNat c)))] none (by kernel_rfl) hb145 (row_fit (List.getElem?_eq_some_iff.1 hxs).1) ?_)
  intro w140 hB141 hc142
  have hrow146 := row_put (x := (Row.mk g124 q.n cp125 (mend (q.l.set (x : Int).toNat c)))) (List.getElem?_eq_some_iff.1 hxs).1 hr144 hrow136 hB141
  have hS147 := Ch.trans hS134 hc142 (fun i hi (h : i = r) => .inr h)
  have hl152 := hl126.ch hc142 (fun h => hd131 h.symm)
  refine x_killed <| yDe (yR0' ?_)
  have e : putG G x y c = ⟨G.w, G.h, G.lines.set y.toNat (mend (q.l.set (x : Int).toNat c))⟩ := by
   unfold putG setG putL
   rw [if_pos ⟨there_iff.2 hyes, hcel⟩, if_neg (fun h => by first | exact absurd (h.1.symm.trans hwd) (by decide) | exact absurd h.2 (by omega)), ← hql]
  rw [e]
  exact ⟨rfl, ⟨r, rc, _, GridIn.setLine (x' := (Row.mk g124 q.n cp125 (mend (q.l.set (x : Int).toNat c)))) hG hxs hS147 hrow146 hl152 (.inr hlo127w) (by simp only [mend_len, set_len, hqw]) (by simp only [mend_len, set_len, hqw, hqn])⟩, (hS147).mono (fun i _ hi => hi.elim (fun e => e ▸ hG.inF.2.2 q hqm) (fun e => e ▸ hG.inF.2.1))⟩
 have hwd := hC64
 refine yp 12 [] .z <| ye <| ycf <| yk <| yDC [8] fun w153 hH154 hc155 => ?_
 have hS156 := Ch.trans hS58 hc155 eZ
 have hB157 := hB59.ch hc155 id
 have hrow158 := hrow60.ch hc155 (fun b e => by cases e; exact id)
 have hT159 := tables_ch hc155 hT61 id id
 have hB160 := hB62.ch hc155 id
 have hl161 := hl63.ch hc155 id
 refine ydC (uL 0 6) [] (fun u hu => (.l (cell_ch hu (hB157.c 2) id) .z)) <| yH 6 (yC (mend_any q.b q.n q.cap (q.l.set (x : Int).toNat c) _ hT159 hl161.rd hl161.lt (by first | omega | simp only [set_len, fillL_len, hqw, hqn]) (by omega)) ?_)
 rintro _ w167 ⟨g162, cp163, rfl, hl164, hlo165, hc166⟩
 refine ⟨_, rfl, ?_⟩
 have hlo165w : w.heap.size ≤ g162 := Nat.le_trans (Ch.size hS156) hlo165
 have hd168 : Df g g162 := (show ¬ g = g162 by have := hB157.lt; omega)
 have hd169 : Df r g162 := (show ¬ r = g162 by have := hrow158.lt; omega)
 have hd170 : Df b11 g162 := (show ¬ b11 = g162 by have := hB160.lt; omega)
 have hd171 : Df q.b g162 := (show ¬ q.b = g162 by have := hl161.lt; omega)
 have hS172 := Ch.trans hS156 hc166 eZ
 have hrow174 := hrow158.ch hc166 (fun b e => by cases e; exact id)
 refine x_heldC hc166 <| ydC [7] [] (fun u hu => (.i y (rows.length) .z)) ?_
 obtain ⟨rest181, hr182, hb183⟩ := hrow174.2.2.2.2 _ rfl
 refine yK 8 (e_store (0 + (y : Int).toNat * 1) [Row.val (Row.mk g162 q.n cp163 (mend (q.l.set (x : Int).toNat c)))] none (by kernel_rfl) hb183 (row_fit (List.getElem?_eq_some_iff.1 hxs).1) ?_)
 intro w178 hB179 hc180
 have hrow184 := row_put (x := (Row.mk g162 q.n cp163 (mend (q.l.set (x : Int).toNat c)))) (List.getElem?_eq_some_iff.1 hxs).1 hr182 hrow174 hB179
 have hS185 := Ch.trans hS172 hc180 (fun i hi (h : i = r) => .inr h)
 have hl190 := hl164.ch hc180 (fun h => hd169 h.symm)
 refine x_killed <| yDe (yR0' ?_)
 have e : putG G x y c = ⟨G.w, G.h, G.lines.set y.toNat (mend (q.l.set (x : Int).toNat c))⟩ := by
  unfold putG setG putL
  rw [if_pos ⟨there_iff.2 hyes, hcel⟩, if_neg (fun h => by first | exact absurd (h.1.symm.trans hwd) (by decide) | exact absurd h.2 (by omega)), ← hql]
 rw [e]
 exact ⟨rfl, ⟨r, rc, _, GridIn.setLine (x' := (Row.mk g162 q.n cp163 (mend (q.l.set (x : Int).toNat c)))) hG hxs hS185 hrow184 hl190 (.inr hlo165w) (by simp only [mend_len, set_len, hqw]) (by simp only [mend_len, set_len, hqw, hqn])⟩, (hS185).mono (fun i _ hi => hi.elim (fun e => e ▸ hG.inF.2.2 q hqm) (fun e => e ▸ hG.inF.2.1))⟩
set_option maxHeartbeats 4000000 in
theorem clear_any (g : Nat) (G : Gr) (F : Nat → Prop) (y p1 p2 : Int) (s : Sty) (w : World) (hT : Tables w) (hG0 : GridAt w g G F) : Calls Tryz.prog 119 [pX g, iX y, iX p1, iX p2, .agg #[.bool s.bold, .bool s.under, .bool s.turned, iX s.fore, iX s.back]].toArray w fun e w' => e = .returned (.tuple #[]) ∧ GridAt w' g (clearG G y p1 p2 s) (more F w w') ∧ Ch F w w' := by
 obtain ⟨r, rc, rows, hG⟩ := hG0
 have hG0 : GridAt w g G F := ⟨r, rc, rows, hG⟩
 obtain ⟨⟨hw1, hw2⟩, ⟨hh1, hh2⟩, hll, hall⟩ := hG.ok
 have hlen := hG.len
 have hgr : Df r g := hG.gr
 have hg7 := hG.hi _ hG.inF.1
 have hr7 := hG.hi _ hG.inF.2.1
 obtain ⟨q, hq⟩ := row_any hG y
 refine yA Tryz.func119 rfl <| ysr <| yo (yN [.bool s.bold, .bool s.under, .bool s.turned, iX s.fore, iX s.back] 43 fun w10 b11 hb12 hz13 hB14 hc15 => ?_)
 have hlo16 : w.heap.size ≤ b11 := by rw [hb12]; exact Ch.size (Ch.refl (fun j => j = q.b ∨ j = r) w)
 have hS17 := Ch.trans (Ch.refl (fun j => j = q.b ∨ j = r) w) hc15 eZ
 have hu18 := Up.step (Up.refl w.heap.size w) hc15 iZ
 have hB19 := hG.head.ch hc15 id
 have hrow20 := hG.body.ch hc15 (fun b e => by cases e; exact id)
 have hT21 := tables_ch hc15 hT id id
 refine ye <| ys <| ysr <| yp 2 [] .z <| yo (yQ (there_any g G 0 y _ hB19) fun w23 hc22 => ?_)
 have hS24 := Ch.trans hS17 hc22 eZ
 have hu25 := Up.step hu18 hc22 iZ
 have hB26 := hB19.ch hc22 id
 have hrow27 := hrow20.ch hc22 (fun b e => by cases e; exact id)
 have hT28 := tables_ch hc22 hT21 id id
 have hB29 := hB14.ch hc22 id
 refine yp 4 [] .z <| ye <| yc (rN (rY (thereB G 0 y))) (fun hC30 => ?_) fun hC30 => ?_
 ·have hno := hC30
  refine x_ret (rS (yR0 ?_))
  rw [show clearG G y p1 p2 s = G from if_neg (fun h => absurd (h.symm.trans hno) (by decide))]
  exact ⟨rfl, hG0.same (Up.ch hu25), (Up.ch hu25).mono eZ⟩
 have hyes := there_iff.1 hC30
 have hxs := hq ⟨by omega, by omega⟩
 obtain ⟨hql, hqw, hqm, hqn⟩ := row_line hG hxs
 have hqb1 : Df q.b g := (hG.gb q hqm).1
 have hqb2 : Df q.b r := (hG.gb q hqm).2
 have hq7 := hG.hi _ (hG.inF.2.2 q hqm)
 have hqL := (hG.line q hqm).1
 have hql31 := hqL.ch (Up.ch hu25) id
 have hd32 : Df q.b b11 := (show ¬ q.b = b11 by have := hqL.lt; omega)
 have hd33 : Df g b11 := (show ¬ g = b11 by have := hG.head.lt; omega)
 have hd34 : Df r b11 := (show ¬ r = b11 by have := hG.body.lt; omega)
 refine yk <| ys <| ysr <| yp 3 [] .z <| ye <| x_block <| ykeep [0, 1, 3, 9, 10] (f' := [(0, pX g), (1, iX y), (3, iX p2), (9, pX b11), (10, iX (max (p1 : Int) 0))]) <| x_loop (σ := Nat) (fun k => [(0, pX g), (1, iX y), (3, iX p2), (9, pX b11), (10, iX ((max (p1 : Int) 0) + ((k : Nat) : Int)))]) (fun k w => k ≤ (min (p2 : Int) G.w - (max (p1 : Int) 0)).toNat ∧ LineAt w q.b (fillL q.l (max (p1 : Int) 0) (blankC s) k) q.cap ∧ Ch (fun j => j = q.b) w23 w) (fun k => (min (p2 : Int) G.w - (max (p1 : Int) 0)).toNat - k) 0 (by simp) ?_ ?_
 ·exact ⟨Nat.zero_le _, hql31, Ch.refl _ _⟩
 intro k w35 hI36 K37 hL38
 obtain ⟨hk39, hl40, hc41⟩ := hI36
 have hS42 := Ch.trans hS24 hc41 (fun i hi (h : i = q.b) => .inl h)
 have hB43 := hB26.ch hc41 (fun h => hqb1 h.symm)
 have hrow44 := hrow27.ch hc41 (fun b e => by cases e; exact (fun h => hqb2 h.symm))
 have hT45 := tables_ch hc41 hT28 (fun (h : gWide = q.b) => by have := tab_lt hT; have := g_lt; omega) (fun (h : gSigns = q.b) => by have := tab_lt hT; have := g_lt; omega)
 have hB46 := hB29.ch hc41 (fun h => hd32 h.symm)
 refine ys <| ysr <| yp 8 [] (.l (hB43.c 0) .z) <| ye <| yc (rL ((max (p1 : Int) 0) + ((k : Nat) : Int)) (min (p2 : Int) G.w)) (fun hC47 => ?_) fun hC47 => ?_
 ·refine yk <| ys <| x_block <| yDC [11] fun w48 hH49 hc50 => ?_
  have hL52 := Ch.trans hc41 hc50 eZ
  have hB53 := hB43.ch hc50 id
  have hrow54 := hrow44.ch hc50 (fun b e => by cases e; exact id)
  have hB56 := hB46.ch hc50 id
  have hl57 := hl40.ch hc50 id
  refine ydC (uL 0 9) [] (fun u hu => (.l (cell_ch hu (hB53.c 2) id) (.i y (rows.length) (.l (cell_ch hu (row_cell hrow54 hxs) id) (.a (cellsC_ch hu (hB56.cs 0 5) id) .z))))) <| yH 9 (yQ (blank_any s _) fun w59 hc58 => ?_)
  have hL61 := Ch.trans hL52 hc58 eZ
  have hl66 := hl57.ch hc58 id
  refine x_heldC hc58 <| ydC [10] [] (fun u hu => (.i ((max (p1 : Int) 0) + ((k : Nat) : Int)) (q.n) .z)) ?_
  obtain ⟨r70, hr71, hb72⟩ := hl66.blk
  refine yK 11 (e_store (0 + (((max (p1 : Int) 0) + ((k : Nat) : Int)) : Int).toNat * 6) [rX (blankC s).rune, .bool (blankC s).sty.bold, .bool (blankC s).sty.under, .bool (blankC s).sty.turned, iX (blankC s).sty.fore, iX (blankC s).sty.back] none (by kernel_rfl) hb72 (line_fit (fillL q.l (max (p1 : Int) 0) (blankC s) k) r70 ((max (p1 : Int) 0) + ((k : Nat) : Int)) (by omega) (by first | omega | (simp only [hqw, hqn, set_len, fillL_len]; omega)) (of_ble rfl)) ?_)
  intro w67 hb72 hc69
  have hl68 := s_cel hl66 hr71 (by omega) (by first | omega | (simp only [hqw, hqn, set_len, fillL_len]; omega)) (blankC s) hb72
  have hL74 := Ch.trans hL61 hc69 iZ
  refine x_killed <| yDe (nB (nS ?_))
  refine x_region <| yp 3 [] (.q6 (((max (p1 : Int) 0) + ((k : Nat) : Int)) + 1) .z) <| yE (fun a ha => hL38 (k + 1) _ ⟨by omega, hl68, hL74⟩ (by show (min (p2 : Int) G.w - (max (p1 : Int) 0)).toNat - (k + 1) < (min (p2 : Int) G.w - (max (p1 : Int) 0)).toNat - k; omega) a (by rw [show ((max (p1 : Int) 0) + ((k + 1 : Nat) : Int)) = ((max (p1 : Int) 0) + ((k : Nat) : Int)) + 1 by omega]; exact ha.kp [0, 1, 3, 9, 10]))
 have hkn : k = (min (p2 : Int) G.w - (max (p1 : Int) 0)).toNat := by omega
 refine x_exit (eS (then_exit (block_exit (nS ?_))))
 refine yDC [14] fun w79 hH80 hc81 => ?_
 have hS82 := Ch.trans hS42 hc81 eZ
 have hB83 := hB43.ch hc81 id
 have hrow84 := hrow44.ch hc81 (fun b e => by cases e; exact id)
 have hT85 := tables_ch hc81 hT45 id id
 have hB86 := hB46.ch hc81 id
 have hl87 := hl40.ch hc81 id
 refine ydC (uL 0 12) [] (fun u hu => (.l (cell_ch hu (hB83.c 2) id) (.l (cell_ch hu (hB83.c 2) id) (.i y (rows.length) (.l (cell_ch hu (row_cell hrow84 hxs) id) .z))))) <| yH 12 (yC (mend_any q.b q.n q.cap (fillL q.l (max (p1 : Int) 0) (blankC s) k) _ hT85 hl87.rd hl87.lt (by first | omega | simp only [set_len, fillL_len, hqw, hqn]) (by omega)) ?_)
 rintro _ w93 ⟨g88, cp89, rfl, hl90, hlo91, hc92⟩
 refine ⟨_, rfl, ?_⟩
 have hlo91w : w.heap.size ≤ g88 := Nat.le_trans (Ch.size hS82) hlo91
 have hd94 : Df g g88 := (show ¬ g = g88 by have := hB83.lt; omega)
 have hd95 : Df r g88 := (show ¬ r = g88 by have := hrow84.lt; omega)
 have hd96 : Df b11 g88 := (show ¬ b11 = g88 by have := hB86.lt; omega)
 have hd97 : Df q.b g88 := (show ¬ q.b = g88 by have := hl87.lt; omega)
 have hS98 := Ch.trans hS82 hc92 eZ
 have hrow100 := hrow84.ch hc92 (fun b e => by cases e; exact id)
 refine x_heldC hc92 <| ydC [13] [] (fun u hu => (.i y (rows.length) .z)) ?_
 obtain ⟨rest107, hr108, hb109⟩ := hrow100.2.2.2.2 _ rfl
 refine yK 14 (e_store (0 + (y : Int).toNat * 1) [Row.val (Row.mk g88 q.n cp89 (mend (fillL q.l (max (p1 : Int) 0) (blankC s) k)))] none (by kernel_rfl) hb109 (row_fit (List.getElem?_eq_some_iff.1 hxs).1) ?_)
 intro w104 hB105 hc106
 have hrow110 := row_put (x := (Row.mk g88 q.n cp89 (mend (fillL q.l (max (p1 : Int) 0) (blankC s) k)))) (List.getElem?_eq_some_iff.1 hxs).1 hr108 hrow100 hB105
 have hS111 := Ch.trans hS98 hc106 (fun i hi (h : i = r) => .inr h)
 have hl116 := hl90.ch hc106 (fun h => hd95 h.symm)
 refine x_killed <| yDe (yR0' ?_)
 have e : clearG G y p1 p2 s = ⟨G.w, G.h, G.lines.set y.toNat (mend (fillL q.l (max (p1 : Int) 0) (blankC s) k))⟩ := by
  unfold clearG setG clearL
  rw [if_pos (there_iff.2 hyes), ← hql, hkn]
 rw [e]
 exact ⟨rfl, ⟨r, rc, _, GridIn.setLine (x' := (Row.mk g88 q.n cp89 (mend (fillL q.l (max (p1 : Int) 0) (blankC s) k)))) hG hxs hS111 hrow110 hl116 (.inr hlo91w) (by simp only [mend_len, fillL_len, hqw]) (by simp only [mend_len, fillL_len, hqw, hqn])⟩, (hS111).mono (fun i _ hi => hi.elim (fun e => e ▸ hG.inF.2.2 q hqm) (fun e => e ▸ hG.inF.2.1))⟩
end Go.Proofs.YteoejhjfbfacdaaGreatDoor.X
namespace Go.Proofs.YteoejhjfbfacdaaGreatDoor.X
open Go Go.RowKit Go.Proofs.YteoejhjfbfacdaaGreatDoor
set_option maxHeartbeats 4000000 in
theorem open_any (g : Nat) (G : Gr) (F : Nat → Prop) (x y n : Int) (s : Sty) (w : World) (hT : Tables w) (hG0 : GridAt w g G F) : Calls Tryz.prog 81 [pX g, iX x, iX y, iX n, .agg #[.bool s.bold, .bool s.under, .bool s.turned, iX s.fore, iX s.back]].toArray w fun e w' => e = .returned (.tuple #[]) ∧ GridAt w' g (openG G x y n s) (more F w w') ∧ Ch F w w' := by
 obtain ⟨r, rc, rows, hG⟩ := hG0
 have hG0 : GridAt w g G F := ⟨r, rc, rows, hG⟩
 obtain ⟨⟨hw1, hw2⟩, ⟨hh1, hh2⟩, hll, hall⟩ := hG.ok
 have hlen := hG.len
 have hgr : Df r g := hG.gr
 have hg7 := hG.hi _ hG.inF.1
 have hr7 := hG.hi _ hG.inF.2.1
 obtain ⟨q, hq⟩ := row_any hG y
 refine yA Tryz.func81 rfl <| ysr <| yo (yN [.bool s.bold, .bool s.under, .bool s.turned, iX s.fore, iX s.back] 43 fun w10 b11 hb12 hz13 hB14 hc15 => ?_)
 have hlo16 : w.heap.size ≤ b11 := by rw [hb12]; exact Ch.size (Ch.refl (fun j => j = q.b ∨ j = r) w)
 have hS17 := Ch.trans (Ch.refl (fun j => j = q.b ∨ j = r) w) hc15 eZ
 have hu18 := Up.step (Up.refl w.heap.size w) hc15 iZ
 have hB19 := hG.head.ch hc15 id
 have hrow20 := hG.body.ch hc15 (fun b e => by cases e; exact id)
 have hT21 := tables_ch hc15 hT id id
 refine ye <| ys <| ysr <| yp 3 [] .z <| yo (yQ (there_any g G x y _ hB19) fun w23 hc22 => ?_)
 have hS24 := Ch.trans hS17 hc22 eZ
 have hu25 := Up.step hu18 hc22 iZ
 have hB26 := hB19.ch hc22 id
 have hrow27 := hrow20.ch hc22 (fun b e => by cases e; exact id)
 have hT28 := tables_ch hc22 hT21 id id
 have hB29 := hB14.ch hc22 id
 refine yp 5 [] .z <| ye <| yc (rN (rY (thereB G x y))) (fun hC30 => ?_) fun hC30 => ?_
 ·have hno := hC30
  refine x_ret (rS (yR0 ?_))
  rw [show openG G x y n s = G from if_neg (fun h => absurd (h.symm.trans hno) (by decide))]
  exact ⟨rfl, hG0.same (Up.ch hu25), (Up.ch hu25).mono eZ⟩
 have hyes := there_iff.1 hC30
 have hxs := hq ⟨by omega, by omega⟩
 obtain ⟨hql, hqw, hqm, hqn⟩ := row_line hG hxs
 have hqb1 : Df q.b g := (hG.gb q hqm).1
 have hqb2 : Df q.b r := (hG.gb q hqm).2
 have hq7 := hG.hi _ (hG.inF.2.2 q hqm)
 have hqL := (hG.line q hqm).1
 have hql31 := hqL.ch (Up.ch hu25) id
 have hd32 : Df q.b b11 := (show ¬ q.b = b11 by have := hqL.lt; omega)
 have hd33 : Df g b11 := (show ¬ g = b11 by have := hG.head.lt; omega)
 have hd34 : Df r b11 := (show ¬ r = b11 by have := hG.body.lt; omega)
 refine yk <| ysr <| yp 10 [] (.l (hB26.c 0) (.q6 (G.w - x) .z)) <| ye <| ys <| yD [20] fun w35 hH36 hc37 => ?_
 have hS38 := Ch.trans hS24 hc37 eZ
 have hB40 := hB26.ch hc37 id
 have hrow41 := hrow27.ch hc37 (fun b e => by cases e; exact id)
 have hT42 := tables_ch hc37 hT28 id id
 have hB43 := hB29.ch hc37 id
 have hl44 := hql31.ch hc37 id
 refine yd (uL 0 20) [] (.l (hB40.c 2) (.i y (rows.length) (.l (row_cell hrow41 hxs) (.q6 (x + (min ((max (n : Int) 0) : Int) (G.w - x))) (.j (x + (min ((max (n : Int) 0) : Int) (G.w - x))) (q.n) (.l (hB40.c 2) (.i y (rows.length) (.l (row_cell hrow41 hxs) (.j x (q.n) .z))))))))) ?_
 obtain ⟨rr48, hrr49, hbb50⟩ := hl44.blk
 have hyl52 : (((q.l.drop (x : Int).toNat).take (q.l.length - (x + (min (max (n : Int) 0) (G.w - x))).toNat))).length = q.l.length - (x + (min (max (n : Int) 0) (G.w - x))).toNat := by rw [List.length_take, List.length_drop]; omega
 refine yK 20 (e_copy' 6 q.b (if q.cap = ((x + (min (max (n : Int) 0) (G.w - x))) : Int).toNat then 0 else 0 + ((x + (min (max (n : Int) 0) (G.w - x))) : Int).toNat * 6) ((q.n - ((x + (min ((max (n : Int) 0) : Int) (G.w - x))) : Int).toNat)) ((q.cap - ((x + (min ((max (n : Int) 0) : Int) (G.w - x))) : Int).toNat)) (some ⟨q.b, if q.cap = (x : Int).toNat then 0 else 0 + (x : Int).toNat * 6, none⟩) ((q.n - (x : Int).toNat)) ((q.cap - (x : Int).toNat)) (flat ((q.l.drop (x : Int).toNat).take (q.l.length - (x + (min (max (n : Int) 0) (G.w - x))).toNat))) (some 44) (q.l.length - (x + (min (max (n : Int) 0) (G.w - x))).toNat) (by omega) (by kernel_rfl) hbb50 (line_from hl44 (by omega)) (by rw [flat_len, hyl52]) (flat_one_cells _) (line_fit2 hl44 (by rw [hyl52]; omega)) ?_)
 intro w45 hB46 hc47
 have hl51 := line_copy hl44 hrr49 (by rw [hyl52]; omega) hB46
 have hS53 := Ch.trans hS38 hc47 (fun i hi (h : i = q.b) => .inl h)
 have hrow55 := hrow41.ch hc47 (fun b e => by cases e; exact (fun h => hqb2 h.symm))
 have hT56 := tables_ch hc47 hT42 (fun (h : gWide = q.b) => by have := tab_lt hT; have := g_lt; omega) (fun (h : gSigns = q.b) => by have := tab_lt hT; have := g_lt; omega)
 have hB57 := hB43.ch hc47 (fun h => hd32 h.symm)
 refine x_killed <| yDe (nS ?_)
 refine x_region <| yp 7 [] (.q6 (x + (min ((max (n : Int) 0) : Int) (G.w - x))) (.a (hB57.cs 0 5) .z)) ?_
 have hll2 : ((openL q.l x (min (max (n : Int) 0) (G.w - x)))).length = G.w.toNat := by simp only [openL, shutL, List.length_append, List.length_take, List.length_drop]; omega
 have hGc58 : GridAt w45 g (setG G y (openL q.l x (min (max (n : Int) 0) (G.w - x)))) (more F w w45) := ⟨r, rc, _, GridIn.setLine (x' := ⟨q.b, q.n, q.cap, (openL q.l x (min (max (n : Int) 0) (G.w - x)))⟩) hG hxs hS53 (row_same hrow55 hxs rfl) hl51 (.inl rfl) hll2 (hll2.trans hqn.symm)⟩
 refine yo (yQ (clear_any g (setG G y (openL q.l x (min (max (n : Int) 0) (G.w - x)))) (more F w w45) y x (x + (min ((max (n : Int) 0) : Int) (G.w - x))) s _ hT56 hGc58) ?_)
 rintro w61 ⟨hG59, hc60⟩
 refine yE (yR0' ?_)
 rw [show openG G x y n s = _ from if_pos (there_iff.2 hyes), ← hql]
 exact ⟨rfl, hG59.mono (more_trans (Ch.size hS53) (Ch.size hc60)) (more_ok hG0 (Nat.le_trans (Ch.size hS53) (Ch.size hc60))), Ch.trans ((hS53).mono (fun i _ hi => hi.elim (fun e => e ▸ hG.inF.2.2 q hqm) (fun e => e ▸ hG.inF.2.1))) hc60 (fun i hi h => h.elim id (fun h => by omega))⟩
set_option maxHeartbeats 4000000 in
theorem shut_any (g : Nat) (G : Gr) (F : Nat → Prop) (x y n : Int) (s : Sty) (w : World) (hT : Tables w) (hG0 : GridAt w g G F) : Calls Tryz.prog 139 [pX g, iX x, iX y, iX n, .agg #[.bool s.bold, .bool s.under, .bool s.turned, iX s.fore, iX s.back]].toArray w fun e w' => e = .returned (.tuple #[]) ∧ GridAt w' g (shutG G x y n s) (more F w w') ∧ Ch F w w' := by
 obtain ⟨r, rc, rows, hG⟩ := hG0
 have hG0 : GridAt w g G F := ⟨r, rc, rows, hG⟩
 obtain ⟨⟨hw1, hw2⟩, ⟨hh1, hh2⟩, hll, hall⟩ := hG.ok
 have hlen := hG.len
 have hgr : Df r g := hG.gr
 have hg7 := hG.hi _ hG.inF.1
 have hr7 := hG.hi _ hG.inF.2.1
 obtain ⟨q, hq⟩ := row_any hG y
 refine yA Tryz.func139 rfl <| ysr <| yo (yN [.bool s.bold, .bool s.under, .bool s.turned, iX s.fore, iX s.back] 43 fun w10 b11 hb12 hz13 hB14 hc15 => ?_)
 have hlo16 : w.heap.size ≤ b11 := by rw [hb12]; exact Ch.size (Ch.refl (fun j => j = q.b ∨ j = r) w)
 have hS17 := Ch.trans (Ch.refl (fun j => j = q.b ∨ j = r) w) hc15 eZ
 have hu18 := Up.step (Up.refl w.heap.size w) hc15 iZ
 have hB19 := hG.head.ch hc15 id
 have hrow20 := hG.body.ch hc15 (fun b e => by cases e; exact id)
 have hT21 := tables_ch hc15 hT id id
 refine ye <| ys <| ysr <| yp 3 [] .z <| yo (yQ (there_any g G x y _ hB19) fun w23 hc22 => ?_)
 have hS24 := Ch.trans hS17 hc22 eZ
 have hu25 := Up.step hu18 hc22 iZ
 have hB26 := hB19.ch hc22 id
 have hrow27 := hrow20.ch hc22 (fun b e => by cases e; exact id)
 have hT28 := tables_ch hc22 hT21 id id
 have hB29 := hB14.ch hc22 id
 refine yp 5 [] .z <| ye <| yc (rN (rY (thereB G x y))) (fun hC30 => ?_) fun hC30 => ?_
 ·have hno := hC30
  refine x_ret (rS (yR0 ?_))
  rw [show shutG G x y n s = G from if_neg (fun h => absurd (h.symm.trans hno) (by decide))]
  exact ⟨rfl, hG0.same (Up.ch hu25), (Up.ch hu25).mono eZ⟩
 have hyes := there_iff.1 hC30
 have hxs := hq ⟨by omega, by omega⟩
 obtain ⟨hql, hqw, hqm, hqn⟩ := row_line hG hxs
 have hqb1 : Df q.b g := (hG.gb q hqm).1
 have hqb2 : Df q.b r := (hG.gb q hqm).2
 have hq7 := hG.hi _ (hG.inF.2.2 q hqm)
 have hqL := (hG.line q hqm).1
 have hql31 := hqL.ch (Up.ch hu25) id
 have hd32 : Df q.b b11 := (show ¬ q.b = b11 by have := hqL.lt; omega)
 have hd33 : Df g b11 := (show ¬ g = b11 by have := hG.head.lt; omega)
 have hd34 : Df r b11 := (show ¬ r = b11 by have := hG.body.lt; omega)
 refine yk <| ysr <| yp 10 [] (.l (hB26.c 0) (.q6 (G.w - x) .z)) <| ye <| ys <| yD [20] fun w35 hH36 hc37 => ?_
 have hS38 := Ch.trans hS24 hc37 eZ
 have hB40 := hB26.ch hc37 id
 have hrow41 := hrow27.ch hc37 (fun b e => by cases e; exact id)
 have hT42 := tables_ch hc37 hT28 id id
 have hB43 := hB29.ch hc37 id
 have hl44 := hql31.ch hc37 id
 refine yd (uL 0 20) [] (.l (hB40.c 2) (.i y (rows.length) (.l (row_cell hrow41 hxs) (.j x (q.n) (.l (hB40.c 2) (.i y (rows.length) (.l (row_cell hrow41 hxs) (.q6 (x + (min ((max (n : Int) 0) : Int) (G.w - x))) (.j (x + (min ((max (n : Int) 0) : Int) (G.w - x))) (q.n) .z))))))))) ?_
 obtain ⟨rr48, hrr49, hbb50⟩ := hl44.blk
 have hyl52 : (((q.l.drop ((x + (min (max (n : Int) 0) (G.w - x))) : Int).toNat).take (q.l.length - (x + (min (max (n : Int) 0) (G.w - x))).toNat))).length = q.l.length - (x + (min (max (n : Int) 0) (G.w - x))).toNat := by rw [List.length_take, List.length_drop]; omega
 refine yK 20 (e_copy' 6 q.b (if q.cap = (x : Int).toNat then 0 else 0 + (x : Int).toNat * 6) ((q.n - (x : Int).toNat)) ((q.cap - (x : Int).toNat)) (some ⟨q.b, if q.cap = ((x + (min (max (n : Int) 0) (G.w - x))) : Int).toNat then 0 else 0 + ((x + (min (max (n : Int) 0) (G.w - x))) : Int).toNat * 6, none⟩) ((q.n - ((x + (min ((max (n : Int) 0) : Int) (G.w - x))) : Int).toNat)) ((q.cap - ((x + (min ((max (n : Int) 0) : Int) (G.w - x))) : Int).toNat)) (flat ((q.l.drop ((x + (min (max (n : Int) 0) (G.w - x))) : Int).toNat).take (q.l.length - (x + (min (max (n : Int) 0) (G.w - x))).toNat))) (some 44) (q.l.length - (x + (min (max (n : Int) 0) (G.w - x))).toNat) (by omega) (by kernel_rfl) hbb50 (line_from hl44 (by omega)) (by rw [flat_len, hyl52]) (flat_one_cells _) (line_fit2 hl44 (by rw [hyl52]; omega)) ?_)
 intro w45 hB46 hc47
 have hl51 := line_copy hl44 hrr49 (by rw [hyl52]; omega) hB46
 have hS53 := Ch.trans hS38 hc47 (fun i hi (h : i = q.b) => .inl h)
 have hB54 := hB40.ch hc47 (fun h => hqb1 h.symm)
 have hrow55 := hrow41.ch hc47 (fun b e => by cases e; exact (fun h => hqb2 h.symm))
 have hT56 := tables_ch hc47 hT42 (fun (h : gWide = q.b) => by have := tab_lt hT; have := g_lt; omega) (fun (h : gSigns = q.b) => by have := tab_lt hT; have := g_lt; omega)
 have hB57 := hB43.ch hc47 (fun h => hd32 h.symm)
 refine x_killed <| yDe (nS ?_)
 refine yD [13] fun w58 hH59 hc60 => ?_
 have hS61 := Ch.trans hS53 hc60 eZ
 have hB62 := hB54.ch hc60 id
 have hrow63 := hrow55.ch hc60 (fun b e => by cases e; exact id)
 have hT64 := tables_ch hc60 hT56 id id
 have hB65 := hB57.ch hc60 id
 have hl66 := hl51.ch hc60 id
 refine yd (uL 0 13) [] (.l (hB62.c 0) (.q6 (G.w - (min ((max (n : Int) 0) : Int) (G.w - x))) (.l (hB62.c 0) (.a (hB65.cs 0 5) .z)))) ?_
 have hll2 : ((shutL q.l x (min (max (n : Int) 0) (G.w - x)))).length = G.w.toNat := by simp only [openL, shutL, List.length_append, List.length_take, List.length_drop]; omega
 have hGc67 : GridAt w58 g (setG G y (shutL q.l x (min (max (n : Int) 0) (G.w - x)))) (more F w w58) := ⟨r, rc, _, GridIn.setLine (x' := ⟨q.b, q.n, q.cap, (shutL q.l x (min (max (n : Int) 0) (G.w - x)))⟩) hG hxs hS61 (row_same hrow63 hxs rfl) hl66 (.inl rfl) hll2 (hll2.trans hqn.symm)⟩
 refine yK 13 (yQ (clear_any g (setG G y (shutL q.l x (min (max (n : Int) 0) (G.w - x)))) (more F w w58) y (G.w - (min ((max (n : Int) 0) : Int) (G.w - x))) G.w s _ hT64 hGc67) ?_)
 rintro w70 ⟨hG68, hc69⟩
 refine x_killed <| yDe (yR0' ?_)
 rw [show shutG G x y n s = _ from if_pos (there_iff.2 hyes), ← hql]
 exact ⟨rfl, hG68.mono (more_trans (Ch.size hS61) (Ch.size hc69)) (more_ok hG0 (Nat.le_trans (Ch.size hS61) (Ch.size hc69))), Ch.trans ((hS61).mono (fun i _ hi => hi.elim (fun e => e ▸ hG.inF.2.2 q hqm) (fun e => e ▸ hG.inF.2.1))) hc69 (fun i hi h => h.elim id (fun h => by omega))⟩
end Go.Proofs.YteoejhjfbfacdaaGreatDoor.X
namespace Go.Proofs.YteoejhjfbfacdaaGreatDoor.X
open Go Go.RowKit Go.Proofs.YteoejhjfbfacdaaGreatDoor
def down1 {α : Type} (L : List α) (t e : Nat) (b : α) : List α := L.take t ++ [b] ++ (L.drop t).take (e - 1 - t) ++ L.drop e
def up1 {α : Type} (L : List α) (t e : Nat) (b : α) : List α := L.take t ++ (L.drop (t + 1)).take (e - (t + 1)) ++ [b] ++ L.drop e
def downN {α : Type} (t e : Nat) (b : α) : Nat → List α → List α
 | 0, L => L
 | k + 1, L => down1 (downN t e b k L) t e b
def upN {α : Type} (t e : Nat) (b : α) : Nat → List α → List α
 | 0, L => L
 | k + 1, L => up1 (upN t e b k L) t e b
theorem down1_map {α β : Type} (f : α → β) (L : List α) (t e : Nat) (b : α) : (down1 L t e b).map f = down1 (L.map f) t e (f b) := by simp [down1, List.map_take, List.map_drop]
theorem up1_map {α β : Type} (f : α → β) (L : List α) (t e : Nat) (b : α) : (up1 L t e b).map f = up1 (L.map f) t e (f b) := by simp [up1, List.map_take, List.map_drop]
theorem down1_len {α : Type} {L : List α} {t e : Nat} {b : α} (h : t < e) (h' : e ≤ L.length) : (down1 L t e b).length = L.length := by simp [down1]; omega
theorem up1_len {α : Type} {L : List α} {t e : Nat} {b : α} (h : t < e) (h' : e ≤ L.length) : (up1 L t e b).length = L.length := by simp [up1]; omega
theorem down1_perm {α : Type} (L : List α) (t e : Nat) (b : α) : (down1 L t e b).Perm (b :: (L.take t ++ (L.drop t).take (e - 1 - t) ++ L.drop e)) := by
 unfold down1
 simp only [List.append_assoc, List.singleton_append]
 exact List.perm_middle
theorem up1_perm {α : Type} (L : List α) (t e : Nat) (b : α) : (up1 L t e b).Perm (b :: (L.take t ++ (L.drop (t + 1)).take (e - (t + 1)) ++ L.drop e)) := by
 unfold up1
 rw [List.append_assoc (_ ++ _) [b]]
 exact List.perm_middle
theorem cut3_sub {α : Type} (L : List α) (t u m e : Nat) (h : t ≤ u) (h' : u + m ≤ e) : (L.take t ++ (L.drop u).take m ++ L.drop e).Sublist L := by
 have e1 : L = L.take t ++ ((L.drop t).take (u - t) ++ ((L.drop u).take m ++ ((L.drop (u + m)).take (e - (u + m)) ++ L.drop e))) := by
  conv => lhs; rw [← List.take_append_drop t L]
  congr 1
  conv => lhs; rw [← List.take_append_drop (u - t) (L.drop t), List.drop_drop, show t + (u - t) = u by omega]
  congr 1
  conv => lhs; rw [← List.take_append_drop m (L.drop u), List.drop_drop]
  congr 1
  conv => lhs; rw [← List.take_append_drop (e - (u + m)) (L.drop (u + m)), List.drop_drop, show u + m + (e - (u + m)) = e by omega]
 conv => rhs; rw [e1]
 rw [List.append_assoc]
 refine List.Sublist.append_left ?_ _
 refine (List.Sublist.append_left (List.sublist_append_right _ _) _).trans (List.sublist_append_right _ _)
section
variable {w w' : World} {e : TypeId} {b n cap : Nat} {vs ys rest : List Value}
theorem own_copy {lo : Nat} (h : Own w e 1 (some b) n cap vs) (hr : rest.length = (cap - n) * 1) (hlo : lo + ys.length ≤ n)
  (hb : Blk w' b (put (vs ++ rest) (if cap = lo then 0 else 0 + lo * 1) ys) e) : Own w' e 1 (some b) n cap (vs.take lo ++ ys ++ vs.drop (lo + ys.length)) := by
 have hl := h.1
 have hcap := h.2.1
 refine ⟨by simp only [List.length_append, List.length_take, List.length_drop]; omega, hcap, h.2.2.1, (fun e => by cases e), fun g e => ⟨rest, hr, ?_⟩⟩
 obtain rfl := Option.some.inj e
 by_cases e : cap = lo
 ·have hy : ys = [] := List.eq_nil_of_length_eq_zero (by omega)
  subst hy
  rw [if_pos e] at hb
  have e1 : put (vs ++ rest) 0 [] = vs ++ rest := by simp [put]
  have e2 : vs.take lo ++ [] ++ vs.drop (lo + ([] : List Value).length) = vs := by simp
  rw [e2]; rwa [e1] at hb
 ·rw [if_neg e, Nat.zero_add, Nat.mul_one] at hb
  have e1 : put (vs ++ rest) lo ys = vs.take lo ++ ys ++ vs.drop (lo + ys.length) ++ rest := by
   unfold put
   rw [List.take_append_of_le_length (by omega), List.drop_append_of_le_length (by omega)]
   simp [List.append_assoc]
  rwa [e1] at hb
theorem own_from {k m : Nat} (h : Own w e 1 (some b) n cap vs) (hkm : m ≤ n - k) : Rd w (some ⟨b, if cap = k then 0 else 0 + k * 1, none⟩) ((vs.drop k).take m) := by
 have hl := h.1
 have hcap := h.2.1
 by_cases e : cap = k
 ·have : (vs.drop k).take m = [] := List.eq_nil_of_length_eq_zero (by rw [List.length_take, List.length_drop]; omega)
  rw [this]; exact Rd.nil _ _
 ·rw [if_neg e, Nat.zero_add, Nat.mul_one]
  have hrd := h.rd
  refine ⟨(fun e => by cases e), fun ad e j u hj => ?_⟩
  obtain rfl := Option.some.inj e
  rw [add_pl]
  have := rd_at hrd (k + j) u (by
   rw [List.getElem?_take] at hj
   split at hj
   ·rwa [List.getElem?_drop] at hj
   ·cases hj)
  rwa [Nat.zero_add] at this
theorem own_fit {lo : Nat} (h : Own w e 1 (some b) n cap vs) (hlo : lo + ys.length ≤ n) : (if cap = lo then 0 else 0 + lo * 1) + ys.length ≤ (vs ++ rest).length := by
 have hl := h.1
 rw [List.length_append]
 split <;> omega
theorem own_set {i : Nat} {v : Value} (h : Own w e 1 (some b) n cap vs) (hr : rest.length = (cap - n) * 1) (hi : i < n) (hb : Blk w' b (put (vs ++ rest) (0 + i * 1) [v]) e) : Own w' e 1 (some b) n cap (vs.set i v) := by
 have hl := h.1
 refine ⟨by rw [List.length_set]; exact hl, h.2.1, h.2.2.1, (fun e => by cases e), fun g e => ⟨rest, hr, ?_⟩⟩
 obtain rfl := Option.some.inj e
 have e1 : put (vs ++ rest) (0 + i * 1) [v] = vs.set i v ++ rest := by
  rw [Nat.zero_add, Nat.mul_one]
  unfold put
  rw [List.take_append_of_le_length (by omega), List.drop_append_of_le_length (by simp; omega), List.set_eq_take_append_cons_drop, if_pos (by omega)]
  simp
 rwa [e1] at hb
theorem own_setfit {i : Nat} {v : Value} (h : Own w e 1 (some b) n cap vs) (hi : i < n) : 0 + i * 1 + [v].length ≤ (vs ++ rest).length := by
 have hl := h.1
 rw [List.length_append]; simp; omega
end
theorem down1_of {α : Type} (L : List α) (t e : Nat) (b : α) (h : t < e) (h' : e ≤ L.length) :
  (L.take (t + 1) ++ (L.drop t).take (e - 1 - t) ++ L.drop (t + 1 + ((L.drop t).take (e - 1 - t)).length)).set t b = down1 L t e b := by
 have hl : ((L.drop t).take (e - 1 - t)).length = e - 1 - t := by rw [List.length_take, List.length_drop]; omega
 rw [hl, show t + 1 + (e - 1 - t) = e by omega]
 unfold down1
 rw [List.append_assoc, List.set_append_left _ _ (by rw [List.length_take]; omega), List.append_assoc]
 congr 1
 rw [List.set_eq_take_append_cons_drop, if_pos (by rw [List.length_take]; omega), List.take_take, List.drop_take]
 simp [Nat.min_eq_left (Nat.le_succ t)]
theorem up1_of {α : Type} (L : List α) (t e : Nat) (b : α) (h : t < e) (h' : e ≤ L.length) :
  (L.take t ++ (L.drop (t + 1)).take (e - 1 - t) ++ L.drop (t + ((L.drop (t + 1)).take (e - 1 - t)).length)).set (e - 1) b = up1 L t e b := by
 have hl : ((L.drop (t + 1)).take (e - 1 - t)).length = e - 1 - t := by rw [List.length_take, List.length_drop]; omega
 rw [hl, show t + (e - 1 - t) = e - 1 by omega]
 unfold up1
 rw [show e - (t + 1) = e - 1 - t by omega]
 have hlen : (L.take t ++ (L.drop (t + 1)).take (e - 1 - t)).length = e - 1 := by rw [List.length_append, hl, List.length_take]; omega
 rw [List.set_append_right _ _ (by omega), hlen, Nat.sub_self, List.append_assoc _ [b]]
 congr 1
 rw [List.drop_eq_getElem_cons (by omega), show e - 1 + 1 = e by omega]
 rfl
theorem GridIn.rows' {w w' : World} {g r cap : Nat} {rows rows' : List Row} {G : Gr} {F : Nat → Prop} {x : Row} {sub : List Row} (h : GridIn w g r cap rows G F) (hp : rows'.Perm (x :: sub)) (hsub : sub.Sublist rows) (hlen : rows'.length = rows.length)
  (hc : Ch (fun j => j = r) w w') (hbody : Own w' tLine 1 (some r) rows.length cap (rows'.map Row.val)) (hl : LineAt w' x.b x.l x.cap) (hb : w.heap.size ≤ x.b) (hxl : x.l.length = G.w.toNat) (hn : x.l.length = x.n) :
  GridIn w' g r cap rows' ⟨G.w, G.h, rows'.map Row.l⟩ (more F w w') := by
 have hmem : ∀ z ∈ rows', z = x ∨ z ∈ rows := fun z hz => by
  rcases List.mem_cons.1 (hp.mem_iff.1 hz) with h | h
  ·exact .inl h
  ·exact .inr (hsub.subset h)
 have hg := h.lt _ h.inF.1
 have hr := h.lt _ h.inF.2.1
 refine ⟨?_, hlen ▸ hbody, ?_, rfl, ⟨h.ok.1, h.ok.2.1, ?_, ?_⟩, h.gr, ?_, ?_, ⟨.inl h.inF.1, .inl h.inF.2.1, ?_⟩, fun b hb => (more_ok ⟨r, cap, rows, h⟩ hc.size b hb).1, fun b hb => (more_ok ⟨r, cap, rows, h⟩ hc.size b hb).2⟩
 ·rw [hlen]; exact h.head.ch hc fun e => h.gr e.symm
 ·intro z hz
  rcases hmem z hz with rfl | hz
  ·exact ⟨hl, hn⟩
  ·exact ⟨(h.line z hz).1.ch hc (h.gb z hz).2, (h.line z hz).2⟩
 ·simp only [List.length_map]; rw [hlen, h.len]
 ·intro l hl'
  obtain ⟨z, hz, rfl⟩ := List.mem_map.1 hl'
  rcases hmem z hz with rfl | hz
  ·exact hxl
  ·exact h.ok.2.2.2 _ (h.lines ▸ List.mem_map_of_mem hz)
 ·intro z hz
  rcases hmem z hz with rfl | hz
  ·exact ⟨by omega, by omega⟩
  ·exact h.gb z hz
 ·have hp2 := hp.map Row.b
  rw [hp2.nodup_iff, List.map_cons, List.nodup_cons]
  refine ⟨fun hx => ?_, (hsub.map Row.b).nodup h.nodup⟩
  obtain ⟨z, hz, e⟩ := List.mem_map.1 hx
  have := h.lt _ (h.inF.2.2 z (hsub.subset hz))
  omega
 ·intro z hz
  rcases hmem z hz with rfl | hz
  ·exact .inr ⟨hb, hl.lt⟩
  ·exact .inl (h.inF.2.2 z hz)
def topI (G : Gr) (p : Int) : Int := min (max p 0) G.h
def cntI (G : Gr) (p1 p2 n : Int) : Int := min (max n 0) (max (topI G p2 - topI G p1) 0)
def downG (G : Gr) (p1 p2 n : Int) (s : Sty) : Gr := ⟨G.w, G.h, downN (topI G p1).toNat (topI G p2).toNat (List.replicate G.w.toNat (blankC s)) (cntI G p1 p2 n).toNat G.lines⟩
def upG (G : Gr) (p1 p2 n : Int) (s : Sty) : Gr := ⟨G.w, G.h, upN (topI G p1).toNat (topI G p2).toNat (List.replicate G.w.toNat (blankC s)) (cntI G p1 p2 n).toNat G.lines⟩
theorem row_ones (rows : List Row) (a m : Nat) : ((((rows.map Row.val).drop a).take m).all fun c => c.oneCell') = true := by
 refine List.all_eq_true.2 fun v hv => ?_
 obtain ⟨x, _, rfl⟩ := List.mem_map.1 (List.mem_of_mem_drop (List.mem_of_mem_take hv))
 rfl
end Go.Proofs.YteoejhjfbfacdaaGreatDoor.X
namespace Go.Proofs.YteoejhjfbfacdaaGreatDoor.X
open Go Go.RowKit Go.Proofs.YteoejhjfbfacdaaGreatDoor
theorem some_any' (g : Nat) (G : Gr) (p1 p2 n : Int) {v : Value} (w : World) (h : Blk w g [iX G.w, iX G.h, v] tGrid) (h1 : 1 ≤ G.h) (h2 : G.h ≤ 60) : Calls Tryz.prog 137 [pX g, iX p1, iX p2, iX n].toArray w fun e w' =>
    ∃ t e2 m : Int, e = .returned (.tuple #[iX t, iX e2, iX m]) ∧ t = min (max p1 0) G.h ∧ e2 = min (max p2 0) G.h ∧ m = min (max n 0) (max (e2 - t) 0) ∧ Ch (fun _ => False) w w' :=
  (some_any g G p1 p2 n w h h1 h2).mono fun _ _ ⟨he, hc⟩ => ⟨_, _, _, he, rfl, rfl, rfl, hc⟩
theorem some_bd (G : Gr) (p1 p2 n : Int) {t e m : Int} (h : 1 ≤ G.h ∧ G.h ≤ 60) (ht : t = min (max p1 0) G.h) (he : e = min (max p2 0) G.h) (hm : m = min (max n 0) (max (e - t) 0)) : (0 ≤ t ∧ t ≤ G.h) ∧ (0 ≤ e ∧ e ≤ G.h) ∧ (0 ≤ m ∧ (0 < m → m ≤ e - t)) := by omega
set_option maxHeartbeats 4000000 in
theorem down_any (g : Nat) (G : Gr) (F : Nat → Prop) (p1 p2 n : Int) (s : Sty) (w : World) (hT : Tables w) (hG0 : GridAt w g G F) : Calls Tryz.prog 121 [pX g, iX p1, iX p2, iX n, .agg #[.bool s.bold, .bool s.under, .bool s.turned, iX s.fore, iX s.back]].toArray w fun e w' => e = .returned (.tuple #[]) ∧ GridAt w' g (downG G p1 p2 n s) (more F w w') ∧ Ch F w w' := by
 obtain ⟨r, rc, rows, hG⟩ := hG0
 have hG0 : GridAt w g G F := ⟨r, rc, rows, hG⟩
 obtain ⟨⟨hw1, hw2⟩, ⟨hh1, hh2⟩, hll, hall⟩ := hG.ok
 have hlen := hG.len
 have hgr : Df r g := hG.gr
 have hg7 := hG.hi _ hG.inF.1
 have hr7 := hG.hi _ hG.inF.2.1
 refine yA Tryz.func121 rfl <| ysr <| yo (yN [.bool s.bold, .bool s.under, .bool s.turned, iX s.fore, iX s.back] 43 fun w10 b11 hb12 hz13 hB14 hc15 => ?_)
 have hlo16 : w.heap.size ≤ b11 := by rw [hb12]; exact Ch.size (Ch.refl (fun j => j = r) w)
 have hu18 := Up.step (Up.refl w.heap.size w) hc15 iZ
 have hB19 := hG.head.ch hc15 id
 have hrow20 := hG.body.ch hc15 (fun b e => by cases e; exact id)
 refine ye <| ysr <| yp 4 [] .z <| yo (yC (some_any' g G p1 p2 n _ hB19 hh1 hh2) ?_)
 rintro _ w23 ⟨t, e2, m, rfl, ht, he, hm, hc22⟩
 refine ⟨_, rfl, ?_⟩
 have hu25 := Up.step hu18 hc22 iZ
 have hB29 := hB14.ch hc22 id
 obtain ⟨⟨t1, t2⟩, ⟨t3, t4⟩, ⟨t5, t6⟩⟩ := some_bd G p1 p2 n (by omega) ht he hm
 refine yp 12 [] .z <| ye <| ysr <| yp 2 [] .z <| ye <| x_block <| ykeep [0, 1, 2, 9, 19, 20] (f' := [(0, pX g), (1, iX t), (2, iX e2), (9, pX b11), (19, iX m), (20, iX 0)]) <| x_loop (σ := Nat) (fun k => [(0, pX g), (1, iX t), (2, iX e2), (9, pX b11), (19, iX m), (20, iX ((k : Nat) : Int))]) (fun k u => k ≤ m.toNat ∧ ∃ rowsK, GridIn u g r rc rowsK (Gr.mk G.w G.h (downN t.toNat e2.toNat (List.replicate G.w.toNat (blankC s)) k G.lines)) (more F w u) ∧ Ch (fun j => j = r) w23 u) (fun k => m.toNat - k) 0 rfl ?_ ?_
 ·exact ⟨Nat.zero_le _, rows, (hG.ch (Up.ch hu25) iZ).mono (fun _ h => .inl h) (more_ok hG0 (Ch.size hu25)), Ch.refl _ _⟩
 intro k w30 hI31 K32 hL33
 obtain ⟨hk, rowsK, hK, hc34⟩ := hI31
 have hB37 := hB29.ch hc34 (fun (h : b11 = r) => by have := hG.body.lt; omega)
 have hszw : w.heap.size ≤ w30.heap.size := Nat.le_trans (Ch.size hu25) (Ch.size hc34)
 have hlenK : rowsK.length = G.h.toNat := hK.len
 have hrcK : rowsK.length ≤ rc := hK.body.2.1
 refine ysr <| yp 1 [] .z <| ye <| ys <| yc (rL ((k : Nat) : Int) m) (fun hC38 => ?_) fun hC38 => ?_
 ·refine yk <| ys <| x_block <| ys <| yD [16] fun w39 hH40 hc41 => ?_
  have hS42 := Ch.trans (Ch.refl (fun j => j = r) w30) hc41 eZ
  have hB44 := hB37.ch hc41 id
  have hB45 := hK.head.ch hc41 id
  have hv46 := hK.body.ch hc41 (fun b e => by cases e; exact id)
  refine yd (uL 0 16) [] (.l (hB45.c 2) (.q6 (t + 1) (.j e2 (rc) (.j (t + 1) ((e2 : Int).toNat) (.l (hB45.c 2) (.q6 (e2 - 1) (.j (e2 - 1) (rc) (.j t (((e2 - 1) : Int).toNat) .z)))))))) ?_
  obtain ⟨rr50, hrr51, hbb52⟩ := hv46.2.2.2.2 _ rfl
  have hyl54 : ((((rowsK.map Row.val).drop t.toNat).take (e2.toNat - 1 - t.toNat))).length = e2.toNat - 1 - t.toNat := by rw [List.length_take, List.length_drop, List.length_map]; omega
  have hd1 : ((t + 1) : Int).toNat = t.toNat + 1 := by omega
  have hd2 : (t : Int).toNat = t.toNat := by omega
  refine yK 16 (e_copy' 1 r (if rc = ((t + 1) : Int).toNat then 0 else 0 + ((t + 1) : Int).toNat * 1) (((e2 : Int).toNat - ((t + 1) : Int).toNat)) ((rc - ((t + 1) : Int).toNat)) (some ⟨r, if rc = (t : Int).toNat then 0 else 0 + (t : Int).toNat * 1, none⟩) ((((e2 - 1) : Int).toNat - (t : Int).toNat)) ((rc - (t : Int).toNat)) (((rowsK.map Row.val).drop t.toNat).take (e2.toNat - 1 - t.toNat)) (some 38) (e2.toNat - 1 - t.toNat) (by omega) (by kernel_rfl) hbb52 (by rw [hd2]; exact own_from hv46 (by omega)) (by rw [hyl54]; omega) (row_ones _ _ _) (by rw [hd1]; exact own_fit hv46 (by rw [hyl54]; omega)) ?_)
  intro w47 hB48 hc49
  rw [hd1] at hB48
  have hv53 := own_copy hv46 hrr51 (by rw [hyl54]; omega) hB48
  have hS55 := Ch.trans hS42 hc49 (fun i hi (h : i = r) => h)
  have hB57 := hB44.ch hc49 (fun (h : b11 = r) => by have := hG.body.lt; omega)
  have hB58 := hB45.ch hc49 (fun h => hgr h.symm)
  refine x_killed <| yDe (nS ?_)
  refine yDC [12] fun w59 hH60 hc61 => ?_
  have hS62 := Ch.trans hS55 hc61 eZ
  have hB64 := hB57.ch hc61 id
  have hB65 := hB58.ch hc61 id
  have hv66 := hv53.ch hc61 (fun b e => by cases e; exact id)
  refine ydC (uL 0 10) [] (fun u hu => (.l (cell_ch hu (hB65.c 2) id) (.l (cell_ch hu (hB65.c 0) id) (.a (cellsC_ch hu (hB64.cs 0 5) id) .z)))) <| yH 10 (yC (blanks_any G.w s _ hw1 hw2) ?_)
  rintro _ w72 ⟨g67, rfl, hl69, hlo70, hc71⟩
  refine ⟨_, rfl, ?_⟩
  have hlo70w : w30.heap.size ≤ g67 := Nat.le_trans (Ch.size hS62) hlo70
  have hd73 : Df b11 g67 := (show ¬ b11 = g67 by have := hB64.lt; omega)
  have hd74 : Df g g67 := (show ¬ g = g67 by have := hB65.lt; omega)
  have hd75 : Df r g67 := (show ¬ r = g67 by have := hv66.lt; omega)
  have hS76 := Ch.trans hS62 hc71 eZ
  have hv80 := hv66.ch hc71 (fun b e => by cases e; exact id)
  refine x_heldC hc71 <| ydC [11] [] (fun u hu => (.i t (rowsK.length) .z)) ?_
  obtain ⟨rr84, hrr85, hbb86⟩ := hv80.2.2.2.2 _ rfl
  have hd3 : (t : Int).toNat = t.toNat := by omega
  refine yK 12 (e_store (0 + (t : Int).toNat * 1) [Row.val (Row.mk g67 (G.w : Int).toNat (G.w : Int).toNat (List.replicate (G.w : Int).toNat (blankC s)))] none (by kernel_rfl) hbb86 (by rw [hd3]; exact own_setfit hv80 (by omega)) ?_)
  intro w81 hB82 hc83
  rw [hd3] at hB82
  have hv87 := own_set hv80 hrr85 (by omega) hB82
  rw [down1_of _ _ _ _ (by omega) (by rw [List.length_map]; omega), ← down1_map] at hv87
  have hS88 := Ch.trans hS76 hc83 (fun i hi (h : i = r) => h)
  have hl92 := hl69.ch hc83 (fun h => hd75 h.symm)
  refine x_killed <| yDe (nB (nS ?_))
  refine x_region <| yp 2 [] (.q6 (((k : Nat) : Int) + 1) .z) ?_
  have hrnd := ((GridIn.rows' (x := (Row.mk g67 (G.w : Int).toNat (G.w : Int).toNat (List.replicate (G.w : Int).toNat (blankC s)))) hK (down1_perm rowsK t.toNat e2.toNat _) (cut3_sub rowsK t.toNat t.toNat (e2.toNat - 1 - t.toNat) e2.toNat (by omega) (by omega)) (down1_len (by omega) (by omega)) hS88 hv87 hl92 hlo70w (by rw [List.length_replicate]) (by rw [List.length_replicate])).mono (more_trans hszw (Ch.size hS88)) (more_ok hG0 (Nat.le_trans hszw (Ch.size hS88))))
  rw [down1_map, hK.lines] at hrnd
  refine yE (fun a ha => hL33 (k + 1) _ ⟨by omega, _, hrnd, Ch.trans hc34 hS88 iZ⟩ (by show m.toNat - (k + 1) < m.toNat - k; omega) a (ha.kp [0, 1, 2, 9, 19, 20]))
 have hkn : k = m.toNat := by omega
 refine x_exit (eS (then_exit (block_exit (yR0' ?_))))
 refine ⟨rfl, ⟨r, rc, rowsK, ?_⟩, Ch.trans ((Up.ch hu25).mono eZ) hc34 (fun i _ h => h ▸ hG.inF.2.1)⟩
 show GridIn _ g r rc rowsK (downG G p1 p2 n s) _
 unfold downG topI cntI topI
 rw [← ht, ← he, ← hm, ← hkn]
 exact hK
end Go.Proofs.YteoejhjfbfacdaaGreatDoor.X
namespace Go.Proofs.YteoejhjfbfacdaaGreatDoor.X
open Go Go.RowKit Go.Proofs.YteoejhjfbfacdaaGreatDoor
def outsN (t e : Nat) (b : List Cel) : Nat → List (List Cel) → List (List Cel)
 | 0, _ => []
 | k + 1, L => outsN t e b k L ++ [(upN t e b k L).getD t []]
def outG (G : Gr) (p1 p2 n : Int) (s : Sty) : List (List Cel) := outsN (topI G p1).toNat (topI G p2).toNat (List.replicate G.w.toNat (blankC s)) (cntI G p1 p2 n).toNat G.lines
structure OutAt (w : World) (o : Option Nat) (n cap : Nat) (outs : List Row) (K : Nat → Prop) : Prop where
 own : Own w tLine 1 o n cap (outs.map Row.val)
 line : ∀ x ∈ outs, LineAt w x.b x.l x.cap ∧ x.l.length = x.n
 inK : ∀ x ∈ outs, K x.b
 oK : ∀ b, o = some b → K b
 lt : ∀ b, K b → b < w.heap.size
 hi : ∀ b, K b → gTop ≤ b
theorem OutAt.len {w : World} {o : Option Nat} {n cap : Nat} {outs : List Row} {K : Nat → Prop} (h : OutAt w o n cap outs K) : outs.length = n := by
 have := h.own.1
 rw [List.length_map, Nat.mul_one] at this
 exact this
theorem OutAt.ch {w w' : World} {o : Option Nat} {n cap : Nat} {outs : List Row} {K B : Nat → Prop} (h : OutAt w o n cap outs K) (hc : Ch B w w') (hB : ∀ b, K b → ¬ B b) : OutAt w' o n cap outs K :=
 {own := h.own.ch hc fun b e => hB b (h.oK b e)
  line := fun x hx => ⟨(h.line x hx).1.ch hc (hB _ (h.inK x hx)), (h.line x hx).2⟩
  inK := h.inK, oK := h.oK, hi := h.hi
  lt := fun b hb => Nat.lt_of_lt_of_le (h.lt b hb) hc.size }
theorem OutAt.nil (w : World) : OutAt w none 0 0 [] (fun _ => False) :=
 ⟨Own.nil _ _ _, (fun x hx => by cases hx), (fun x hx => by cases hx), (fun b e => by cases e), fun _ h => h.elim, fun _ h => h.elim⟩
def gridF (g r : Nat) (rows : List Row) : Nat → Prop := fun b => b = g ∨ b = r ∨ ∃ x ∈ rows, x.b = b
theorem GridIn.least {w : World} {g r cap : Nat} {rows : List Row} {G : Gr} {F : Nat → Prop} (h : GridIn w g r cap rows G F) : GridIn w g r cap rows G (gridF g r rows) :=
 {h with
  inF := ⟨.inl rfl, .inr (.inl rfl), fun x hx => .inr (.inr ⟨x, hx, rfl⟩)⟩
  lt := fun b hb => by
   rcases hb with rfl | rfl | ⟨x, hx, rfl⟩
   ·exact h.lt _ h.inF.1
   ·exact h.lt _ h.inF.2.1
   ·exact h.lt _ (h.inF.2.2 x hx)
  hi := fun b hb => by
   rcases hb with rfl | rfl | ⟨x, hx, rfl⟩
   ·exact h.hi _ h.inF.1
   ·exact h.hi _ h.inF.2.1
   ·exact h.hi _ (h.inF.2.2 x hx) }
theorem gridF_sub {w : World} {g r cap : Nat} {rows : List Row} {G : Gr} {F : Nat → Prop} (h : GridIn w g r cap rows G F) : ∀ b, gridF g r rows b → F b := by
 rintro b (rfl | rfl | ⟨x, hx, rfl⟩)
 ·exact h.inF.1
 ·exact h.inF.2.1
 ·exact h.inF.2.2 x hx
theorem tys : tLine ≠ tCell := by decide
theorem own_line_ne {w : World} {o : Option Nat} {n cap b c2 : Nat} {xs : List Value} {l : List Cel} (ho : Own w tLine 1 o n cap xs) (hl : LineAt w b l c2) : o ≠ some b := by
 intro e
 obtain ⟨r1, _, h1⟩ := ho.2.2.2.2 b e
 obtain ⟨r2, _, h2⟩ := hl.blk
 exact tys (h1.inj h2).2
theorem up1_notin {rows : List Row} {t e : Nat} {x y : Row} (hn : (rows.map Row.b).Nodup) (ht : rows[t]? = some x) (hte : t < e) (hy : y.b ≠ x.b) : ∀ z ∈ up1 rows t e y, z.b ≠ x.b := by
 obtain ⟨hlt, rfl⟩ := List.getElem?_eq_some_iff.1 ht
 intro z hz
 unfold up1 at hz
 simp only [List.mem_append, List.mem_singleton] at hz
 have key : ∀ j, j ≠ t → rows[j]? = some z → z.b ≠ rows[t].b := fun j hj hjz e => by
  obtain ⟨hj', rfl⟩ := List.getElem?_eq_some_iff.1 hjz
  exact hj (nd_inj hn hj' hlt e)
 rcases hz with ((h | h) | h) | h
 ·obtain ⟨j, hj⟩ := List.getElem?_of_mem h
  rw [List.getElem?_take] at hj
  split at hj
  ·exact key j (by omega) hj
  ·cases hj
 ·obtain ⟨j, hj⟩ := List.getElem?_of_mem h
  rw [List.getElem?_take] at hj
  split at hj
  ·rw [List.getElem?_drop] at hj
   exact key (t + 1 + j) (by omega) hj
  ·cases hj
 ·rw [h]; exact hy
 ·obtain ⟨j, hj⟩ := List.getElem?_of_mem h
  rw [List.getElem?_drop] at hj
  exact key (e + j) (by omega) hj
theorem up_round {w0 wk w' : World} {g r rc : Nat} {rows : List Row} {G : Gr} {F FK : Nat → Prop} {o o' : Option Nat} {k oc oc' t e : Nat} {outs : List Row} {q x : Row} {K : Nat → Prop}
  (hG0 : GridAt w0 g G F) (hsz : w0.heap.size ≤ wk.heap.size) {L : List (List Cel)}
  (hK : GridIn wk g r rc rows ⟨G.w, G.h, L⟩ FK) (hFK : ∀ b, FK b → more F w0 wk b) (hO : OutAt wk o k oc outs K) (hKm : ∀ b, K b → more F w0 wk b) (hap : ∀ b, FK b → ¬ K b)
  (hq : rows[t]? = some q) (hte : t < e) (he : e ≤ rows.length)
  (hc : Ch (fun j => j = r ∨ o = some j) wk w') (hbody : Own w' tLine 1 (some r) rows.length rc ((up1 rows t e x).map Row.val)) (hl : LineAt w' x.b x.l x.cap) (hb : wk.heap.size ≤ x.b) (hxl : x.l.length = G.w.toNat) (hn : x.l.length = x.n)
  (hown : Own w' tLine 1 o' (k + 1) oc' ((outs ++ [q]).map Row.val)) (ho' : o' = o ∨ ∃ b, o' = some b ∧ wk.heap.size ≤ b) (hox : o' ≠ some x.b) :
  ∃ FK' K', GridIn w' g r rc (up1 rows t e x) ⟨G.w, G.h, up1 L t e x.l⟩ FK' ∧ (∀ b, FK' b → more F w0 w' b) ∧ OutAt w' o' (k + 1) oc' (outs ++ [q]) K' ∧ (∀ b, K' b → more F w0 w' b) ∧ (∀ b, FK' b → ¬ K' b) := by
 have hqm : q ∈ rows := List.mem_of_getElem? hq
 have hor : ∀ b, o = some b → ¬ FK b := fun b e hf => hap b hf (hO.oK b e)
 have hgr : o ≠ some r := fun e => hor r e hK.inF.2.1
 have hlt' : ∀ b, o' = some b → b < w'.heap.size := fun b e => by subst e; exact hown.lt
 have hmore : ∀ b, more F w0 wk b → more F w0 w' b := fun b h => by
  have := hc.size
  rcases h with h | ⟨h1, h2⟩
  ·exact .inl h
  ·exact .inr ⟨h1, by omega⟩
 have hbK : ∀ b, FK b → o ≠ some b := fun b hf e => hor b e hf
 have hG' : GridIn w' g r rc (up1 rows t e x) ⟨G.w, G.h, (up1 rows t e x).map Row.l⟩ (more FK wk w') := by
  have hmem : ∀ z ∈ up1 rows t e x, z = x ∨ z ∈ rows := fun z hz => by
   rcases List.mem_cons.1 ((up1_perm rows t e x).mem_iff.1 hz) with h | h
   ·exact .inl h
   ·exact .inr ((cut3_sub rows t (t + 1) (e - (t + 1)) e (by omega) (by omega)).subset h)
  have hg := hK.lt _ hK.inF.1
  have hr := hK.lt _ hK.inF.2.1
  have hlen := up1_len (b := x) hte he
  refine ⟨?_, hlen ▸ hbody, ?_, rfl, ⟨hK.ok.1, hK.ok.2.1, ?_, ?_⟩, hK.gr, ?_, ?_, ⟨.inl hK.inF.1, .inl hK.inF.2.1, ?_⟩, fun b hb => (more_ok ⟨r, rc, rows, hK⟩ hc.size b hb).1, fun b hb => (more_ok ⟨r, rc, rows, hK⟩ hc.size b hb).2⟩
  ·rw [hlen]; exact hK.head.ch hc fun h => h.elim (fun e => hK.gr e.symm) (hbK g hK.inF.1)
  ·intro z hz
   rcases hmem z hz with rfl | hz
   ·exact ⟨hl, hn⟩
   ·exact ⟨(hK.line z hz).1.ch hc fun h => h.elim (hK.gb z hz).2 (hbK _ (hK.inF.2.2 z hz)), (hK.line z hz).2⟩
  ·simp only [List.length_map]; rw [hlen]; exact hK.len
  ·intro l hl'
   obtain ⟨z, hz, rfl⟩ := List.mem_map.1 hl'
   rcases hmem z hz with rfl | hz
   ·exact hxl
   ·exact hK.ok.2.2.2 _ (hK.lines ▸ List.mem_map_of_mem hz)
  ·intro z hz
   rcases hmem z hz with rfl | hz
   ·exact ⟨by omega, by omega⟩
   ·exact hK.gb z hz
  ·have hp2 := (up1_perm rows t e x).map Row.b
   rw [hp2.nodup_iff, List.map_cons, List.nodup_cons]
   have hsub := cut3_sub rows t (t + 1) (e - (t + 1)) e (by omega) (by omega)
   refine ⟨fun hx => ?_, (hsub.map Row.b).nodup hK.nodup⟩
   obtain ⟨z, hz, e⟩ := List.mem_map.1 hx
   have := hK.lt _ (hK.inF.2.2 z (hsub.subset hz))
   omega
  ·intro z hz
   rcases hmem z hz with rfl | hz
   ·exact .inr ⟨hb, hl.lt⟩
   ·exact .inl (hK.inF.2.2 z hz)
 have hG2 := hG'.least
 rw [up1_map, hK.lines] at hG2
 have hqn := up1_notin (y := x) hK.nodup hq hte (by have := hK.lt _ (hK.inF.2.2 q hqm); omega)
 refine ⟨_, fun b => K b ∨ b = q.b ∨ o' = some b, hG2, fun b hb => ?_, ⟨hown, ?_, ?_, fun b e => .inr (.inr e), ?_, ?_⟩, ?_, ?_⟩
 ·rcases gridF_sub hG' b hb with h | ⟨h1, h2⟩
  ·exact hmore b (hFK b h)
  ·exact .inr ⟨by omega, h2⟩
 ·intro z hz
  rcases List.mem_append.1 hz with hz | hz
  ·refine ⟨(hO.line z hz).1.ch hc fun h => ?_, (hO.line z hz).2⟩
   rcases h with h | h
   ·exact hap r hK.inF.2.1 (h ▸ hO.inK z hz)
   ·exact own_line_ne hO.own (hO.line z hz).1 h
  ·obtain rfl := List.mem_singleton.1 hz
   exact ⟨(hK.line z hqm).1.ch hc fun h => h.elim (hK.gb z hqm).2 (hbK _ (hK.inF.2.2 z hqm)), (hK.line z hqm).2⟩
 ·intro z hz
  rcases List.mem_append.1 hz with hz | hz
  ·exact .inl (hO.inK z hz)
  ·obtain rfl := List.mem_singleton.1 hz
   exact .inr (.inl rfl)
 ·rintro b (h | rfl | h)
  ·exact Nat.lt_of_lt_of_le (hO.lt b h) hc.size
  ·exact Nat.lt_of_lt_of_le (hK.lt _ (hK.inF.2.2 q hqm)) hc.size
  ·exact hlt' b h
 ·rintro b (h | rfl | h)
  ·exact hO.hi b h
  ·exact hK.hi _ (hK.inF.2.2 q hqm)
  ·rcases ho' with h' | ⟨b', h', h2⟩
   ·exact hO.hi b (hO.oK b (h' ▸ h))
   ·rw [h] at h'; obtain rfl := Option.some.inj h'
    have h3 := hK.hi _ hK.inF.1
    have h4 := hK.lt _ hK.inF.1
    omega
 ·rintro b (h | rfl | h)
  ·exact hmore b (hKm b h)
  ·exact hmore _ (hFK _ (hK.inF.2.2 q hqm))
  ·rcases ho' with h' | ⟨b', h', h2⟩
   ·exact hmore b (hKm b (hO.oK b (h' ▸ h)))
   ·rw [h] at h'; obtain rfl := Option.some.inj h'
    exact .inr ⟨by omega, hlt' b h⟩
 ·have hOb : ∀ b, K b → b < wk.heap.size := hO.lt
  have hold : ∀ b, FK b → o' ≠ some b := fun b hf h => by
   rcases ho' with h' | ⟨b', h', h2⟩
   ·exact hor b (h' ▸ h) hf
   ·rw [h] at h'; obtain rfl := Option.some.inj h'
    have := hK.lt b hf; omega
  rintro b hb hk
  have hcase : FK b ∧ b ≠ q.b ∨ b = x.b := by
   rcases hb with rfl | rfl | ⟨z, hz, rfl⟩
   ·exact .inl ⟨hK.inF.1, fun e => (hK.gb q hqm).1 e.symm⟩
   ·exact .inl ⟨hK.inF.2.1, fun e => (hK.gb q hqm).2 e.symm⟩
   ·rcases List.mem_cons.1 ((up1_perm rows t e x).mem_iff.1 hz) with h | h
    ·exact .inr (h ▸ rfl)
    ·exact .inl ⟨hK.inF.2.2 z ((cut3_sub rows t (t + 1) (e - (t + 1)) e (by omega) (by omega)).subset h), hqn z hz⟩
  rcases hcase with ⟨hf, hne⟩ | rfl
  ·rcases hk with h | h | h
   ·exact hap b hf h
   ·exact hne h
   ·exact hold b hf h
  ·rcases hk with h | h | h
   ·have := hOb _ h; omega
   ·have := hK.lt _ (hK.inF.2.2 q hqm); omega
   ·exact hox h
end Go.Proofs.YteoejhjfbfacdaaGreatDoor.X
namespace Go.Proofs.YteoejhjfbfacdaaGreatDoor.X
open Go Go.RowKit Go.Proofs.YteoejhjfbfacdaaGreatDoor
set_option maxHeartbeats 4000000 in
theorem up_any (g : Nat) (G : Gr) (F : Nat → Prop) (p1 p2 n : Int) (s : Sty) (w : World) (hT : Tables w) (hG0 : GridAt w g G F) : Calls Tryz.prog 136 [pX g, iX p1, iX p2, iX n, .agg #[.bool s.bold, .bool s.under, .bool s.turned, iX s.fore, iX s.back]].toArray w fun e w' =>
    ∃ o n' oc outs F' K', e = .returned (.slice (o.map at0) n' oc) ∧ OutAt w' o n' oc outs K' ∧ outs.map Row.l = outG G p1 p2 n s ∧ GridAt w' g (upG G p1 p2 n s) F' ∧ (∀ b, F' b → more F w w' b) ∧ (∀ b, K' b → more F w w' b) ∧ (∀ b, F' b → ¬ K' b) ∧ Ch F w w' := by
  obtain ⟨r, rc, rows, hG⟩ := hG0
  have hG0 : GridAt w g G F := ⟨r, rc, rows, hG⟩
  obtain ⟨⟨hw1, hw2⟩, ⟨hh1, hh2⟩, hll, hall⟩ := hG.ok
  have hlen := hG.len
  have hgr : Df r g := hG.gr
  have hg7 := hG.hi _ hG.inF.1
  have hr7 := hG.hi _ hG.inF.2.1
  refine yA Tryz.func136 rfl ?_
  refine ysr ?_
  refine yo (yN [.bool s.bold, .bool s.under, .bool s.turned, iX s.fore, iX s.back] 43 fun w10 b11 hb12 hz13 hB14 hc15 => ?_)
  have hlo16 : w.heap.size ≤ b11 := by rw [hb12]; exact Ch.size (Ch.refl (fun j => j = r) w)
  have hu18 := Up.step (Up.refl w.heap.size w) hc15 iZ
  have hB19 := hG.head.ch hc15 id
  have hrow20 := hG.body.ch hc15 (fun b e => by cases e; exact id)
  refine yp 2 [] .z ?_
  refine ye ?_
  refine ysr ?_
  refine yp 4 [] .z ?_
  refine yo (yC (some_any' g G p1 p2 n _ hB19 hh1 hh2) ?_)
  rintro _ w23 ⟨t, e2, m, rfl, ht, he, hm, hc22⟩
  refine ⟨_, rfl, ?_⟩
  have hu25 := Up.step hu18 hc22 iZ
  have hB29 := hB14.ch hc22 id
  obtain ⟨⟨t1, t2⟩, ⟨t3, t4⟩, ⟨t5, t6⟩⟩ := some_bd G p1 p2 n (by omega) ht he hm
  refine yp 12 [] .z ?_
  refine ye ?_
  refine ysr ?_
  refine yp 1 [] .z ?_
  refine ye ?_
  refine ys ?_
  refine ysr ?_
  refine yp 2 [] .z ?_
  refine ye ?_
  refine x_block ?_
  refine ykeep [0, 1, 2, 9, 11, 21, 22] (f' := [(0, pX g), (1, iX t), (2, iX e2), (9, pX b11), (11, .slice none 0 0), (21, iX m), (22, iX 0)]) ?_
  refine x_loop (σ := Nat × Option Nat × Nat) (fun ⟨k, o, oc⟩ => [(0, pX g), (1, iX t), (2, iX e2), (9, pX b11), (11, .slice (o.map at0) k oc), (21, iX m), (22, iX ((k : Nat) : Int))]) (fun ⟨k, o, oc⟩ u => k ≤ m.toNat ∧ (∀ b, o = some b → w23.heap.size ≤ b) ∧ Ch (fun j => j = r) w23 u ∧ ∃ rowsK outs FK K0, GridIn u g r rc rowsK (Gr.mk G.w G.h (upN t.toNat e2.toNat (List.replicate G.w.toNat (blankC s)) k G.lines)) FK ∧ (∀ b, FK b → more F w u b) ∧ OutAt u o k oc outs K0 ∧ (∀ b, K0 b → more F w u b) ∧ (∀ b, FK b → ¬ K0 b) ∧ outs.map Row.l = outsN t.toNat e2.toNat (List.replicate G.w.toNat (blankC s)) k G.lines) (fun ⟨k, o, oc⟩ => m.toNat - k) (0, none, 0) rfl ?_ ?_
  · exact ⟨Nat.zero_le _, (fun b e => by cases e), Ch.refl _ _, rows, [], F, (fun _ => False), hG.ch (Up.ch hu25) iZ, (fun _ h => .inl h), OutAt.nil _, (fun _ h => h.elim), iZ, rfl⟩
  · intro p w30 hI31 K32 hL33
    obtain ⟨k, o, oc⟩ := p
    obtain ⟨hk, ho, hc34, rowsK, outs, FK, K0, hK, hFK, hO, hKm, hap, hol⟩ := hI31
    have hB37 := hB29.ch hc34 (fun (h : b11 = r) => by have := hG.body.lt; omega)
    have hszw : w.heap.size ≤ w30.heap.size := Nat.le_trans (Ch.size hu25) (Ch.size hc34)
    have hszk : w23.heap.size ≤ w30.heap.size := Ch.size hc34
    have hlenK : rowsK.length = G.h.toNat := hK.len
    have hrcK : rowsK.length ≤ rc := hK.body.2.1
    have hog : ¬ o = some g := fun e => hap _ hK.inF.1 (hO.oK _ e)
    have hor : ¬ o = some r := fun e => hap _ hK.inF.2.1 (hO.oK _ e)
    have hoy38 : ¬ o = some b11 := fun e => by have := ho _ e; have := hB29.lt; omega
    refine ysr ?_
    refine yp 1 [] .z ?_
    refine ye ?_
    refine ys ?_
    refine yc (rL ((k : Nat) : Int) m) (fun hC39 => ?_) fun hC39 => ?_
    · obtain ⟨q, hxs⟩ := row_some hK (y := t) t1 (show t < G.h by omega)
      refine yk ?_
      refine ys ?_
      refine x_block ?_
      refine ysr ?_
      refine yp 8 [] (.l (hK.head.c 2) (.i t (rowsK.length) (.l (row_cell hK.body hxs) .z))) ?_
      refine yo (yB [.slice (some ⟨q.b, 0, none⟩) q.n q.cap] 85 1 fun w40 b41 hb42 hz43 hB44 hc45 => ?_)
      have hlo46 : w30.heap.size ≤ b41 := by rw [hb42]; exact Ch.size (Ch.refl (fun j => j = r ∨ o = some j) w30)
      have hS47 := Ch.trans (Ch.refl (fun j => j = r ∨ o = some j) w30) hc45 eZ
      have hB49 := hB37.ch hc45 id
      have hB50 := hK.head.ch hc45 id
      have hv51 := hK.body.ch hc45 (fun b e => by cases e; exact id)
      have ho52 := hO.own.ch hc45 iZ
      refine yo (e_app' 85 1 24 o k oc (outs.map Row.val) (some ⟨b41, 0, none⟩) 1 1 [Row.val q] (some 33) (k + 1) rfl ((outs ++ [q]).map Row.val) (by rw [List.map_append]; rfl) (by kernel_rfl) ho52 (Rd.all hB44) rfl rfl (fun h => by cases h) (by constructor <;> first | omega | (simp only [maxLen]; omega)) ?_)
      intro w53 og54 cp55 hO56 hne57 hpos58 hc59
      obtain ⟨o60, rfl⟩ : ∃ b, og54 = some b := hpos58 (by omega)
      have hd61 : Df b11 o60 := app_ne hne57 (fun e => hoy38 e) hB49.lt
      have hd62 : Df g o60 := app_ne hne57 (fun e => hog e) hB50.lt
      have hd63 : Df r o60 := app_ne hne57 (fun e => hor e) hv51.lt
      have hS64 := Ch.trans hS47 hc59 (fun _ _ h => .inr h)
      have hB66 := hB49.ch hc59 hoy38
      have hB67 := hB50.ch hc59 hog
      have hv68 := hv51.ch hc59 (fun b e => by cases e; exact hor)
      refine yp 11 [] .z ?_
      refine ye ?_
      refine ys ?_
      refine yD [16] fun w69 hH70 hc71 => ?_
      have hS72 := Ch.trans hS64 hc71 eZ
      have hB74 := hB66.ch hc71 id
      have hB75 := hB67.ch hc71 id
      have hv76 := hv68.ch hc71 (fun b e => by cases e; exact id)
      have ho77 := hO56.ch hc71 iZ
      refine yd (uL 0 16) [] (.l (hB75.c 2) (.q6 (e2 - 1) (.j (e2 - 1) (rc) (.j t (((e2 - 1) : Int).toNat) (.l (hB75.c 2) (.q6 (t + 1) (.j e2 (rc) (.j (t + 1) ((e2 : Int).toNat) .z)))))))) ?_
      obtain ⟨rr81, hrr82, hbb83⟩ := hv76.2.2.2.2 _ rfl
      have hyl85 : ((((rowsK.map Row.val).drop (t.toNat + 1)).take (e2.toNat - 1 - t.toNat))).length = e2.toNat - 1 - t.toNat := by rw [List.length_take, List.length_drop, List.length_map]; omega
      have hd1 : (t : Int).toNat = t.toNat := by omega
      have hd2 : ((t + 1) : Int).toNat = (t.toNat + 1) := by omega
      refine yK 16 (e_copy' 1 r (if rc = (t : Int).toNat then 0 else 0 + (t : Int).toNat * 1) ((((e2 - 1) : Int).toNat - (t : Int).toNat)) ((rc - (t : Int).toNat)) (some ⟨r, if rc = ((t + 1) : Int).toNat then 0 else 0 + ((t + 1) : Int).toNat * 1, none⟩) (((e2 : Int).toNat - ((t + 1) : Int).toNat)) ((rc - ((t + 1) : Int).toNat)) (((rowsK.map Row.val).drop (t.toNat + 1)).take (e2.toNat - 1 - t.toNat)) (some 50) (e2.toNat - 1 - t.toNat) (by omega) (by kernel_rfl) hbb83 (by rw [hd2]; exact own_from hv76 (by omega)) (by rw [hyl85]; omega) (row_ones _ _ _) (by rw [hd1]; exact own_fit hv76 (by rw [hyl85]; omega)) ?_)
      intro w78 hB79 hc80
      rw [hd1] at hB79
      have hv84 := own_copy hv76 hrr82 (by rw [hyl85]; omega) hB79
      have hS86 := Ch.trans hS72 hc80 (fun i hi (h : i = r) => .inl h)
      have hB88 := hB74.ch hc80 (fun (h : b11 = r) => by have := hG.body.lt; omega)
      have hB89 := hB75.ch hc80 (fun h => hgr h.symm)
      have ho90 := ho77.ch hc80 (fun b e => by cases e; exact (fun h => hd63 h.symm))
      refine x_killed ?_
      refine yDe (nS ?_)
      refine yDC [13] fun w91 hH92 hc93 => ?_
      have hS94 := Ch.trans hS86 hc93 eZ
      have hB96 := hB88.ch hc93 id
      have hB97 := hB89.ch hc93 id
      have ho98 := ho90.ch hc93 iZ
      have hv99 := hv84.ch hc93 (fun b e => by cases e; exact id)
      refine ydC (uL 0 11) [] (fun u hu => (.l (cell_ch hu (hB97.c 2) id) (.q6 (e2 - 1) (.l (cell_ch hu (hB97.c 0) id) (.a (cellsC_ch hu (hB96.cs 0 5) id) .z))))) ?_
      refine yH 11 (yC (blanks_any G.w s _ hw1 hw2) ?_)
      rintro _ w105 ⟨g100, rfl, hl102, hlo103, hc104⟩
      refine ⟨_, rfl, ?_⟩
      have hlo103w : w30.heap.size ≤ g100 := Nat.le_trans (Ch.size hS94) hlo103
      have hd106 : Df b11 g100 := (show ¬ b11 = g100 by have := hB96.lt; omega)
      have hd107 : Df g g100 := (show ¬ g = g100 by have := hB97.lt; omega)
      have hd108 : Df o60 g100 := (show ¬ o60 = g100 by have := ho98.lt; omega)
      have hd109 : Df r g100 := (show ¬ r = g100 by have := hv99.lt; omega)
      have hS110 := Ch.trans hS94 hc104 eZ
      have ho114 := ho98.ch hc104 iZ
      have hv115 := hv99.ch hc104 (fun b e => by cases e; exact id)
      refine x_heldC hc104 ?_
      refine ydC [12] [] (fun u hu => (.i (e2 - 1) (rowsK.length) .z)) ?_
      obtain ⟨rr119, hrr120, hbb121⟩ := hv115.2.2.2.2 _ rfl
      have hd3 : ((e2 - 1) : Int).toNat = (e2.toNat - 1) := by omega
      refine yK 13 (e_store (0 + ((e2 - 1) : Int).toNat * 1) [Row.val (Row.mk g100 (G.w : Int).toNat (G.w : Int).toNat (List.replicate (G.w : Int).toNat (blankC s)))] none (by kernel_rfl) hbb121 (by rw [hd3]; exact own_setfit hv115 (by omega)) ?_)
      intro w116 hB117 hc118
      rw [hd3] at hB117
      have hv122 := own_set hv115 hrr120 (by omega) hB117
      rw [up1_of _ _ _ _ (by omega) (by rw [List.length_map]; omega), ← up1_map] at hv122
      have hS123 := Ch.trans hS110 hc118 (fun i hi (h : i = r) => .inl h)
      have ho127 := ho114.ch hc118 (fun b e => by cases e; exact (fun h => hd63 h.symm))
      have hl128 := hl102.ch hc118 (fun h => hd109 h.symm)
      refine x_killed ?_
      refine yDe (nB (nS ?_))
      refine x_region ?_
      refine yp 2 [] (.q6 (((k : Nat) : Int) + 1) .z) ?_
      obtain ⟨FK', K', q1, q2, q3, q4, q5⟩ := up_round (x := (Row.mk g100 (G.w : Int).toNat (G.w : Int).toNat (List.replicate (G.w : Int).toNat (blankC s)))) hG0 hszw hK hFK hO hKm hap hxs (show t.toNat < e2.toNat by omega) (by omega) hS123 hv122 hl128 hlo103w (by rw [List.length_replicate]) (by rw [List.length_replicate]) ho127 (hne57.imp id fun ⟨b, e, h⟩ => ⟨b, e, Nat.le_trans (Ch.size hS47) h⟩) (fun e => hd108 (Option.some.inj e))
      have ho2 : ∀ b, some o60 = some b → w23.heap.size ≤ b := fun b e => by
        rcases hne57 with h | ⟨b', h, h'⟩
        · exact ho b (h ▸ e)
        · have e1 := Option.some.inj e; have e2 := Option.some.inj h; have := Ch.size hS47; omega
      have hol2 : (outs ++ [q]).map Row.l = outsN t.toNat e2.toNat (List.replicate G.w.toNat (blankC s)) (k + 1) G.lines := by rw [List.map_append, hol]; exact congrArg (fun z => _ ++ [z]) (row_line hK hxs).1
      refine yE (fun a ha => hL33 (k + 1, some o60, cp55) _ ⟨by omega, ho2, Ch.trans hc34 hS123 (fun i hi h => h.elim id (fun e => by have := ho _ e; omega)), _, _, FK', K', q1, q2, q3, q4, q5, hol2⟩ (by show m.toNat - (k + 1) < m.toNat - k; omega) a (ha.kp [0, 1, 2, 9, 11, 21, 22]))
    · have hkn : k = m.toNat := by omega
      refine x_exit (eS (then_exit (block_exit (nS ?_))))
      refine ysr ?_
      refine yp 2 [] .z ?_
      refine ye ?_
      refine x_ret (yR1 (.slice (o.map at0) k oc) ?_)
      exact ⟨o, k, oc, outs, FK, K0, rfl, hO, (by unfold outG topI cntI topI; rw [← ht, ← he, ← hm, ← hkn]; exact hol), ⟨r, rc, rowsK, (by show GridIn _ g r rc rowsK (upG G p1 p2 n s) _; unfold upG topI cntI topI; rw [← ht, ← he, ← hm, ← hkn]; exact hK)⟩, hFK, hKm, hap, Ch.trans ((Up.ch hu25).mono eZ) hc34 (fun i _ h => h ▸ hG.inF.2.1)⟩
end Go.Proofs.YteoejhjfbfacdaaGreatDoor.X
namespace Go.Proofs.YteoejhjfbfacdaaGreatDoor.X
open Go Go.RowKit Go.Proofs.YteoejhjfbfacdaaGreatDoor
structure NewRows (wb w : World) (o : Option Nat) (n cap : Nat) (rows : List Row) (W : Int) : Prop where
 out : OutAt w o n cap rows (fun b => wb.heap.size ≤ b ∧ b < w.heap.size)
 nodup : (rows.map Row.b).Nodup
 wide : ∀ x ∈ rows, x.l.length = W.toNat
theorem NewRows.nil {w : World} (W : Int) : NewRows w w none 0 0 [] W :=
 ⟨⟨Own.nil _ _ _, (fun x hx => by cases hx), (fun x hx => by cases hx), (fun b e => by cases e), (fun b h => by omega), (fun b h => by omega)⟩, by simp, (fun x hx => by cases hx)⟩
theorem NewRows.lo {wb w : World} {o : Option Nat} {n cap : Nat} {rows : List Row} {W : Int} (h : NewRows wb w o n cap rows W) : ∀ b, o = some b → wb.heap.size ≤ b := fun b e => (h.out.oK b e).1
theorem new_round {wb wk w' : World} {o o' : Option Nat} {k oc oc' : Nat} {rows : List Row} {W : Int} {x : Row} {S : Nat → Prop} (h : NewRows wb wk o k oc rows W) (h7 : gTop ≤ wb.heap.size) (hs : wb.heap.size ≤ wk.heap.size)
  (hc : Ch S wk w') (hS : ∀ b, S b → b < wb.heap.size ∨ o = some b) (hl : LineAt w' x.b x.l x.cap) (hb : wk.heap.size ≤ x.b) (hxl : x.l.length = W.toNat) (hn : x.l.length = x.n)
  (hown : Own w' tLine 1 o' (k + 1) oc' ((rows ++ [x]).map Row.val)) (ho' : o' = o ∨ ∃ b, o' = some b ∧ wk.heap.size ≤ b) : NewRows wb w' o' (k + 1) oc' (rows ++ [x]) W := by
 have hsz := hc.size
 have hlt' : ∀ b, o' = some b → b < w'.heap.size := fun b e => by subst e; exact hown.lt
 refine ⟨⟨hown, ?_, ?_, ?_, fun b h => h.2, fun b h => by omega⟩, ?_, ?_⟩
 ·intro z hz
  rcases List.mem_append.1 hz with hz | hz
  ·have hk := h.out.inK z hz
   refine ⟨(h.out.line z hz).1.ch hc fun hs' => ?_, (h.out.line z hz).2⟩
   rcases hS _ hs' with h1 | h1
   ·omega
   ·exact own_line_ne h.out.own (h.out.line z hz).1 h1
  ·obtain rfl := List.mem_singleton.1 hz
   exact ⟨hl, hn⟩
 ·intro z hz
  rcases List.mem_append.1 hz with hz | hz
  ·have := h.out.inK z hz; omega
  ·obtain rfl := List.mem_singleton.1 hz
   exact ⟨by omega, hl.lt⟩
 ·intro b e
  have := hlt' b e
  rcases ho' with h' | ⟨b', h', h2⟩
  ·have := h.lo b (h' ▸ e); omega
  ·rw [e] at h'; obtain rfl := Option.some.inj h'; omega
 ·rw [List.map_append, List.nodup_append]
  refine ⟨h.nodup, by simp, fun a ha b hb e => ?_⟩
  obtain ⟨z, hz, rfl⟩ := List.mem_map.1 ha
  simp only [List.map_cons, List.map_nil, List.mem_singleton] at hb
  have := (h.out.inK z hz).2
  omega
 ·intro z hz
  rcases List.mem_append.1 hz with hz | hz
  ·exact h.wide z hz
  ·obtain rfl := List.mem_singleton.1 hz; exact hxl
theorem NewRows.grid {wb w : World} {r cap g n : Nat} {rows : List Row} {W H : Int} {F : Nat → Prop} (h : NewRows wb w (some r) n cap rows W) (hg : Blk w g [.int .i64 W, .int .i64 H, .slice (some ⟨r, 0, none⟩) n cap] tGrid) (hgb : g < wb.heap.size)
  (hW : 1 ≤ W ∧ W ≤ 60) (hH : 1 ≤ H ∧ H ≤ 60) (hn : n = H.toNat) (hFg : F g) (hF : ∀ b, wb.heap.size ≤ b ∧ b < w.heap.size → F b) (hok : ∀ b, F b → b < w.heap.size ∧ gTop ≤ b) : GridIn w g r cap rows ⟨W, H, rows.map Row.l⟩ F := by
 have hlen := h.out.len
 have hr := (h.out.oK r rfl)
 refine ⟨by rw [hlen]; exact hg, by rw [hlen]; exact h.out.own, h.out.line, rfl, ⟨hW, hH, ?_, ?_⟩, ?_, ?_, h.nodup, ⟨hFg, hF r hr, fun x hx => hF _ (h.out.inK x hx)⟩, fun b hb => (hok b hb).1, fun b hb => (hok b hb).2⟩
 ·show (rows.map Row.l).length = _
  rw [List.length_map, hlen, hn]
 ·intro l hl
  obtain ⟨x, hx, rfl⟩ := List.mem_map.1 hl
  exact h.wide x hx
 ·intro e; subst e; omega
 ·intro x hx
  have := h.out.inK x hx
  refine ⟨by omega, fun e => ?_⟩
  exact own_line_ne h.out.own (h.out.line x hx).1 (e ▸ rfl)
theorem NewRows.some {wb w : World} {o : Option Nat} {n cap : Nat} {rows : List Row} {W : Int} (h : NewRows wb w o n cap rows W) (hn : 0 < n) : ∃ r, o = some r := by
 cases o with
 | none => have := (h.out.own.2.2.2.1 rfl).1; omega
 | some r => exact ⟨r, rfl⟩
def newG (w h : Int) : Gr := ⟨sideI w, sideI h, List.replicate (sideI h).toNat (List.replicate (sideI w).toNat (blankC sty0))⟩
def fitL (l : List Cel) (w : Int) : List Cel := if w ≤ (l.length : Nat) then mend (l.take w.toNat) else l ++ List.replicate (w - (l.length : Nat)).toNat (blankC sty0)
theorem gtop_le {w : World} {g : Nat} {G : Gr} {F : Nat → Prop} (h : GridAt w g G F) : gTop ≤ w.heap.size := by
 have h1 := h.hi g h.inF
 have h2 := h.glt
 omega
theorem rd_take {w : World} {a : Option Addr} {l : List Cel} (h : Rd w a (flat l)) (k : Nat) : Rd w a (flat (l.take k)) :=
 ⟨fun e => by
  have := h.1 e
  rw [← flat_take, this]; simp, fun ad e j u hj => h.2 ad e j u (by
   rw [← flat_take, List.getElem?_take] at hj
   split at hj
   ·exact hj
   ·cases hj)⟩
end Go.Proofs.YteoejhjfbfacdaaGreatDoor.X
namespace Go.Proofs.YteoejhjfbfacdaaGreatDoor.X
open Go Go.RowKit Go.Proofs.YteoejhjfbfacdaaGreatDoor
set_option maxHeartbeats 4000000 in
theorem new_any (p1 p2 : Int) (w : World) (hT : Tables w) (h7 : gTop ≤ w.heap.size) : Calls Tryz.prog 42 [iX p1, iX p2].toArray w fun e w' =>
    ∃ g F, e = .returned (pX g) ∧ GridAt w' g (newG p1 p2) F ∧ (∀ b, F b → w.heap.size ≤ b) ∧ Ch (fun _ => False) w w' := by
  have hs1 : 1 ≤ sideI p1 ∧ sideI p1 ≤ 60 := by unfold sideI; omega
  have hs2 : 1 ≤ sideI p2 ∧ sideI p2 ≤ 60 := by unfold sideI; omega
  refine yA Tryz.func42 rfl ?_
  refine ysr ?_
  refine yp 1 [] .z ?_
  refine ye ?_
  refine ysr ?_
  refine yp 1 [] .z ?_
  refine yo (yQ (bring_any p1 _) fun w11 hc10 => ?_)
  have hu12 := Up.step (Up.refl w.heap.size w) hc10 iZ
  refine yp 3 [] .z ?_
  refine yo (yQ (bring_any p2 _) fun w15 hc14 => ?_)
  have hu16 := Up.step hu12 hc14 iZ
  refine yp 5 [] .z ?_
  refine yo (yN [iX (sideI p1), iX (sideI p2), .slice none 0 0] 58 fun w18 b19 hb20 hz21 hB22 hc23 => ?_)
  have hlo24 : w.heap.size ≤ b19 := by rw [hb20]; exact Ch.size hu16
  have hu25 := Up.step hu16 hc23 iZ
  refine yp 7 [] .z ?_
  refine ye ?_
  refine ys ?_
  refine ysr ?_
  refine yp 5 [] (.l (hB22.c 1) .z) ?_
  refine ye ?_
  refine x_block ?_
  refine ykeep [5, 15, 16] (f' := [(5, pX b19), (15, iX (sideI p2)), (16, iX 0)]) ?_
  refine x_loop (σ := Nat × Option Nat × Nat) (fun ⟨k, o, oc⟩ => [(5, pX b19), (15, iX (sideI p2)), (16, iX ((k : Nat) : Int))]) (fun ⟨k, o, oc⟩ u => k ≤ (sideI p2).toNat ∧ Ch (fun j => j = b19) w18 u ∧ ∃ rows, Blk u b19 [iX (sideI p1), iX (sideI p2), .slice (o.map at0) k oc] tGrid ∧ NewRows w18 u o k oc rows (sideI p1) ∧ rows.map Row.l = List.replicate k (List.replicate (sideI p1).toNat (blankC sty0))) (fun ⟨k, o, oc⟩ => (sideI p2).toNat - k) (0, none, 0) rfl ?_ ?_
  · exact ⟨Nat.zero_le _, Ch.refl _ _, [], hB22, NewRows.nil _, rfl⟩
  · intro p w27 hI28 K29 hL30
    obtain ⟨k, o, oc⟩ := p
    obtain ⟨hk, hc31, rows, hB, hN, hrl⟩ := hI28
    have hu32 := Up.step hu25 hc31 (fun i hi (h : i = b19) => by omega)
    have hszw : w.heap.size ≤ w18.heap.size := Ch.size hu25
    have hszk : w18.heap.size ≤ w27.heap.size := Ch.size hc31
    have hgb : b19 < w18.heap.size := hB22.lt
    refine ysr ?_
    refine yp 1 [] .z ?_
    refine ye ?_
    refine ys ?_
    refine yc (rL ((k : Nat) : Int) (sideI p2)) (fun hC34 => ?_) fun hC34 => ?_
    · refine yk ?_
      refine ys ?_
      refine x_block ?_
      refine yDC [12, 15] fun w35 hH36 hc37 => ?_
      have hu38 := Up.step hu32 hc37 iZ
      have hL39 := Ch.trans hc31 hc37 eZ
      have hR40 := Ch.trans (Ch.refl (fun j => j = b19 ∨ o = some j) w27) hc37 eZ
      have hB42 := hB.ch hc37 id
      have ho43 := hN.out.own.ch hc37 iZ
      refine ydC (uL 0 10) [] (fun u hu => (.l (cell_ch hu (hB42.c 2) id) (.l (cell_ch hu (hB42.c 0) id) .z))) ?_
      refine yH 10 (yC (blanks_any (sideI p1) sty0 _ (by omega) (by omega)) ?_)
      rintro _ w49 ⟨g44, rfl, hl46, hlo47, hc48⟩
      refine ⟨_, rfl, ?_⟩
      have hlo47w : w27.heap.size ≤ g44 := Nat.le_trans (Ch.size hR40) hlo47
      have hlo47l : w18.heap.size ≤ g44 := Nat.le_trans (Ch.size hL39) hlo47
      have hd50 : Df b19 g44 := (show ¬ b19 = g44 by have := hB42.lt; omega)
      have hu51 := Up.step hu38 hc48 iZ
      have hL52 := Ch.trans hL39 hc48 eZ
      have hR53 := Ch.trans hR40 hc48 eZ
      have hB55 := hB42.ch hc48 id
      have ho56 := ho43.ch hc48 iZ
      refine x_heldC hc48 ?_
      refine yH 11 (yB [.slice (some ⟨g44, 0, none⟩) ((sideI p1) : Int).toNat ((sideI p1) : Int).toNat] 85 1 fun w57 b58 hb59 hz60 hB61 hc62 => ?_)
      have hlo63 : w.heap.size ≤ b58 := by rw [hb59]; exact Ch.size hu51
      have hlo63l : w18.heap.size ≤ b58 := by rw [hb59]; exact Ch.size hL52
      have hlo63r : w27.heap.size ≤ b58 := by rw [hb59]; exact Ch.size hR53
      have hL65 := Ch.trans hL52 hc62 eZ
      have hR66 := Ch.trans hR53 hc62 eZ
      have hB68 := hB55.ch hc62 id
      have ho69 := ho56.ch hc62 iZ
      have hl70 := hl46.ch hc62 id
      refine x_heldC hc62 ?_
      refine yK 12 (e_app' 85 1 24 o k oc (rows.map Row.val) (some ⟨b58, 0, none⟩) 1 1 [Row.val (Row.mk g44 ((sideI p1) : Int).toNat ((sideI p1) : Int).toNat (List.replicate ((sideI p1) : Int).toNat (blankC sty0)))] (some 30) (k + 1) rfl ((rows ++ [(Row.mk g44 ((sideI p1) : Int).toNat ((sideI p1) : Int).toNat (List.replicate ((sideI p1) : Int).toNat (blankC sty0)))]).map Row.val) (by rw [List.map_append]; rfl) (by kernel_rfl) ho69 (Rd.all hB61) rfl rfl (fun h => by cases h) (by constructor <;> first | omega | (simp only [maxLen]; omega)) ?_)
      intro w71 og72 cp73 hO74 hne75 hpos76 hc77
      obtain ⟨o78, rfl⟩ : ∃ b, og72 = some b := hpos76 (by omega)
      have hoy79 : ¬ o = some b19 := fun e => by have := hN.lo _ e; have := hB22.lt; omega
      have hoy80 : ¬ o = some g44 := own_line_ne ho69 hl70
      have hd81 : Df b19 o78 := app_ne hne75 (fun e => hoy79 e) hB68.lt
      have hd82 : Df g44 o78 := app_ne hne75 (fun e => hoy80 e) hl70.lt
      have hL84 := Ch.trans hL65 hc77 (fun i hi h => by have := hN.lo _ h; omega)
      have hR85 := Ch.trans hR66 hc77 (fun _ _ h => .inr h)
      have hB87 := hB68.ch hc77 hoy79
      have hl88 := hl70.ch hc77 hoy80
      refine x_killed ?_
      refine yd [13, 14] [] .z ?_
      refine yK 15 (yS hB87 fun w89 hB90 hc91 => ?_)
      have hL93 := Ch.trans hL84 hc91 iZ
      have hR94 := Ch.trans hR85 hc91 (fun i _ (h : i = b19) => .inl h)
      have hl96 := hl88.ch hc91 (fun h => hd50 h.symm)
      have ho97 := hO74.ch hc91 (fun b e => by cases e; exact (fun h => hd81 h.symm))
      replace hB90 : Blk w89 b19 [iX (sideI p1), iX (sideI p2), .slice (some ⟨o78, 0, none⟩) (k + 1) cp73] _ := Blk.to hB90 (by kernel_rfl)
      refine x_killed ?_
      refine yDe (nB (nS ?_))
      refine x_region ?_
      refine yp 2 [] (.q6 (((k : Nat) : Int) + 1) .z) ?_
      have hN2 := new_round (x := (Row.mk g44 ((sideI p1) : Int).toNat ((sideI p1) : Int).toNat (List.replicate ((sideI p1) : Int).toNat (blankC sty0)))) hN (by omega) hszk hR94 (fun b h => h.imp (fun e => by omega) id) hl96 hlo47w (by rw [List.length_replicate]) (by rw [List.length_replicate]) ho97 (hne75.imp id fun ⟨b, e, h⟩ => ⟨b, e, Nat.le_trans (Ch.size hR66) h⟩)
      have hrl2 : (rows ++ [(Row.mk g44 ((sideI p1) : Int).toNat ((sideI p1) : Int).toNat (List.replicate ((sideI p1) : Int).toNat (blankC sty0)))]).map Row.l = List.replicate (k + 1) (List.replicate (sideI p1).toNat (blankC sty0)) := by rw [List.map_append, hrl, List.replicate_succ']; rfl
      refine yE (fun a ha => hL30 (k + 1, some o78, cp73) _ ⟨by omega, hL93, _, hB90, hN2, hrl2⟩ (by show (sideI p2).toNat - (k + 1) < (sideI p2).toNat - k; omega) a (ha.kp [5, 15, 16]))
    · have hkn : k = (sideI p2).toNat := by omega
      obtain ⟨r, rfl⟩ := hN.some (by omega)
      refine x_exit (eS (then_exit (block_exit (nS ?_))))
      refine ysr ?_
      refine yp 2 [] .z ?_
      refine ye ?_
      refine x_ret (yR1 (pX b19) ?_)
      have hfin := hN.grid (F := fun b => w.heap.size ≤ b ∧ b < w27.heap.size) hB hgb hs1 hs2 hkn ⟨by omega, by omega⟩ (fun b h => ⟨by omega, h.2⟩) (fun b h => ⟨h.2, by omega⟩)
      rw [hrl, hkn] at hfin
      exact ⟨b19, _, rfl, ⟨r, oc, rows, hfin⟩, (fun _ h => h.1), Ch.trans (Up.ch hu25) hc31 (fun i hi (h : i = b19) => by omega)⟩
end Go.Proofs.YteoejhjfbfacdaaGreatDoor.X
namespace Go.Proofs.YteoejhjfbfacdaaGreatDoor.X
open Go Go.RowKit Go.Proofs.YteoejhjfbfacdaaGreatDoor
set_option maxHeartbeats 4000000 in
theorem fit_any (b n cap : Nat) (l : List Cel) (p : Int) (w : World) (hT : Tables w) (hr : Rd w (some ⟨b, 0, none⟩) (flat l)) (hb : b < w.heap.size) (hn : l.length = n) (hcap : n ≤ cap) (hnb : n ≤ 60) (hp : 1 ≤ p ∧ p ≤ 60) : Calls Tryz.prog 110 [.slice (some ⟨b, 0, none⟩) n cap, iX p].toArray w fun e w' =>
    ∃ g cap', e = .returned (.slice (some ⟨g, 0, none⟩) (max p 0).toNat cap') ∧ LineAt w' g (fitL l (max p 0)) cap' ∧ w.heap.size ≤ g ∧ Ch (fun _ => False) w w' := by
  refine yA Tryz.func110 rfl ?_
  refine ysr ?_
  refine yp 1 [] .z ?_
  refine ye ?_
  refine ysr ?_
  refine yp 3 [] .z ?_
  refine ye ?_
  refine ys ?_
  refine ysr ?_
  refine yp 4 [] .z ?_
  refine ye ?_
  refine yc (rM (max (p : Int) 0) ((n : Nat) : Int)) (fun hC10 => ?_) fun hC10 => ?_
  · have hcmp := hC10
    refine ysr ?_
    refine yp 3 [] (.j (max (p : Int) 0) (cap) .z) ?_
    refine yo (yC (mend_any b ((max (p : Int) 0) : Int).toNat cap (l.take (max (p : Int) 0).toNat) _ hT (rd_take hr _) (Nat.lt_of_lt_of_le hb (Ch.size (Up.refl w.heap.size w))) (by rw [List.length_take]; omega) (by omega)) ?_)
    rintro _ w16 ⟨g11, cp12, rfl, hl13, hlo14, hc15⟩
    refine ⟨_, rfl, ?_⟩
    have hlo14w : w.heap.size ≤ g11 := Nat.le_trans (Ch.size (Up.refl w.heap.size w)) hlo14
    have hd17 : Df b g11 := (show ¬ b = g11 by have := (Nat.lt_of_lt_of_le hb (Ch.size (Up.refl w.heap.size w))); omega)
    have hu18 := Up.step (Up.refl w.heap.size w) hc15 iZ
    refine yp 5 [] .z ?_
    refine ye ?_
    refine x_ret (rS (yR1 (.slice (some ⟨g11, 0, none⟩) ((max (p : Int) 0) : Int).toNat cp12) ?_))
    rw [show fitL l (max (p : Int) 0) = mend (l.take (max (p : Int) 0).toNat) from if_pos (by omega)]
    exact ⟨g11, cp12, rfl, hl13, hlo14w, Up.ch hu18⟩
  · have hcmp := hC10
    refine yk ?_
    refine ysr ?_
    refine yp 1 [] .z ?_
    refine yo (yC (clone_any b n cap l _ hr (Nat.lt_of_lt_of_le hb (Ch.size (Up.refl w.heap.size w))) hn (by omega)) ?_)
    rintro _ w26 ⟨g21, cp22, rfl, hl23, hlo24, hc25⟩
    refine ⟨_, rfl, ?_⟩
    have hlo24w : w.heap.size ≤ g21 := Nat.le_trans (Ch.size (Up.refl w.heap.size w)) hlo24
    have hd27 : Df b g21 := (show ¬ b = g21 by have := (Nat.lt_of_lt_of_le hb (Ch.size (Up.refl w.heap.size w))); omega)
    have hu28 := Up.step (Up.refl w.heap.size w) hc25 iZ
    refine yp 7 [] (.q6 ((max (p : Int) 0) - ((n : Nat) : Int)) .z) ?_
    refine yo (yC (blanks_any ((max (p : Int) 0) - ((n : Nat) : Int)) sty0 _ (by omega) (by omega)) ?_)
    rintro _ w36 ⟨g31, rfl, hl33, hlo34, hc35⟩
    refine ⟨_, rfl, ?_⟩
    have hlo34w : w.heap.size ≤ g31 := Nat.le_trans (Ch.size hu28) hlo34
    have hd37 : Df b g31 := (show ¬ b = g31 by have := (Nat.lt_of_lt_of_le hb (Ch.size hu28)); omega)
    have hd38 : Df g21 g31 := (show ¬ g21 = g31 by have := hl23.lt; omega)
    have hu39 := Up.step hu28 hc35 iZ
    have hl42 := hl23.ch hc35 id
    refine yo (e_app' 61 6 32 (some g21) n cp22 (flat l) (some ⟨g31, 0, none⟩) (((max (p : Int) 0) - ((n : Nat) : Int)) : Int).toNat (((max (p : Int) 0) - ((n : Nat) : Int)) : Int).toNat (flat (List.replicate (((max (p : Int) 0) - ((n : Nat) : Int)) : Int).toNat (blankC sty0))) (some 23) (max (p : Int) 0).toNat (by omega) (flat (l ++ (List.replicate ((max (p : Int) 0) - ((n : Nat) : Int)).toNat (blankC sty0)))) (flat_app _ _).symm (by kernel_rfl) (by rw [← hn]; exact hl42) hl33.rd (by rw [flat_len, List.length_replicate]) (by first | rfl | exact flat_one_cells _) (fun h => by cases h) (by constructor <;> (first | omega | (simp only [maxLen]; omega))) ?_)
    intro w43 og44 cp45 hO46 hne47 hpos48 hc49
    obtain ⟨g50, rfl⟩ : ∃ g, og44 = some g := by rcases hne47 with h | ⟨g, h, _⟩ <;> exact ⟨_, h⟩
    have hd51 : Df b g50 := app_ne hne47 (fun h => hd27 (Option.some.inj h).symm) (Nat.lt_of_lt_of_le hb (Ch.size hu39))
    have hd52 : Df g31 g50 := app_ne hne47 (fun h => (fun h => hd38 h.symm) (Option.some.inj h).symm) hl33.lt
    replace hc49 := ch_some hc49
    have hu53 := Up.step hu39 hc49 (fun i hi (h : i = g21) => by omega)
    have hlt : (l ++ (List.replicate ((max (p : Int) 0) - ((n : Nat) : Int)).toNat (blankC sty0))).length = (max (p : Int) 0).toNat := by rw [List.length_append, List.length_replicate]; omega
    have hl57 : LineAt w43 g50 (l ++ (List.replicate ((max (p : Int) 0) - ((n : Nat) : Int)).toNat (blankC sty0))) cp45 := by unfold LineAt; rw [hlt]; exact hO46
    refine yp 10 [] .z ?_
    refine ye ?_
    refine x_ret (yR1 (.slice (some ⟨g50, 0, none⟩) (max (p : Int) 0).toNat cp45) ?_)
    rw [show fitL l (max (p : Int) 0) = l ++ (List.replicate ((max (p : Int) 0) - ((n : Nat) : Int)).toNat (blankC sty0)) by unfold fitL; rw [if_neg (by omega), hn]]
    exact ⟨g50, cp45, rfl, hl57, new_le hne47 (by omega) (Ch.size hu39), Up.ch hu53⟩
end Go.Proofs.YteoejhjfbfacdaaGreatDoor.X
namespace Go.Proofs.YteoejhjfbfacdaaGreatDoor.X
open Go Go.RowKit Go.Proofs.YteoejhjfbfacdaaGreatDoor
structure LinesAt (w : World) (a : Option Addr) (n : Nat) (rows : List Row) (K : Nat → Prop) : Prop where
 rd : Rd w a (rows.map Row.val)
 len : rows.length = n
 line : ∀ x ∈ rows, LineAt w x.b x.l x.cap ∧ x.l.length = x.n
 inK : ∀ x ∈ rows, K x.b
 aK : ∀ ad, a = some ad → K ad.block
 lt : ∀ b, K b → b < w.heap.size
 hi : ∀ b, K b → gTop ≤ b
theorem OutAt.lines {w : World} {o : Option Nat} {n cap : Nat} {outs : List Row} {K : Nat → Prop} (h : OutAt w o n cap outs K) : LinesAt w (o.map at0) n outs K :=
 ⟨h.own.rd, h.len, h.line, h.inK, (fun ad e => by
  cases o with
  | none => cases e
  | some b => cases e; exact h.oK b rfl), fun b hb => h.lt b hb, fun b hb => h.hi b hb⟩
theorem LinesAt.ch {w w' : World} {a : Option Addr} {n : Nat} {rows : List Row} {K B : Nat → Prop} (h : LinesAt w a n rows K) (hc : Ch B w w') (hB : ∀ b, K b → ¬ B b) : LinesAt w' a n rows K :=
 {rd := h.rd.ch hc fun ad e => hB _ (h.aK ad e)
  len := h.len
  line := fun x hx => ⟨(h.line x hx).1.ch hc (hB _ (h.inK x hx)), (h.line x hx).2⟩
  inK := h.inK, aK := h.aK, hi := h.hi
  lt := fun b hb => Nat.lt_of_lt_of_le (h.lt b hb) hc.size }
theorem LinesAt.mono {w : World} {a : Option Addr} {n : Nat} {rows : List Row} {K K' : Nat → Prop} (h : LinesAt w a n rows K) (hK : ∀ b, K b → K' b) (hl : ∀ b, K' b → b < w.heap.size ∧ gTop ≤ b) : LinesAt w a n rows K' :=
 {h with inK := fun x hx => hK _ (h.inK x hx), aK := fun ad e => hK _ (h.aK ad e), lt := fun b hb => (hl b hb).1, hi := fun b hb => (hl b hb).2 }
theorem NewRows.ch {wb w w' : World} {o : Option Nat} {n cap : Nat} {rows : List Row} {W : Int} {B : Nat → Prop} (h : NewRows wb w o n cap rows W) (hc : Ch B w w') (hB : ∀ b, wb.heap.size ≤ b → ¬ B b) (h7 : gTop ≤ wb.heap.size) : NewRows wb w' o n cap rows W := by
 have hs := hc.size
 have h1 := h.out.ch hc fun b hb => hB b hb.1
 refine ⟨⟨h1.own, h1.line, fun x hx => ?_, fun b e => ?_, fun b hb => hb.2, fun b hb => ?_⟩, h.nodup, h.wide⟩
 ·have := h.out.inK x hx; omega
 ·have := h.out.oK b e; omega
 ·omega
theorem fitL_len {l : List Cel} {w : Int} (h0 : 0 ≤ w) : (fitL l w).length = w.toNat := by
 unfold fitL
 split
 ·rw [mend_len, List.length_take]; omega
 ·rw [List.length_append, List.length_replicate]; omega
def fitsOf (G : Gr) (w : Int) (a k : Nat) : List (List Cel) := ((G.lines.drop a).take k).map fun l => fitL l w
def resizeG (G : Gr) (p1 p2 p3 : Int) : Gr :=
 ⟨sideI p1, sideI p2, fitsOf G (max (sideI p1) 0) (topI G p3).toNat (min (G.h.toNat - (topI G p3).toNat) (sideI p2).toNat) ++
  List.replicate ((sideI p2).toNat - min (G.h.toNat - (topI G p3).toNat) (sideI p2).toNat) (List.replicate (sideI p1).toNat (blankC sty0))⟩
theorem fits_snoc {w : World} {g r cap : Nat} {rows : List Row} {G : Gr} {F : Nat → Prop} (h : GridIn w g r cap rows G F) {a j : Nat} {q : Row} (hq : rows[a + j]? = some q) (W : Int) : fitsOf G W a (j + 1) = fitsOf G W a j ++ [fitL q.l W] := by
 unfold fitsOf
 have e : (G.lines.drop a)[j]? = some q.l := by rw [List.getElem?_drop, ← h.lines, List.getElem?_map, hq]; rfl
 obtain ⟨hlt, he⟩ := List.getElem?_eq_some_iff.1 e
 rw [List.take_succ_eq_append_getElem hlt, List.map_append, he]
 rfl
theorem row_cell2 {w : World} {r cap n a : Nat} {rows : List Row} {j : Int} {x : Row} (h : Own w tLine 1 (some r) n cap (rows.map Row.val)) (hx : rows[a + j.toNat]? = some x) (ha : ¬ cap = a) : w.cell? ⟨r, (if cap = a then 0 else 0 + a * 1) + j.toNat * 1, none⟩ = some x.val := by
 rw [if_neg ha, Nat.mul_one, Nat.mul_one, Nat.add_assoc]
 refine rd_at (Own.rd h) (a + j.toNat) _ ?_
 rw [List.getElem?_map, hx]; rfl
theorem GridIn.first {w w' : World} {g r cap : Nat} {rows : List Row} {G : Gr} {F : Nat → Prop} (h : GridIn w g r cap rows G F) (a : Nat) (ha : a ≤ rows.length) (hc : Ch (fun j => j = g) w w') : LinesAt w' (some ⟨r, 0, none⟩) a (rows.take a) (fun b => b = r ∨ ∃ x ∈ rows, x.b = b) := by
 have hr := h.body.ch hc fun b e => by cases e; exact h.gr
 have hmem : ∀ x ∈ rows.take a, x ∈ rows := fun x hx => List.mem_of_mem_take hx
 refine ⟨?_, by rw [List.length_take]; omega, fun x hx => ⟨(h.line x (hmem x hx)).1.ch hc (h.gb x (hmem x hx)).1, (h.line x (hmem x hx)).2⟩, fun x hx => .inr ⟨x, hmem x hx, rfl⟩, (fun ad e => by cases e; exact .inl rfl), ?_, ?_⟩
 ·have := hr.rd
  refine ⟨(fun e => by cases e), fun ad e j u hj => this.2 ad e j u ?_⟩
  rw [List.map_take, List.getElem?_take] at hj
  split at hj
  ·exact hj
  ·cases hj
 ·rintro b (rfl | ⟨x, hx, rfl⟩)
  ·exact Nat.lt_of_lt_of_le (h.lt _ h.inF.2.1) hc.size
  ·exact Nat.lt_of_lt_of_le (h.lt _ (h.inF.2.2 x hx)) hc.size
 ·rintro b (rfl | ⟨x, hx, rfl⟩)
  ·exact h.hi _ h.inF.2.1
  ·exact h.hi _ (h.inF.2.2 x hx)
end Go.Proofs.YteoejhjfbfacdaaGreatDoor.X
namespace Go.Proofs.YteoejhjfbfacdaaGreatDoor.X
open Go Go.RowKit Go.Proofs.YteoejhjfbfacdaaGreatDoor
set_option maxHeartbeats 4000000 in
theorem resize_any (g : Nat) (G : Gr) (F : Nat → Prop) (p1 p2 p3 : Int) (w : World) (hT : Tables w) (hG0 : GridAt w g G F) : Calls Tryz.prog 64 [pX g, iX p1, iX p2, iX p3].toArray w fun e w' =>
    ∃ ro n' rows' F' K', e = .returned (.slice (some ⟨ro, 0, none⟩) n' n') ∧ LinesAt w' (some ⟨ro, 0, none⟩) n' rows' K' ∧ rows'.map Row.l = G.lines.take (topI G p3).toNat ∧ GridAt w' g (resizeG G p1 p2 p3) F' ∧ (∀ b, F' b → more F w w' b) ∧ (∀ b, K' b → more F w w' b) ∧ (∀ b, F' b → ¬ K' b) ∧ Ch F w w' := by
  obtain ⟨r, rc, rows, hG⟩ := hG0
  have hG0 : GridAt w g G F := ⟨r, rc, rows, hG⟩
  obtain ⟨⟨hw1, hw2⟩, ⟨hh1, hh2⟩, hll, hall⟩ := hG.ok
  have hlen := hG.len
  have hgr : Df r g := hG.gr
  have hg7 := hG.hi _ hG.inF.1
  have hr7 := hG.hi _ hG.inF.2.1
  have hs1 : 1 ≤ sideI p1 ∧ sideI p1 ≤ 60 := by unfold sideI; omega
  have hs2 : 1 ≤ sideI p2 ∧ sideI p2 ≤ 60 := by unfold sideI; omega
  have hrc := hG.body.2.1
  have hgt := gtop_le hG0
  refine yA Tryz.func64 rfl ?_
  refine ysr ?_
  refine yp 1 [] .z ?_
  refine ye ?_
  refine ysr ?_
  refine yp 1 [] .z ?_
  refine yo (yQ (bring_any p1 _) fun w11 hc10 => ?_)
  have hu12 := Up.step (Up.refl w.heap.size w) hc10 iZ
  have hB13 := hG.head.ch hc10 id
  have hrow14 := hG.body.ch hc10 (fun b e => by cases e; exact id)
  have hT15 := tables_ch hc10 hT id id
  refine yp 3 [] .z ?_
  refine yo (yQ (bring_any p2 _) fun w17 hc16 => ?_)
  have hu18 := Up.step hu12 hc16 iZ
  have hB19 := hB13.ch hc16 id
  have hrow20 := hrow14.ch hc16 (fun b e => by cases e; exact id)
  have hT21 := tables_ch hc16 hT15 id id
  refine yp 6 [] .z ?_
  refine ye ?_
  refine ysr ?_
  refine yp 8 [] (.l (hB19.c 1) .z) ?_
  refine ye ?_
  refine ysr ?_
  refine yp 8 [] (.l (hB19.c 2) (.j (min ((max (p3 : Int) 0) : Int) G.h) (rc) (.j (min ((max (p3 : Int) 0) : Int) G.h) (((min ((max (p3 : Int) 0) : Int) G.h) : Int).toNat) .z))) ?_
  refine ye ?_
  refine ysr ?_
  refine yp 1 [] .z ?_
  refine ye ?_
  refine ys ?_
  refine ysr ?_
  refine yp 8 [] (.l (hB19.c 2) (.j (min ((max (p3 : Int) 0) : Int) G.h) (rows.length) .z)) ?_
  refine ye ?_
  refine x_block ?_
  refine ykeep [0, 1, 2, 9, 10, 36, 37, 38] (f' := [(0, pX g), (1, iX (sideI p1)), (2, iX (sideI p2)), (9, .slice (some ⟨r, 0, none⟩) ((min ((max (p3 : Int) 0) : Int) G.h) : Int).toNat ((min ((max (p3 : Int) 0) : Int) G.h) : Int).toNat), (10, .slice none 0 0), (36, .slice (some ⟨r, (if rc = ((min ((max (p3 : Int) 0) : Int) G.h) : Int).toNat then 0 else 0 + ((min ((max (p3 : Int) 0) : Int) G.h) : Int).toNat * 1), none⟩) (rows.length - ((min ((max (p3 : Int) 0) : Int) G.h) : Int).toNat) (rc - ((min ((max (p3 : Int) 0) : Int) G.h) : Int).toNat)), (37, iX (((rows.length - ((min ((max (p3 : Int) 0) : Int) G.h) : Int).toNat) : Nat) : Int)), (38, iX 0)]) ?_
  refine x_loop (σ := Nat × Nat × Option Nat × Nat) (fun ⟨j, k, o, oc⟩ => [(0, pX g), (1, iX (sideI p1)), (2, iX (sideI p2)), (9, .slice (some ⟨r, 0, none⟩) ((min ((max (p3 : Int) 0) : Int) G.h) : Int).toNat ((min ((max (p3 : Int) 0) : Int) G.h) : Int).toNat), (10, .slice (o.map at0) k oc), (36, .slice (some ⟨r, (if rc = ((min ((max (p3 : Int) 0) : Int) G.h) : Int).toNat then 0 else 0 + ((min ((max (p3 : Int) 0) : Int) G.h) : Int).toNat * 1), none⟩) (rows.length - ((min ((max (p3 : Int) 0) : Int) G.h) : Int).toNat) (rc - ((min ((max (p3 : Int) 0) : Int) G.h) : Int).toNat)), (37, iX (((rows.length - ((min ((max (p3 : Int) 0) : Int) G.h) : Int).toNat) : Nat) : Int)), (38, iX ((j : Nat) : Int))]) (fun ⟨j, k, o, oc⟩ u => j ≤ rows.length - (min (max (p3 : Int) 0) G.h).toNat ∧ k = min j (sideI p2).toNat ∧ Ch (fun _ => False) w17 u ∧ ∃ rowsN, NewRows w17 u o k oc rowsN (sideI p1) ∧ rowsN.map Row.l = fitsOf G (max (sideI p1) 0) (min (max (p3 : Int) 0) G.h).toNat k) (fun ⟨j, k, o, oc⟩ => rows.length - (min (max (p3 : Int) 0) G.h).toNat - j) (0, 0, none, 0) rfl ?_ ?_
  · exact ⟨Nat.zero_le _, (by omega), Ch.refl _ _, [], NewRows.nil _, rfl⟩
  · intro p w22 hI23 K24 hL25
    obtain ⟨j, k, o, oc⟩ := p
    obtain ⟨hj, hkj, hc26, rowsN, hN, hrl⟩ := hI23
    have hu27 := Up.step hu18 hc26 iZ
    have hB28 := hB19.ch hc26 id
    have hrow29 := hrow20.ch hc26 (fun b e => by cases e; exact id)
    have hT30 := tables_ch hc26 hT21 id id
    have hszw : w.heap.size ≤ w17.heap.size := Ch.size hu18
    have hszk : w17.heap.size ≤ w22.heap.size := Ch.size hc26
    refine ysr ?_
    refine yp 1 [] .z ?_
    refine ye ?_
    refine ys ?_
    refine yc (rL ((j : Nat) : Int) (((rows.length - ((min ((max (p3 : Int) 0) : Int) G.h) : Int).toNat) : Nat) : Int)) (fun hC31 => ?_) fun hC31 => ?_
    · obtain ⟨q, hxs⟩ : ∃ q, rows[(min (max (p3 : Int) 0) G.h).toNat + ((j : Nat) : Int).toNat]? = some q := ⟨_, List.getElem?_eq_getElem (show (min (max (p3 : Int) 0) G.h).toNat + ((j : Nat) : Int).toNat < rows.length by omega)⟩
      have hqm : q ∈ rows := List.mem_of_getElem? hxs
      have hqn := (hG.line q hqm).2
      have hqw := hG.ok.2.2.2 _ (hG.lines ▸ List.mem_map_of_mem hqm)
      have hqc := (hG.line q hqm).1.2.1
      refine yk ?_
      refine ys ?_
      refine x_block ?_
      refine ysr ?_
      refine yp 3 [] (.i ((j : Nat) : Int) ((rows.length - ((min ((max (p3 : Int) 0) : Int) G.h) : Int).toNat)) (.l (o := ((if rc = ((min ((max (p3 : Int) 0) : Int) G.h) : Int).toNat then 0 else 0 + ((min ((max (p3 : Int) 0) : Int) G.h) : Int).toNat * 1) + (((j : Nat) : Int)).toNat * 1)) (row_cell2 hrow29 hxs (by omega)) .z)) ?_
      refine ye ?_
      refine ysr ?_
      refine yp 4 [] .z ?_
      refine ye ?_
      refine yc (rL ((k : Nat) : Int) (sideI p2)) (fun hC32 => ?_) fun hC32 => ?_
      · refine x_region ?_
        refine yp 3 [] .z ?_
        refine yo (yC (fit_any q.b q.n q.cap q.l (sideI p1) _ hT30 ((hG.line q hqm).1.ch (Up.ch hu27) id).rd (Nat.lt_of_lt_of_le (hG.line q hqm).1.lt (Ch.size hu27)) hqn (by omega) (by omega) hs1) ?_)
        rintro _ w38 ⟨g33, cp34, rfl, hl35, hlo36, hc37⟩
        refine ⟨_, rfl, ?_⟩
        have hlo36w : w22.heap.size ≤ g33 := Nat.le_trans (Ch.size (Ch.refl (fun j => o = some j) w22)) hlo36
        have hlo36l : w17.heap.size ≤ g33 := Nat.le_trans (Ch.size hc26) hlo36
        have hd39 : Df g g33 := (show ¬ g = g33 by have := hB28.lt; omega)
        have hd40 : Df r g33 := (show ¬ r = g33 by have := hrow29.lt; omega)
        have hu41 := Up.step hu27 hc37 iZ
        have hL42 := Ch.trans hc26 hc37 eZ
        have hR43 := Ch.trans (Ch.refl (fun j => o = some j) w22) hc37 eZ
        have hB44 := hB28.ch hc37 id
        have hrow45 := hrow29.ch hc37 (fun b e => by cases e; exact id)
        have ho47 := hN.out.own.ch hc37 iZ
        refine yo (yB [.slice (some ⟨g33, 0, none⟩) (max (sideI p1) 0).toNat cp34] 85 1 fun w48 b49 hb50 hz51 hB52 hc53 => ?_)
        have hlo54 : w.heap.size ≤ b49 := by rw [hb50]; exact Ch.size hu41
        have hlo54l : w17.heap.size ≤ b49 := by rw [hb50]; exact Ch.size hL42
        have hlo54r : w22.heap.size ≤ b49 := by rw [hb50]; exact Ch.size hR43
        have hL56 := Ch.trans hL42 hc53 eZ
        have hR57 := Ch.trans hR43 hc53 eZ
        have hB58 := hB44.ch hc53 id
        have hrow59 := hrow45.ch hc53 (fun b e => by cases e; exact id)
        have ho61 := ho47.ch hc53 iZ
        have hl62 := hl35.ch hc53 id
        refine yo (e_app' 85 1 24 o k oc (rowsN.map Row.val) (some ⟨b49, 0, none⟩) 1 1 [Row.val (Row.mk g33 (max (sideI p1) 0).toNat cp34 (fitL q.l (max (sideI p1) 0)))] (some 51) (k + 1) rfl ((rowsN ++ [(Row.mk g33 (max (sideI p1) 0).toNat cp34 (fitL q.l (max (sideI p1) 0)))]).map Row.val) (by rw [List.map_append]; rfl) (by kernel_rfl) ho61 (Rd.all hB52) rfl rfl (fun h => by cases h) (by constructor <;> first | omega | (simp only [maxLen]; omega)) ?_)
        intro w63 og64 cp65 hO66 hne67 hpos68 hc69
        obtain ⟨o70, rfl⟩ : ∃ b, og64 = some b := hpos68 (by omega)
        have hoy71 : ¬ o = some g := fun e => by have := hN.lo _ e; have := hB19.lt; omega
        have hoy72 : ¬ o = some r := fun e => by have := hN.lo _ e; have := hrow20.lt; omega
        have hoy73 : ¬ o = some g33 := own_line_ne ho61 hl62
        have hd74 : Df g o70 := app_ne hne67 (fun e => hoy71 e) hB58.lt
        have hd75 : Df r o70 := app_ne hne67 (fun e => hoy72 e) hrow59.lt
        have hd76 : Df g33 o70 := app_ne hne67 (fun e => hoy73 e) hl62.lt
        have hL78 := Ch.trans hL56 hc69 (fun i hi h => by have := hN.lo _ h; omega)
        have hR79 := Ch.trans hR57 hc69 iZ
        have hl83 := hl62.ch hc69 hoy73
        refine yp 7 [] .z ?_
        refine yE (nB (nS ?_))
        refine x_region ?_
        refine yp 2 [] (.q6 (((j : Nat) : Int) + 1) .z) ?_
        have hN2 := new_round (x := (Row.mk g33 (max (sideI p1) 0).toNat cp34 (fitL q.l (max (sideI p1) 0)))) hN (by omega) hszk hR79 (fun b h => .inr h) hl83 hlo36w (by rw [fitL_len (by omega)] <;> omega) (by rw [fitL_len (by omega)] <;> omega) hO66 (hne67.imp id fun ⟨b, e, h⟩ => ⟨b, e, Nat.le_trans (Ch.size hR57) h⟩)
        have hrl2 : (rowsN ++ [(Row.mk g33 (max (sideI p1) 0).toNat cp34 (fitL q.l (max (sideI p1) 0)))]).map Row.l = fitsOf G (max (sideI p1) 0) (min (max (p3 : Int) 0) G.h).toNat (k + 1) := by rw [List.map_append, hrl, show k = ((j : Nat) : Int).toNat by omega, fits_snoc hG hxs]; rfl
        refine yE (fun a ha => hL25 (j + 1, k + 1, some o70, cp65) _ ⟨by omega, by omega, hL78, _, hN2, hrl2⟩ (by show rows.length - (min (max (p3 : Int) 0) G.h).toNat - (j + 1) < rows.length - (min (max (p3 : Int) 0) G.h).toNat - j; omega) a (ha.kp [0, 1, 2, 9, 10, 36, 37, 38]))
      · refine x_skip (nB (nS ?_))
        refine x_region ?_
        refine yp 2 [] (.q6 (((j : Nat) : Int) + 1) .z) ?_
        refine yE (fun a ha => hL25 (j + 1, k, o, oc) _ ⟨by omega, by omega, hc26, _, hN.ch (Ch.refl (fun _ => False) _) eZ (by omega), hrl⟩ (by show rows.length - (min (max (p3 : Int) 0) G.h).toNat - (j + 1) < rows.length - (min (max (p3 : Int) 0) G.h).toNat - j; omega) a (ha.kp [0, 1, 2, 9, 10, 36, 37, 38]))
    · have hjn : j = rows.length - (min (max (p3 : Int) 0) G.h).toNat := by omega
      refine x_exit (eS (then_exit (block_exit (nS ?_))))
      refine ys ?_
      refine x_block ?_
      refine ykeep [0, 1, 2, 9, 10] (f' := [(0, pX g), (1, iX (sideI p1)), (2, iX (sideI p2)), (9, .slice (some ⟨r, 0, none⟩) ((min ((max (p3 : Int) 0) : Int) G.h) : Int).toNat ((min ((max (p3 : Int) 0) : Int) G.h) : Int).toNat), (10, .slice (o.map at0) k oc)]) ?_
      refine x_loop (σ := Nat × Option Nat × Nat) (fun ⟨k, o, oc⟩ => [(0, pX g), (1, iX (sideI p1)), (2, iX (sideI p2)), (9, .slice (some ⟨r, 0, none⟩) ((min ((max (p3 : Int) 0) : Int) G.h) : Int).toNat ((min ((max (p3 : Int) 0) : Int) G.h) : Int).toNat), (10, .slice (o.map at0) k oc)]) (fun ⟨k, o, oc⟩ u => (min (rows.length - (min (max (p3 : Int) 0) G.h).toNat) (sideI p2).toNat) ≤ k ∧ k ≤ (sideI p2).toNat ∧ Ch (fun _ => False) w17 u ∧ ∃ rowsN, NewRows w17 u o k oc rowsN (sideI p1) ∧ rowsN.map Row.l = fitsOf G (max (sideI p1) 0) (min (max (p3 : Int) 0) G.h).toNat (min (rows.length - (min (max (p3 : Int) 0) G.h).toNat) (sideI p2).toNat) ++ List.replicate (k - (min (rows.length - (min (max (p3 : Int) 0) G.h).toNat) (sideI p2).toNat)) (List.replicate (sideI p1).toNat (blankC sty0))) (fun ⟨k, o, oc⟩ => (sideI p2).toNat - k) (k, o, oc) rfl ?_ ?_
      · exact ⟨by omega, by omega, hc26, rowsN, hN, by rw [hrl, show k = (min (rows.length - (min (max (p3 : Int) 0) G.h).toNat) (sideI p2).toNat) by omega, Nat.sub_self]; simp⟩
      · intro p w84 hI85 K86 hL87
        obtain ⟨k, o, oc⟩ := p
        obtain ⟨hk1, hk2, hc88, rowsN, hN, hrl⟩ := hI85
        have hu89 := Up.step hu18 hc88 iZ
        have hB90 := hB19.ch hc88 id
        have hrow91 := hrow20.ch hc88 (fun b e => by cases e; exact id)
        have hszw : w.heap.size ≤ w17.heap.size := hszw
        have hszk : w17.heap.size ≤ w84.heap.size := Ch.size hc88
        refine ys ?_
        refine ysr ?_
        refine yp 4 [] .z ?_
        refine ye ?_
        refine yc (rL ((k : Nat) : Int) (sideI p2)) (fun hC93 => ?_) fun hC93 => ?_
        · refine yk ?_
          refine x_block ?_
          refine x_region ?_
          refine yp 3 [] .z ?_
          refine yo (yC (blanks_any (sideI p1) sty0 _ (by omega) (by omega)) ?_)
          rintro _ w99 ⟨g94, rfl, hl96, hlo97, hc98⟩
          refine ⟨_, rfl, ?_⟩
          have hlo97w : w84.heap.size ≤ g94 := Nat.le_trans (Ch.size (Ch.refl (fun j => o = some j) w84)) hlo97
          have hlo97l : w17.heap.size ≤ g94 := Nat.le_trans (Ch.size hc88) hlo97
          have hd100 : Df g g94 := (show ¬ g = g94 by have := hB90.lt; omega)
          have hd101 : Df r g94 := (show ¬ r = g94 by have := hrow91.lt; omega)
          have hu102 := Up.step hu89 hc98 iZ
          have hL103 := Ch.trans hc88 hc98 eZ
          have hR104 := Ch.trans (Ch.refl (fun j => o = some j) w84) hc98 eZ
          have hB105 := hB90.ch hc98 id
          have hrow106 := hrow91.ch hc98 (fun b e => by cases e; exact id)
          have ho108 := hN.out.own.ch hc98 iZ
          refine yo (yB [.slice (some ⟨g94, 0, none⟩) ((sideI p1) : Int).toNat ((sideI p1) : Int).toNat] 85 1 fun w109 b110 hb111 hz112 hB113 hc114 => ?_)
          have hlo115 : w.heap.size ≤ b110 := by rw [hb111]; exact Ch.size hu102
          have hlo115l : w17.heap.size ≤ b110 := by rw [hb111]; exact Ch.size hL103
          have hlo115r : w84.heap.size ≤ b110 := by rw [hb111]; exact Ch.size hR104
          have hL117 := Ch.trans hL103 hc114 eZ
          have hR118 := Ch.trans hR104 hc114 eZ
          have hB119 := hB105.ch hc114 id
          have hrow120 := hrow106.ch hc114 (fun b e => by cases e; exact id)
          have ho122 := ho108.ch hc114 iZ
          have hl123 := hl96.ch hc114 id
          refine yo (e_app' 85 1 24 o k oc (rowsN.map Row.val) (some ⟨b110, 0, none⟩) 1 1 [Row.val (Row.mk g94 ((sideI p1) : Int).toNat ((sideI p1) : Int).toNat (List.replicate ((sideI p1) : Int).toNat (blankC sty0)))] (some 62) (k + 1) rfl ((rowsN ++ [(Row.mk g94 ((sideI p1) : Int).toNat ((sideI p1) : Int).toNat (List.replicate ((sideI p1) : Int).toNat (blankC sty0)))]).map Row.val) (by rw [List.map_append]; rfl) (by kernel_rfl) ho122 (Rd.all hB113) rfl rfl (fun h => by cases h) (by constructor <;> first | omega | (simp only [maxLen]; omega)) ?_)
          intro w124 og125 cp126 hO127 hne128 hpos129 hc130
          obtain ⟨o131, rfl⟩ : ∃ b, og125 = some b := hpos129 (by omega)
          have hoy132 : ¬ o = some g := fun e => by have := hN.lo _ e; have := hB19.lt; omega
          have hoy133 : ¬ o = some r := fun e => by have := hN.lo _ e; have := hrow20.lt; omega
          have hoy134 : ¬ o = some g94 := own_line_ne ho122 hl123
          have hd135 : Df g o131 := app_ne hne128 (fun e => hoy132 e) hB119.lt
          have hd136 : Df r o131 := app_ne hne128 (fun e => hoy133 e) hrow120.lt
          have hd137 : Df g94 o131 := app_ne hne128 (fun e => hoy134 e) hl123.lt
          have hL139 := Ch.trans hL117 hc130 (fun i hi h => by have := hN.lo _ h; omega)
          have hR140 := Ch.trans hR118 hc130 iZ
          have hl144 := hl123.ch hc130 hoy134
          refine yp 7 [] .z ?_
          have hN2 := new_round (x := (Row.mk g94 ((sideI p1) : Int).toNat ((sideI p1) : Int).toNat (List.replicate ((sideI p1) : Int).toNat (blankC sty0)))) hN (by omega) hszk hR140 (fun b h => .inr h) hl144 hlo97w (by rw [List.length_replicate]) (by rw [List.length_replicate]) hO127 (hne128.imp id fun ⟨b, e, h⟩ => ⟨b, e, Nat.le_trans (Ch.size hR118) h⟩)
          have hrl2 : (rowsN ++ [(Row.mk g94 ((sideI p1) : Int).toNat ((sideI p1) : Int).toNat (List.replicate ((sideI p1) : Int).toNat (blankC sty0)))]).map Row.l = fitsOf G (max (sideI p1) 0) (min (max (p3 : Int) 0) G.h).toNat (min (rows.length - (min (max (p3 : Int) 0) G.h).toNat) (sideI p2).toNat) ++ List.replicate (k + 1 - (min (rows.length - (min (max (p3 : Int) 0) G.h).toNat) (sideI p2).toNat)) (List.replicate (sideI p1).toNat (blankC sty0)) := by rw [List.map_append, hrl, List.append_assoc, show k + 1 - (min (rows.length - (min (max (p3 : Int) 0) G.h).toNat) (sideI p2).toNat) = (k - (min (rows.length - (min (max (p3 : Int) 0) G.h).toNat) (sideI p2).toNat)) + 1 by omega, List.replicate_succ']; rfl
          refine yE (nB  (fun a ha => hL87 (k + 1, some o131, cp126) _ ⟨by omega, by omega, hL139, _, hN2, hrl2⟩ (by show (sideI p2).toNat - (k + 1) < (sideI p2).toNat - k; omega) a (ha.kp [0, 1, 2, 9, 10])))
        · have hkn : k = (sideI p2).toNat := by omega
          refine x_exit (eS (then_exit (block_exit (nS ?_))))
          refine ysr ?_
          refine yp 8 [] .z ?_
          refine yo (yS hB90 fun w145 hB146 hc147 => ?_)
          have ho150 := hN.out.own.ch hc147 (fun b e (h : b = g) => by have := hN.lo _ e; have := hB19.lt; omega)
          replace hB146 : Blk w145 g [iX (sideI p1), iX G.h, .slice (some ⟨r, 0, none⟩) rows.length rc] _ := Blk.to hB146 (by kernel_rfl)
          refine yp 11 [] .z ?_
          refine yo (yS hB146 fun w151 hB152 hc153 => ?_)
          replace hB152 : Blk w151 g [iX (sideI p1), iX (sideI p2), .slice (some ⟨r, 0, none⟩) rows.length rc] _ := Blk.to hB152 (by kernel_rfl)
          refine yp 14 [] .z ?_
          refine yo (yS hB152 fun w157 hB158 hc159 => ?_)
          replace hB158 : Blk w157 g [iX (sideI p1), iX (sideI p2), .slice (o.map at0) k oc] _ := Blk.to hB158 (by kernel_rfl)
          refine ye ?_
          refine ysr ?_
          refine yp 2 [] .z ?_
          refine ye ?_
          refine x_ret (yR1 (.slice (some ⟨r, 0, none⟩) ((min ((max (p3 : Int) 0) : Int) G.h) : Int).toNat ((min ((max (p3 : Int) 0) : Int) G.h) : Int).toNat) ?_)
          have hch : Ch (fun j => j = g) w w157 := Ch.trans (Ch.trans (Ch.trans ((Up.ch hu89).mono eZ) hc147 iZ) hc153 iZ) hc159 iZ
          have hpost : Ch (fun j => j = g) w84 w157 := Ch.trans (Ch.trans hc147 hc153 iZ) hc159 iZ
          have hglt := hB19.lt
          obtain ⟨r', rfl⟩ := hN.some (by omega)
          have hN3 := hN.ch hpost (fun b hb (e : b = g) => by omega) (by omega)
          have hfin := hN3.grid (F := fun b => b = g ∨ (w17.heap.size ≤ b ∧ b < w157.heap.size)) hB158 hglt hs1 hs2 hkn (.inl rfl) (fun b h => .inr h) (fun b h => h.elim (fun e => e ▸ ⟨Nat.lt_of_lt_of_le hG.head.lt hch.size, hg7⟩) (fun h => ⟨h.2, by omega⟩))
          rw [hrl, hkn, hlen] at hfin
          refine ⟨r, (min (max (p3 : Int) 0) G.h).toNat, rows.take (min (max (p3 : Int) 0) G.h).toNat, _, _, rfl, hG.first (min (max (p3 : Int) 0) G.h).toNat (by omega) hch, ?_, ⟨r', oc, rowsN, hfin⟩, ?_, ?_, ?_, hch.mono (fun i _ h => h ▸ hG.inF.1)⟩
          · rw [List.map_take, hG.lines]; rfl
          · rintro b (rfl | h)
            · exact .inl hG.inF.1
            · exact .inr ⟨by omega, h.2⟩
          · rintro b (rfl | ⟨x, hx, rfl⟩)
            · exact .inl hG.inF.2.1
            · exact .inl (hG.inF.2.2 x hx)
          · rintro b (rfl | h) (h2 | ⟨x, hx, h2⟩)
            · exact hgr h2.symm
            · exact (hG.gb x hx).1 h2
            · have := hG.body.lt; omega
            · have := hG.lt _ (hG.inF.2.2 x hx); omega
end Go.Proofs.YteoejhjfbfacdaaGreatDoor.X
namespace Go.Proofs.YteoejhjfbfacdaaGreatDoor.X
open Go Go.RowKit Go.Proofs.YteoejhjfbfacdaaGreatDoor
structure US where
  b0 : Int
  b1 : Int
  b2 : Int
  n : Int
structure PS where
  state : Int
  utf : US
  marks : ByteArray
  params : List Int
  text : ByteArray
  within : Int
structure TS where
  grid : Gr
  other : Gr
  cursor : Cur
  saved : Cur
  away : Cur
  top : Int
  bot : Int
  tabs : Nat → Bool
  wrap : Bool
  origin : Bool
  insert : Bool
  hidden : Bool
  draw0 : Bool
  draw1 : Bool
  shift : Bool
  alt : Bool
  title : ByteArray
  back : List (List Cel)
  parser : PS
  reply : ByteArray
abbrev tTerm : TypeId := 56
def tabv (f : Nat → Bool) : List Value := (List.range 60).map fun i => .bool (f i)
def TS.vals (t : TS) (g o : Nat) (bk ps : Value) : List Value :=
  [.pointer (some ⟨g, 0, none⟩), .pointer (some ⟨o, 0, none⟩),
   .int .i64 t.cursor.x, .int .i64 t.cursor.y, .bool t.cursor.late, .bool t.cursor.sty.bold, .bool t.cursor.sty.under, .bool t.cursor.sty.turned, .int .i64 t.cursor.sty.fore, .int .i64 t.cursor.sty.back,
   .int .i64 t.saved.x, .int .i64 t.saved.y, .bool t.saved.late, .bool t.saved.sty.bold, .bool t.saved.sty.under, .bool t.saved.sty.turned, .int .i64 t.saved.sty.fore, .int .i64 t.saved.sty.back,
   .int .i64 t.away.x, .int .i64 t.away.y, .bool t.away.late, .bool t.away.sty.bold, .bool t.away.sty.under, .bool t.away.sty.turned, .int .i64 t.away.sty.fore, .int .i64 t.away.sty.back,
   .int .i64 t.top, .int .i64 t.bot] ++ tabv t.tabs ++
  [.bool t.wrap, .bool t.origin, .bool t.insert, .bool t.hidden, .bool t.draw0, .bool t.draw1, .bool t.shift, .bool t.alt, .string t.title, bk,
   .int .i64 t.parser.state, .int .u8 t.parser.utf.b0, .int .u8 t.parser.utf.b1, .int .u8 t.parser.utf.b2, .int .i64 t.parser.utf.n, .string t.parser.marks, ps, .string t.parser.text, .int .i64 t.parser.within, .string t.reply]
theorem tvals_len (t : TS) (g o : Nat) (bk ps : Value) : (t.vals g o bk ps).length = 108 := by kernel_rfl
theorem tabs_put (t : TS) (g o : Nat) (bk ps : Value) (x : Nat) (hx : x < 60) (v : Bool) : put (t.vals g o bk ps) (28 + x * 1) [.bool v] = ({ t with tabs := fun i => if i = x then v else t.tabs i } : TS).vals g o bk ps := by
  have h1 : ∀ f : Nat → Bool, (tabv f).length = 60 := fun f => by simp [tabv]
  have e : ∀ (a b c vs : List Value) (o : Nat), a.length + o < (a ++ b).length → vs.length = 1 → put (a ++ b ++ c) (a.length + o) vs = a ++ (put b o vs) ++ c := fun a b c vs o h hv => by
    simp only [List.length_append] at h
    unfold put
    rw [List.append_assoc a b c, List.take_append, List.drop_append]
    simp only [Nat.add_sub_cancel_left, List.append_assoc]
    rw [List.take_of_length_le (by omega), List.drop_eq_nil_of_le (by omega), List.take_append_of_le_length (by omega), show a.length + o + vs.length - a.length = o + vs.length by omega, List.drop_append_of_le_length (by omega)]
    simp
  have e2 : put (tabv t.tabs) x [.bool v] = tabv (fun i => if i = x then v else t.tabs i) := by
    unfold put tabv
    apply List.ext_getElem?
    intro i
    rw [List.append_assoc, List.getElem?_append]
    simp only [List.length_take, List.length_map, List.length_range, List.length_cons, List.length_nil, List.getElem?_take, List.getElem?_map]
    rw [Nat.min_eq_left (by omega)]
    by_cases hi : i < x
    · simp [hi, show i ≠ x by omega, show i < 60 by omega]
    · rw [if_neg hi]
      by_cases he : i = x
      · subst he
        simp [hx]
      · rw [List.getElem?_append_right (by simp; omega)]
        simp only [List.length_cons, List.length_nil, List.getElem?_drop, List.getElem?_map]
        rw [show x + 1 + (i - x - 1) = i by omega]
        by_cases h6 : i < 60
        · simp [h6, he]
        · simp [h6]
  rw [Nat.mul_one]
  unfold TS.vals
  rw [show 28 + x = (List.length (α := Value) [.pointer (some ⟨g, 0, none⟩), .pointer (some ⟨o, 0, none⟩),
   .int .i64 t.cursor.x, .int .i64 t.cursor.y, .bool t.cursor.late, .bool t.cursor.sty.bold, .bool t.cursor.sty.under, .bool t.cursor.sty.turned, .int .i64 t.cursor.sty.fore, .int .i64 t.cursor.sty.back,
   .int .i64 t.saved.x, .int .i64 t.saved.y, .bool t.saved.late, .bool t.saved.sty.bold, .bool t.saved.sty.under, .bool t.saved.sty.turned, .int .i64 t.saved.sty.fore, .int .i64 t.saved.sty.back,
   .int .i64 t.away.x, .int .i64 t.away.y, .bool t.away.late, .bool t.away.sty.bold, .bool t.away.sty.under, .bool t.away.sty.turned, .int .i64 t.away.sty.fore, .int .i64 t.away.sty.back,
   .int .i64 t.top, .int .i64 t.bot]) + x from rfl, e _ _ _ _ _ (by rw [List.length_append, h1]; simp only [List.length_cons, List.length_nil]; omega) rfl, e2]
structure TermIn (w : World) (t g o : Nat) (ba : Option Addr) (bn bc : Nat) (pa : Option Addr) (pn pc : Nat) (T : TS) (F F1 F2 FB FP : Nat → Prop) : Prop where
  blk : Blk w t (T.vals g o (.slice ba bn bc) (.slice pa pn pc)) tTerm
  g1 : GridAt w g T.grid F1
  g2 : GridAt w o T.other F2
  bk : ∃ rows, LinesAt w ba bn rows FB ∧ rows.map Row.l = T.back
  bcap : bn ≤ bc ∧ (ba = none → bc = 0)
  ps : Rd w pa (T.parser.params.map (Value.int .i64)) ∧ T.parser.params.length = pn ∧ (pa = none → pc = 0) ∧ ∀ ad, pa = some ad → FP ad.block
  pz : ∃ po : Option Nat, pa = po.map at0
  bz : ba = none ∨ ∃ b off, ba = some ⟨b, off, none⟩
  t1 : ¬ F1 t
  t2 : ¬ F2 t
  tB : ¬ FB t
  tP : ¬ FP t
  a12 : ∀ b, F1 b → ¬ F2 b
  a1B : ∀ b, F1 b → ¬ FB b
  a2B : ∀ b, F2 b → ¬ FB b
  a1P : ∀ b, F1 b → ¬ FP b
  a2P : ∀ b, F2 b → ¬ FP b
  inF : F t ∧ (∀ b, F1 b → F b) ∧ (∀ b, F2 b → F b) ∧ (∀ b, FB b → F b) ∧ (∀ b, FP b → F b)
  lt : ∀ b, F b → b < w.heap.size
  hi : ∀ b, F b → gTop ≤ b
def TermAt (w : World) (t : Nat) (T : TS) (F : Nat → Prop) : Prop := ∃ g o ba bn bc pa pn pc F1 F2 FB FP, TermIn w t g o ba bn bc pa pn pc T F F1 F2 FB FP
section
variable {w w' : World} {t g o : Nat} {ba : Option Addr} {bn bc : Nat} {pa : Option Addr} {pn pc : Nat} {T T' : TS} {F F1 F2 FB FP : Nat → Prop}
theorem TermIn.scalar (h : TermIn w t g o ba bn bc pa pn pc T F F1 F2 FB FP) (hc : Ch (fun j => j = t) w w') (hb : Blk w' t (T'.vals g o (.slice ba bn bc) (.slice pa pn pc)) tTerm)
    (hg : T'.grid = T.grid) (ho : T'.other = T.other) (hk : T'.back = T.back) (hp : T'.parser.params = T.parser.params) : TermIn w' t g o ba bn bc pa pn pc T' F F1 F2 FB FP := by
  obtain ⟨rows, hL, hl⟩ := h.bk
  exact { h with
    blk := hb
    g1 := by rw [hg]; exact h.g1.ch hc fun b hb e => h.t1 (e ▸ hb)
    g2 := by rw [ho]; exact h.g2.ch hc fun b hb e => h.t2 (e ▸ hb)
    bk := ⟨rows, hL.ch hc fun b hb e => h.tB (e ▸ hb), by rw [hk]; exact hl⟩
    ps := by rw [hp]; exact ⟨h.ps.1.ch hc fun ad e e2 => h.tP (e2 ▸ h.ps.2.2.2 ad e), h.ps.2⟩
    lt := fun b hb => Nat.lt_of_lt_of_le (h.lt b hb) hc.size }
theorem TermIn.same (h : TermIn w t g o ba bn bc pa pn pc T F F1 F2 FB FP) {B : Nat → Prop} (hc : Ch B w w') (hB : ∀ b, F b → ¬ B b) : TermIn w' t g o ba bn bc pa pn pc T F F1 F2 FB FP := by
  obtain ⟨rows, hL, hl⟩ := h.bk
  exact { h with
    blk := h.blk.ch hc (hB t h.inF.1)
    g1 := h.g1.ch hc fun b hb => hB b (h.inF.2.1 b hb)
    g2 := h.g2.ch hc fun b hb => hB b (h.inF.2.2.1 b hb)
    bk := ⟨rows, hL.ch hc fun b hb => hB b (h.inF.2.2.2.1 b hb), hl⟩
    ps := ⟨h.ps.1.ch hc fun ad e => hB _ (h.inF.2.2.2.2 _ (h.ps.2.2.2 ad e)), h.ps.2⟩
    lt := fun b hb => Nat.lt_of_lt_of_le (h.lt b hb) hc.size }
theorem TermAt.ch {B : Nat → Prop} (h : TermAt w t T F) (hc : Ch B w w') (hB : ∀ b, F b → ¬ B b) : TermAt w' t T F := by
  obtain ⟨g, o, ba, bn, bc, pa, pn, pc, F1, F2, FB, FP, h⟩ := h
  exact ⟨g, o, ba, bn, bc, pa, pn, pc, F1, F2, FB, FP, h.same hc hB⟩
theorem TermIn.mono {F' : Nat → Prop} (h : TermIn w t g o ba bn bc pa pn pc T F F1 F2 FB FP) (hF : ∀ b, F b → F' b) (hl : ∀ b, F' b → b < w.heap.size ∧ gTop ≤ b) : TermIn w t g o ba bn bc pa pn pc T F' F1 F2 FB FP :=
  { h with
    inF := ⟨hF _ h.inF.1, fun b hb => hF b (h.inF.2.1 b hb), fun b hb => hF b (h.inF.2.2.1 b hb), fun b hb => hF b (h.inF.2.2.2.1 b hb), fun b hb => hF b (h.inF.2.2.2.2 b hb)⟩
    lt := fun b hb => (hl b hb).1
    hi := fun b hb => (hl b hb).2 }
end
end Go.Proofs.YteoejhjfbfacdaaGreatDoor.X
namespace Go.Proofs.YteoejhjfbfacdaaGreatDoor.X
open Go Go.RowKit Go.Proofs.YteoejhjfbfacdaaGreatDoor
def Sty.vals (s : Sty) : List Value := [.bool s.bold, .bool s.under, .bool s.turned, .int .i64 s.fore, .int .i64 s.back]
def changeS (s : Sty) (n : Int) : Sty :=
 if n = 0 then sty0 else if n = 1 ∨ n = 22 then { s with bold := n == 1 } else if n = 4 ∨ n = 24 then { s with under := n == 4 } else if n = 7 ∨ n = 27 then { s with turned := n == 7 }
 else if 30 ≤ n ∧ n ≤ 37 then { s with fore := n - 29 } else if n = 39 then { s with fore := 0 } else if 40 ≤ n ∧ n ≤ 47 then { s with back := n - 39 } else if n = 49 then { s with back := 0 } else s
def changesS (s : Sty) (l : List Int) : Sty := (if l = [] then [0] else l).foldl changeS s
def moveT (T : TS) (x y : Int) : TS := { T with cursor := ⟨min (max x 0) (T.grid.w - 1), min (max y 0) (T.grid.h - 1), false, T.cursor.sty⟩ }
def paramI (l : List Int) (i : Nat) : Int := if l.length ≤ i then 1 else max (l.getD i 0) 1
def firstI (l : List Int) : Int := if l = [] then 0 else l.getD 0 0
def homeT (T : TS) (x y : Int) : TS := if T.origin = true then moveT T (x - 1) (min (T.top + y - 1) (T.bot - 1)) else moveT T (x - 1) (y - 1)
theorem rows_one (rows : List Row) : ((rows.map Row.val).all fun c => c.oneCell') = true := by
 refine List.all_eq_true.2 fun v hv => ?_
 obtain ⟨x, _, rfl⟩ := List.mem_map.1 hv
 rfl
theorem GridAt.head {w : World} {g : Nat} {G : Gr} {F : Nat → Prop} (h : GridAt w g G F) : ∃ v, Blk w g [.int .i64 G.w, .int .i64 G.h, v] tGrid := by
 obtain ⟨r, cap, rows, h⟩ := h
 exact ⟨_, h.head⟩
end Go.Proofs.YteoejhjfbfacdaaGreatDoor.X
namespace Go.Proofs.YteoejhjfbfacdaaGreatDoor.X
open Go Go.RowKit Go.Proofs.YteoejhjfbfacdaaGreatDoor
set_option maxHeartbeats 4000000 in
theorem move_any {w : World} {t g o : Nat} {ba : Option Addr} {bn bc : Nat} {pa : Option Addr} {pn pc : Nat} {T : TS} {F F1 F2 FB FP : Nat → Prop} (hI : TermIn w t g o ba bn bc pa pn pc T F F1 F2 FB FP) (x y : Int) : Calls Tryz.prog 83 [pX t, iX x, iX y].toArray w fun e w' => e = .returned (.tuple #[]) ∧ TermIn w' t g o ba bn bc pa pn pc (moveT T x y) F F1 F2 FB FP ∧ Ch (fun j => j = t) w w' := by
 have hgd := hI.g1.head
 obtain ⟨gv, hgd⟩ := hgd
 obtain ⟨⟨hw1, hw2⟩, ⟨hh1, hh2⟩, hll, hall⟩ := hI.g1.ok
 have htg : Df t g := fun e => hI.t1 (e ▸ hI.g1.inF)
 refine yA Tryz.func83 rfl <| yD [28, 32, 36] fun w10 hH11 hc12 => ?_
 have hS13 := Ch.trans (Ch.refl (fun j => j = t) w) hc12 eZ
 have ht15 := hI.blk.ch hc12 id
 have hg16 := hgd.ch hc12 id
 refine yd (uL 0 23) [] (.l (ht15.c 0) (.l (hg16.c 0) (.q6 (T.grid.w - 1) (.l (ht15.c 0) (.l (hg16.c 1) .z))))) <| ydT (uL 23 5) [] rfl (fun _ => (.q6 (T.grid.h - 1) .z)) <| yK 28 (yS ht15 fun w17 hB18 hc19 => ?_)
 have hS21 := Ch.trans hS13 hc19 (fun i hi (h : i = t) => h)
 refine x_killed <| yd (uL 29 3) [] .z <| yK 32 (yS hB18 fun w23 hB24 hc25 => ?_)
 have hS27 := Ch.trans hS21 hc25 (fun i hi (h : i = t) => h)
 refine x_killed <| yd (uL 33 3) [] .z <| yK 36 (yS hB24 fun w29 hB30 hc31 => ?_)
 have hS33 := Ch.trans hS27 hc31 (fun i hi (h : i = t) => h)
 refine x_killed <| yDe (yR0' ?_)
 have hI35 := hI.scalar (T' := ({ T with cursor := (Cur.mk (min ((max (x : Int) 0) : Int) (T.grid.w - 1)) (min ((max (y : Int) 0) : Int) (T.grid.h - 1)) false T.cursor.sty) } : TS)) hS33 (Blk.to hB30 (by kernel_rfl)) rfl rfl rfl rfl
 exact ⟨rfl, hI35, hS33⟩
set_option maxHeartbeats 4000000 in
theorem home_any {w : World} {t g o : Nat} {ba : Option Addr} {bn bc : Nat} {pa : Option Addr} {pn pc : Nat} {T : TS} {F F1 F2 FB FP : Nat → Prop} (hI : TermIn w t g o ba bn bc pa pn pc T F F1 F2 FB FP) (hb : (0 ≤ T.top ∧ T.top ≤ 60) ∧ 0 ≤ T.bot ∧ T.bot ≤ 60) (x y : Int) (hx : -1000000 ≤ x ∧ x ≤ 1000000) (hy : -1000000 ≤ y ∧ y ≤ 1000000) : Calls Tryz.prog 123 [pX t, iX x, iX y].toArray w fun e w' => e = .returned (.tuple #[]) ∧ TermIn w' t g o ba bn bc pa pn pc (homeT T x y) F F1 F2 FB FP ∧ Ch (fun j => j = t) w w' := by
 have hgd := hI.g1.head
 obtain ⟨gv, hgd⟩ := hgd
 obtain ⟨⟨hw1, hw2⟩, ⟨hh1, hh2⟩, hll, hall⟩ := hI.g1.ok
 have htg : Df t g := fun e => hI.t1 (e ▸ hI.g1.inF)
 refine yA Tryz.func123 rfl <| ys <| ysr <| yp 4 [] (.l (hI.blk.c 89) .z) <| ye <| yc (rY T.origin) (fun hC10 => ?_) fun hC10 => ?_
 ·have hp0 := hC10
  refine ys <| yD [16] fun w11 hH12 hc13 => ?_
  have hS14 := Ch.trans (Ch.refl (fun j => j = t) w) hc13 eZ
  have ht16 := hI.blk.ch hc13 id
  refine yd (uL 0 16) [] (.q6 (x - 1) (.l (ht16.c 26) (.q6 (T.top + y) (.q6 ((T.top + y) - 1) (.l (ht16.c 27) (.q6 (T.bot - 1) .z)))))) ?_
  have hI18 := hI.scalar (T' := T) hS14 ht16 rfl rfl rfl rfl
  refine yK 16 (yQ (move_any hI18 (x - 1) (min (((T.top + y) - 1) : Int) (T.bot - 1))) ?_)
  rintro w21 ⟨hI19, hc20⟩
  have htot24 := Ch.trans hS14 hc20 iZ
  refine x_killed <| yDe (nS ?_)
  refine x_ret (rS (yR0 ?_))
  rw [show homeT T x y = _ from if_pos hp0]
  exact ⟨rfl, hI19, (Ch.trans htot24 (Ch.refl (fun j => j = t) w21) iZ)⟩
 have hp0 := hC10
 refine yk <| x_region <| yp 5 [] (.q6 (x - 1) (.q6 (y - 1) .z)) <| yo (yQ (move_any hI (x - 1) (y - 1)) ?_)
 rintro w27 ⟨hI25, hc26⟩
 have htot30 := Ch.trans (Ch.refl (fun j => j = t) w) hc26 iZ
 refine yE (yR0' ?_)
 rw [show homeT T x y = _ from if_neg (by rw [hp0]; decide)]
 exact ⟨rfl, hI25, (Ch.trans htot30 (Ch.refl (fun j => j = t) w27) iZ)⟩
set_option maxHeartbeats 4000000 in
theorem take_any {w : World} {t g o : Nat} {ba : Option Addr} {bn bc : Nat} {pa : Option Addr} {pn pc : Nat} {T : TS} {F F1 F2 FB FP : Nat → Prop} (hI : TermIn w t g o ba bn bc pa pn pc T F F1 F2 FB FP) : Calls Tryz.prog 15 [pX t].toArray w fun e w' => e = .returned (.string T.reply) ∧ TermIn w' t g o ba bn bc pa pn pc ({ T with reply := ByteArray.empty } : TS) F F1 F2 FB FP ∧ Ch (fun j => j = t) w w' := by
 have hgd := hI.g1.head
 obtain ⟨gv, hgd⟩ := hgd
 obtain ⟨⟨hw1, hw2⟩, ⟨hh1, hh2⟩, hll, hall⟩ := hI.g1.ok
 have htg : Df t g := fun e => hI.t1 (e ▸ hI.g1.inF)
 refine yA Tryz.func15 rfl <| ysr <| yp 1 [] .z <| ye <| ysr <| yp 5 [] (.l (hI.blk.c 107) .z) <| ye <| ysr <| yp 3 [] .z <| yo (yS hI.blk fun w10 hB11 hc12 => ?_)
 have hS14 := Ch.trans (Ch.refl (fun j => j = t) w) hc12 (fun i hi (h : i = t) => h)
 refine ye <| ysr <| yp 2 [] .z <| ye <| x_ret (yR1 (.string T.reply) ?_)
 have hI16 := hI.scalar (T' := ({ T with reply := ByteArray.empty } : TS)) hS14 (Blk.to hB11 (by kernel_rfl)) rfl rfl rfl rfl
 exact ⟨rfl, hI16, hS14⟩
end Go.Proofs.YteoejhjfbfacdaaGreatDoor.X
namespace Go.Proofs.YteoejhjfbfacdaaGreatDoor.X
open Go Go.RowKit Go.Proofs.YteoejhjfbfacdaaGreatDoor
set_option maxHeartbeats 4000000 in
theorem change_any (s : Sty) (n : Int) (w : World) : Calls Tryz.prog 138 [.agg #[.bool s.bold, .bool s.under, .bool s.turned, iX s.fore, iX s.back], iX n].toArray w fun e w' => e = .returned (.agg (changeS s n).vals.toArray) ∧ Ch (fun _ => False) w w' := by
 refine yA Tryz.func138 rfl <| ysr <| yo (yN [.bool s.bold, .bool s.under, .bool s.turned, iX s.fore, iX s.back] 43 fun w10 b11 hb12 hz13 hB14 hc15 => ?_)
 have hlo16 : w.heap.size ≤ b11 := by rw [hb12]; exact Ch.size (Up.refl w.heap.size w)
 have hu17 := Up.step (Up.refl w.heap.size w) hc15 iZ
 refine yo (yN [.bool false, .bool false, .bool false, iX 0, iX 0] 43 fun w18 b19 hb20 hz21 hB22 hc23 => ?_)
 have hlo24 : w.heap.size ≤ b19 := by rw [hb20]; exact Ch.size hu17
 have hu25 := Up.step hu17 hc23 iZ
 have hB26 := hB14.ch hc23 id
 refine ye <| ys <| x_block <| ysr <| yp 3 [] .z <| ye <| yc (rE n 0) (fun hC27 => ?_) fun hC27 => ?_
 ·refine x_region <| yp 1 [] .z <| yo (yS hB26 fun w28 hB29 hc30 => ?_)
  have hu31 := Up.step hu25 hc30 (fun i hi (h : i = b11) => by omega)
  have hB32 := hB22.ch hc30 (fun (h : b19 = b11) => by have := hB14.lt; omega)
  replace hB29 : Blk w28 b11 [.bool false, .bool false, .bool false, iX 0, iX 0] _ := Blk.to hB29 (by kernel_rfl)
  refine yE (nB (nS ?_))
  refine ysr <| yp 1 [] (.a (hB29.cs 0 5) .z) <| yo (yS hB32 fun w33 hB34 hc35 => ?_)
  have hu36 := Up.step hu31 hc35 (fun i hi (h : i = b19) => by omega)
  replace hB34 : Blk w33 b19 [.bool false, .bool false, .bool false, iX 0, iX 0] _ := Blk.to hB34 (by kernel_rfl)
  refine ye <| x_ret (yR1c (.agg #[.bool false, .bool false, .bool false, iX 0, iX 0]) (.a (hB34.cs 0 5) .z) ?_)
  first
   | (exfalso; omega)
   | (refine ⟨congrArg Ending.returned ?_, Up.ch hu36⟩
      unfold changeS
      repeat (first | rw [if_pos (by omega)] | rw [if_neg (by omega)])
      rfl)
 refine ysr <| yp 3 [] .z <| yw [12] (rE n 1) (fun hC38 => ?_) fun hC38 => ?_
 ·refine yp 7 [] .z <| ye <| yct <| x_region <| yp 3 [] .z <| yo (yS hB26 fun w39 hB40 hc41 => ?_)
  have hu42 := Up.step hu25 hc41 (fun i hi (h : i = b11) => by omega)
  have hB43 := hB22.ch hc41 (fun (h : b19 = b11) => by have := hB14.lt; omega)
  replace hB40 : Blk w39 b11 [.bool ((n : Int) == 1), .bool s.under, .bool s.turned, iX s.fore, iX s.back] _ := Blk.to hB40 (by kernel_rfl)
  refine yE (nB (nS ?_))
  refine ysr <| yp 1 [] (.a (hB40.cs 0 5) .z) <| yo (yS hB43 fun w44 hB45 hc46 => ?_)
  have hu47 := Up.step hu42 hc46 (fun i hi (h : i = b19) => by omega)
  replace hB45 : Blk w44 b19 [.bool ((n : Int) == 1), .bool s.under, .bool s.turned, iX s.fore, iX s.back] _ := Blk.to hB45 (by kernel_rfl)
  refine ye <| x_ret (yR1c (.agg #[.bool ((n : Int) == 1), .bool s.under, .bool s.turned, iX s.fore, iX s.back]) (.a (hB45.cs 0 5) .z) ?_)
  first
   | (exfalso; omega)
   | (refine ⟨congrArg Ending.returned ?_, Up.ch hu47⟩
      unfold changeS
      repeat (first | rw [if_pos (by omega)] | rw [if_neg (by omega)])
      rfl)
 refine yp 7 [] .z <| ye <| yc (rE n 22) (fun hC49 => ?_) fun hC49 => ?_
 ·refine x_region <| yp 3 [] .z <| yo (yS hB26 fun w50 hB51 hc52 => ?_)
  have hu53 := Up.step hu25 hc52 (fun i hi (h : i = b11) => by omega)
  have hB54 := hB22.ch hc52 (fun (h : b19 = b11) => by have := hB14.lt; omega)
  replace hB51 : Blk w50 b11 [.bool ((n : Int) == 1), .bool s.under, .bool s.turned, iX s.fore, iX s.back] _ := Blk.to hB51 (by kernel_rfl)
  refine yE (nB (nS ?_))
  refine ysr <| yp 1 [] (.a (hB51.cs 0 5) .z) <| yo (yS hB54 fun w55 hB56 hc57 => ?_)
  have hu58 := Up.step hu53 hc57 (fun i hi (h : i = b19) => by omega)
  replace hB56 : Blk w55 b19 [.bool ((n : Int) == 1), .bool s.under, .bool s.turned, iX s.fore, iX s.back] _ := Blk.to hB56 (by kernel_rfl)
  refine ye <| x_ret (yR1c (.agg #[.bool ((n : Int) == 1), .bool s.under, .bool s.turned, iX s.fore, iX s.back]) (.a (hB56.cs 0 5) .z) ?_)
  first
   | (exfalso; omega)
   | (refine ⟨congrArg Ending.returned ?_, Up.ch hu58⟩
      unfold changeS
      repeat (first | rw [if_pos (by omega)] | rw [if_neg (by omega)])
      rfl)
 refine ysr <| yp 3 [] .z <| yw [22] (rE n 4) (fun hC60 => ?_) fun hC60 => ?_
 ·refine yp 7 [] .z <| ye <| yct <| x_region <| yp 3 [] .z <| yo (yS hB26 fun w61 hB62 hc63 => ?_)
  have hu64 := Up.step hu25 hc63 (fun i hi (h : i = b11) => by omega)
  have hB65 := hB22.ch hc63 (fun (h : b19 = b11) => by have := hB14.lt; omega)
  replace hB62 : Blk w61 b11 [.bool s.bold, .bool ((n : Int) == 4), .bool s.turned, iX s.fore, iX s.back] _ := Blk.to hB62 (by kernel_rfl)
  refine yE (nB (nS ?_))
  refine ysr <| yp 1 [] (.a (hB62.cs 0 5) .z) <| yo (yS hB65 fun w66 hB67 hc68 => ?_)
  have hu69 := Up.step hu64 hc68 (fun i hi (h : i = b19) => by omega)
  replace hB67 : Blk w66 b19 [.bool s.bold, .bool ((n : Int) == 4), .bool s.turned, iX s.fore, iX s.back] _ := Blk.to hB67 (by kernel_rfl)
  refine ye <| x_ret (yR1c (.agg #[.bool s.bold, .bool ((n : Int) == 4), .bool s.turned, iX s.fore, iX s.back]) (.a (hB67.cs 0 5) .z) ?_)
  first
   | (exfalso; omega)
   | (refine ⟨congrArg Ending.returned ?_, Up.ch hu69⟩
      unfold changeS
      repeat (first | rw [if_pos (by omega)] | rw [if_neg (by omega)])
      rfl)
 refine yp 7 [] .z <| ye <| yc (rE n 24) (fun hC71 => ?_) fun hC71 => ?_
 ·refine x_region <| yp 3 [] .z <| yo (yS hB26 fun w72 hB73 hc74 => ?_)
  have hu75 := Up.step hu25 hc74 (fun i hi (h : i = b11) => by omega)
  have hB76 := hB22.ch hc74 (fun (h : b19 = b11) => by have := hB14.lt; omega)
  replace hB73 : Blk w72 b11 [.bool s.bold, .bool ((n : Int) == 4), .bool s.turned, iX s.fore, iX s.back] _ := Blk.to hB73 (by kernel_rfl)
  refine yE (nB (nS ?_))
  refine ysr <| yp 1 [] (.a (hB73.cs 0 5) .z) <| yo (yS hB76 fun w77 hB78 hc79 => ?_)
  have hu80 := Up.step hu75 hc79 (fun i hi (h : i = b19) => by omega)
  replace hB78 : Blk w77 b19 [.bool s.bold, .bool ((n : Int) == 4), .bool s.turned, iX s.fore, iX s.back] _ := Blk.to hB78 (by kernel_rfl)
  refine ye <| x_ret (yR1c (.agg #[.bool s.bold, .bool ((n : Int) == 4), .bool s.turned, iX s.fore, iX s.back]) (.a (hB78.cs 0 5) .z) ?_)
  first
   | (exfalso; omega)
   | (refine ⟨congrArg Ending.returned ?_, Up.ch hu80⟩
      unfold changeS
      repeat (first | rw [if_pos (by omega)] | rw [if_neg (by omega)])
      rfl)
 refine ysr <| yp 3 [] .z <| yw [32] (rE n 7) (fun hC82 => ?_) fun hC82 => ?_
 ·refine yp 7 [] .z <| ye <| yct <| x_region <| yp 3 [] .z <| yo (yS hB26 fun w83 hB84 hc85 => ?_)
  have hu86 := Up.step hu25 hc85 (fun i hi (h : i = b11) => by omega)
  have hB87 := hB22.ch hc85 (fun (h : b19 = b11) => by have := hB14.lt; omega)
  replace hB84 : Blk w83 b11 [.bool s.bold, .bool s.under, .bool ((n : Int) == 7), iX s.fore, iX s.back] _ := Blk.to hB84 (by kernel_rfl)
  refine yE (nB (nS ?_))
  refine ysr <| yp 1 [] (.a (hB84.cs 0 5) .z) <| yo (yS hB87 fun w88 hB89 hc90 => ?_)
  have hu91 := Up.step hu86 hc90 (fun i hi (h : i = b19) => by omega)
  replace hB89 : Blk w88 b19 [.bool s.bold, .bool s.under, .bool ((n : Int) == 7), iX s.fore, iX s.back] _ := Blk.to hB89 (by kernel_rfl)
  refine ye <| x_ret (yR1c (.agg #[.bool s.bold, .bool s.under, .bool ((n : Int) == 7), iX s.fore, iX s.back]) (.a (hB89.cs 0 5) .z) ?_)
  first
   | (exfalso; omega)
   | (refine ⟨congrArg Ending.returned ?_, Up.ch hu91⟩
      unfold changeS
      repeat (first | rw [if_pos (by omega)] | rw [if_neg (by omega)])
      rfl)
 refine yp 7 [] .z <| ye <| yc (rE n 27) (fun hC93 => ?_) fun hC93 => ?_
 ·refine x_region <| yp 3 [] .z <| yo (yS hB26 fun w94 hB95 hc96 => ?_)
  have hu97 := Up.step hu25 hc96 (fun i hi (h : i = b11) => by omega)
  have hB98 := hB22.ch hc96 (fun (h : b19 = b11) => by have := hB14.lt; omega)
  replace hB95 : Blk w94 b11 [.bool s.bold, .bool s.under, .bool ((n : Int) == 7), iX s.fore, iX s.back] _ := Blk.to hB95 (by kernel_rfl)
  refine yE (nB (nS ?_))
  refine ysr <| yp 1 [] (.a (hB95.cs 0 5) .z) <| yo (yS hB98 fun w99 hB100 hc101 => ?_)
  have hu102 := Up.step hu97 hc101 (fun i hi (h : i = b19) => by omega)
  replace hB100 : Blk w99 b19 [.bool s.bold, .bool s.under, .bool ((n : Int) == 7), iX s.fore, iX s.back] _ := Blk.to hB100 (by kernel_rfl)
  refine ye <| x_ret (yR1c (.agg #[.bool s.bold, .bool s.under, .bool ((n : Int) == 7), iX s.fore, iX s.back]) (.a (hB100.cs 0 5) .z) ?_)
  first
   | (exfalso; omega)
   | (refine ⟨congrArg Ending.returned ?_, Up.ch hu102⟩
      unfold changeS
      repeat (first | rw [if_pos (by omega)] | rw [if_neg (by omega)])
      rfl)
 refine ysr <| yp 3 [] .z <| yw [42] (rM 30 n) (fun hC104 => ?_) fun hC104 => ?_
 ·refine yp 7 [] .z <| ye <| yc (rM n 37) (fun hC105 => ?_) fun hC105 => ?_
  ·refine x_region <| yp 3 [] (.q6 (n - 29) .z) <| yo (yS hB26 fun w106 hB107 hc108 => ?_)
   have hu109 := Up.step hu25 hc108 (fun i hi (h : i = b11) => by omega)
   have hB110 := hB22.ch hc108 (fun (h : b19 = b11) => by have := hB14.lt; omega)
   replace hB107 : Blk w106 b11 [.bool s.bold, .bool s.under, .bool s.turned, iX (n - 29), iX s.back] _ := Blk.to hB107 (by kernel_rfl)
   refine yE (nB (nS ?_))
   refine ysr <| yp 1 [] (.a (hB107.cs 0 5) .z) <| yo (yS hB110 fun w111 hB112 hc113 => ?_)
   have hu114 := Up.step hu109 hc113 (fun i hi (h : i = b19) => by omega)
   replace hB112 : Blk w111 b19 [.bool s.bold, .bool s.under, .bool s.turned, iX (n - 29), iX s.back] _ := Blk.to hB112 (by kernel_rfl)
   refine ye <| x_ret (yR1c (.agg #[.bool s.bold, .bool s.under, .bool s.turned, iX (n - 29), iX s.back]) (.a (hB112.cs 0 5) .z) ?_)
   first
    | (exfalso; omega)
    | (refine ⟨congrArg Ending.returned ?_, Up.ch hu114⟩
       unfold changeS
       repeat (first | rw [if_pos (by omega)] | rw [if_neg (by omega)])
       rfl)
  refine ysr <| yp 3 [] .z <| ye <| yc (rE n 39) (fun hC116 => ?_) fun hC116 => ?_
  ·refine x_region <| yp 1 [] .z <| yo (yS hB26 fun w117 hB118 hc119 => ?_)
   have hu120 := Up.step hu25 hc119 (fun i hi (h : i = b11) => by omega)
   have hB121 := hB22.ch hc119 (fun (h : b19 = b11) => by have := hB14.lt; omega)
   replace hB118 : Blk w117 b11 [.bool s.bold, .bool s.under, .bool s.turned, iX 0, iX s.back] _ := Blk.to hB118 (by kernel_rfl)
   refine yE (nB (nS ?_))
   refine ysr <| yp 1 [] (.a (hB118.cs 0 5) .z) <| yo (yS hB121 fun w122 hB123 hc124 => ?_)
   have hu125 := Up.step hu120 hc124 (fun i hi (h : i = b19) => by omega)
   replace hB123 : Blk w122 b19 [.bool s.bold, .bool s.under, .bool s.turned, iX 0, iX s.back] _ := Blk.to hB123 (by kernel_rfl)
   refine ye <| x_ret (yR1c (.agg #[.bool s.bold, .bool s.under, .bool s.turned, iX 0, iX s.back]) (.a (hB123.cs 0 5) .z) ?_)
   first
    | (exfalso; omega)
    | (refine ⟨congrArg Ending.returned ?_, Up.ch hu125⟩
       unfold changeS
       repeat (first | rw [if_pos (by omega)] | rw [if_neg (by omega)])
       rfl)
  refine ysr <| yp 3 [] .z <| yw [56] (rM 40 n) (fun hC127 => ?_) fun hC127 => ?_
  ·refine yp 7 [] .z <| ye <| yc (rM n 47) (fun hC128 => ?_) fun hC128 => ?_
   ·refine x_region <| yp 3 [] (.q6 (n - 39) .z) <| yo (yS hB26 fun w129 hB130 hc131 => ?_)
    have hu132 := Up.step hu25 hc131 (fun i hi (h : i = b11) => by omega)
    have hB133 := hB22.ch hc131 (fun (h : b19 = b11) => by have := hB14.lt; omega)
    replace hB130 : Blk w129 b11 [.bool s.bold, .bool s.under, .bool s.turned, iX s.fore, iX (n - 39)] _ := Blk.to hB130 (by kernel_rfl)
    refine yE (nB (nS ?_))
    refine ysr <| yp 1 [] (.a (hB130.cs 0 5) .z) <| yo (yS hB133 fun w134 hB135 hc136 => ?_)
    have hu137 := Up.step hu132 hc136 (fun i hi (h : i = b19) => by omega)
    replace hB135 : Blk w134 b19 [.bool s.bold, .bool s.under, .bool s.turned, iX s.fore, iX (n - 39)] _ := Blk.to hB135 (by kernel_rfl)
    refine ye <| x_ret (yR1c (.agg #[.bool s.bold, .bool s.under, .bool s.turned, iX s.fore, iX (n - 39)]) (.a (hB135.cs 0 5) .z) ?_)
    first
     | (exfalso; omega)
     | (refine ⟨congrArg Ending.returned ?_, Up.ch hu137⟩
        unfold changeS
        repeat (first | rw [if_pos (by omega)] | rw [if_neg (by omega)])
        rfl)
   refine ysr <| yp 3 [] .z <| ye <| yc (rE n 49) (fun hC139 => ?_) fun hC139 => ?_
   ·refine x_region <| yp 1 [] .z <| yo (yS hB26 fun w140 hB141 hc142 => ?_)
    have hu143 := Up.step hu25 hc142 (fun i hi (h : i = b11) => by omega)
    have hB144 := hB22.ch hc142 (fun (h : b19 = b11) => by have := hB14.lt; omega)
    replace hB141 : Blk w140 b11 [.bool s.bold, .bool s.under, .bool s.turned, iX s.fore, iX 0] _ := Blk.to hB141 (by kernel_rfl)
    refine yE (nB (nS ?_))
    refine ysr <| yp 1 [] (.a (hB141.cs 0 5) .z) <| yo (yS hB144 fun w145 hB146 hc147 => ?_)
    have hu148 := Up.step hu143 hc147 (fun i hi (h : i = b19) => by omega)
    replace hB146 : Blk w145 b19 [.bool s.bold, .bool s.under, .bool s.turned, iX s.fore, iX 0] _ := Blk.to hB146 (by kernel_rfl)
    refine ye <| x_ret (yR1c (.agg #[.bool s.bold, .bool s.under, .bool s.turned, iX s.fore, iX 0]) (.a (hB146.cs 0 5) .z) ?_)
    first
     | (exfalso; omega)
     | (refine ⟨congrArg Ending.returned ?_, Up.ch hu148⟩
        unfold changeS
        repeat (first | rw [if_pos (by omega)] | rw [if_neg (by omega)])
        rfl)
   refine x_skip (nB (nS ?_))
   refine ysr <| yp 1 [] (.a (hB26.cs 0 5) .z) <| yo (yS hB22 fun w150 hB151 hc152 => ?_)
   have hu153 := Up.step hu25 hc152 (fun i hi (h : i = b19) => by omega)
   replace hB151 : Blk w150 b19 [.bool s.bold, .bool s.under, .bool s.turned, iX s.fore, iX s.back] _ := Blk.to hB151 (by kernel_rfl)
   refine ye <| x_ret (yR1c (.agg #[.bool s.bold, .bool s.under, .bool s.turned, iX s.fore, iX s.back]) (.a (hB151.cs 0 5) .z) ?_)
   first
    | (exfalso; omega)
    | (refine ⟨congrArg Ending.returned ?_, Up.ch hu153⟩
       unfold changeS
       repeat (first | rw [if_pos (by omega)] | rw [if_neg (by omega)])
       rfl)
  refine yp 7 [] .z <| ye <| ycf <| ysr <| yp 3 [] .z <| ye <| yc (rE n 49) (fun hC155 => ?_) fun hC155 => ?_
  ·refine x_region <| yp 1 [] .z <| yo (yS hB26 fun w156 hB157 hc158 => ?_)
   have hu159 := Up.step hu25 hc158 (fun i hi (h : i = b11) => by omega)
   have hB160 := hB22.ch hc158 (fun (h : b19 = b11) => by have := hB14.lt; omega)
   replace hB157 : Blk w156 b11 [.bool s.bold, .bool s.under, .bool s.turned, iX s.fore, iX 0] _ := Blk.to hB157 (by kernel_rfl)
   refine yE (nB (nS ?_))
   refine ysr <| yp 1 [] (.a (hB157.cs 0 5) .z) <| yo (yS hB160 fun w161 hB162 hc163 => ?_)
   have hu164 := Up.step hu159 hc163 (fun i hi (h : i = b19) => by omega)
   replace hB162 : Blk w161 b19 [.bool s.bold, .bool s.under, .bool s.turned, iX s.fore, iX 0] _ := Blk.to hB162 (by kernel_rfl)
   refine ye <| x_ret (yR1c (.agg #[.bool s.bold, .bool s.under, .bool s.turned, iX s.fore, iX 0]) (.a (hB162.cs 0 5) .z) ?_)
   first
    | (exfalso; omega)
    | (refine ⟨congrArg Ending.returned ?_, Up.ch hu164⟩
       unfold changeS
       repeat (first | rw [if_pos (by omega)] | rw [if_neg (by omega)])
       rfl)
  refine x_skip (nB (nS ?_))
  refine ysr <| yp 1 [] (.a (hB26.cs 0 5) .z) <| yo (yS hB22 fun w166 hB167 hc168 => ?_)
  have hu169 := Up.step hu25 hc168 (fun i hi (h : i = b19) => by omega)
  replace hB167 : Blk w166 b19 [.bool s.bold, .bool s.under, .bool s.turned, iX s.fore, iX s.back] _ := Blk.to hB167 (by kernel_rfl)
  refine ye <| x_ret (yR1c (.agg #[.bool s.bold, .bool s.under, .bool s.turned, iX s.fore, iX s.back]) (.a (hB167.cs 0 5) .z) ?_)
  first
   | (exfalso; omega)
   | (refine ⟨congrArg Ending.returned ?_, Up.ch hu169⟩
      unfold changeS
      repeat (first | rw [if_pos (by omega)] | rw [if_neg (by omega)])
      rfl)
 refine yp 7 [] .z <| ye <| ycf <| ysr <| yp 3 [] .z <| ye <| yc (rE n 39) (fun hC171 => ?_) fun hC171 => ?_
 ·refine x_region <| yp 1 [] .z <| yo (yS hB26 fun w172 hB173 hc174 => ?_)
  have hu175 := Up.step hu25 hc174 (fun i hi (h : i = b11) => by omega)
  have hB176 := hB22.ch hc174 (fun (h : b19 = b11) => by have := hB14.lt; omega)
  replace hB173 : Blk w172 b11 [.bool s.bold, .bool s.under, .bool s.turned, iX 0, iX s.back] _ := Blk.to hB173 (by kernel_rfl)
  refine yE (nB (nS ?_))
  refine ysr <| yp 1 [] (.a (hB173.cs 0 5) .z) <| yo (yS hB176 fun w177 hB178 hc179 => ?_)
  have hu180 := Up.step hu175 hc179 (fun i hi (h : i = b19) => by omega)
  replace hB178 : Blk w177 b19 [.bool s.bold, .bool s.under, .bool s.turned, iX 0, iX s.back] _ := Blk.to hB178 (by kernel_rfl)
  refine ye <| x_ret (yR1c (.agg #[.bool s.bold, .bool s.under, .bool s.turned, iX 0, iX s.back]) (.a (hB178.cs 0 5) .z) ?_)
  first
   | (exfalso; omega)
   | (refine ⟨congrArg Ending.returned ?_, Up.ch hu180⟩
      unfold changeS
      repeat (first | rw [if_pos (by omega)] | rw [if_neg (by omega)])
      rfl)
 refine ysr <| yp 3 [] .z <| yw [56] (rM 40 n) (fun hC182 => ?_) fun hC182 => ?_
 ·refine yp 7 [] .z <| ye <| yc (rM n 47) (fun hC183 => ?_) fun hC183 => ?_
  ·refine x_region <| yp 3 [] (.q6 (n - 39) .z) <| yo (yS hB26 fun w184 hB185 hc186 => ?_)
   have hu187 := Up.step hu25 hc186 (fun i hi (h : i = b11) => by omega)
   have hB188 := hB22.ch hc186 (fun (h : b19 = b11) => by have := hB14.lt; omega)
   replace hB185 : Blk w184 b11 [.bool s.bold, .bool s.under, .bool s.turned, iX s.fore, iX (n - 39)] _ := Blk.to hB185 (by kernel_rfl)
   refine yE (nB (nS ?_))
   refine ysr <| yp 1 [] (.a (hB185.cs 0 5) .z) <| yo (yS hB188 fun w189 hB190 hc191 => ?_)
   have hu192 := Up.step hu187 hc191 (fun i hi (h : i = b19) => by omega)
   replace hB190 : Blk w189 b19 [.bool s.bold, .bool s.under, .bool s.turned, iX s.fore, iX (n - 39)] _ := Blk.to hB190 (by kernel_rfl)
   refine ye <| x_ret (yR1c (.agg #[.bool s.bold, .bool s.under, .bool s.turned, iX s.fore, iX (n - 39)]) (.a (hB190.cs 0 5) .z) ?_)
   first
    | (exfalso; omega)
    | (refine ⟨congrArg Ending.returned ?_, Up.ch hu192⟩
       unfold changeS
       repeat (first | rw [if_pos (by omega)] | rw [if_neg (by omega)])
       rfl)
  refine ysr <| yp 3 [] .z <| ye <| yc (rE n 49) (fun hC194 => ?_) fun hC194 => ?_
  ·refine x_region <| yp 1 [] .z <| yo (yS hB26 fun w195 hB196 hc197 => ?_)
   have hu198 := Up.step hu25 hc197 (fun i hi (h : i = b11) => by omega)
   have hB199 := hB22.ch hc197 (fun (h : b19 = b11) => by have := hB14.lt; omega)
   replace hB196 : Blk w195 b11 [.bool s.bold, .bool s.under, .bool s.turned, iX s.fore, iX 0] _ := Blk.to hB196 (by kernel_rfl)
   refine yE (nB (nS ?_))
   refine ysr <| yp 1 [] (.a (hB196.cs 0 5) .z) <| yo (yS hB199 fun w200 hB201 hc202 => ?_)
   have hu203 := Up.step hu198 hc202 (fun i hi (h : i = b19) => by omega)
   replace hB201 : Blk w200 b19 [.bool s.bold, .bool s.under, .bool s.turned, iX s.fore, iX 0] _ := Blk.to hB201 (by kernel_rfl)
   refine ye <| x_ret (yR1c (.agg #[.bool s.bold, .bool s.under, .bool s.turned, iX s.fore, iX 0]) (.a (hB201.cs 0 5) .z) ?_)
   first
    | (exfalso; omega)
    | (refine ⟨congrArg Ending.returned ?_, Up.ch hu203⟩
       unfold changeS
       repeat (first | rw [if_pos (by omega)] | rw [if_neg (by omega)])
       rfl)
  refine x_skip (nB (nS ?_))
  refine ysr <| yp 1 [] (.a (hB26.cs 0 5) .z) <| yo (yS hB22 fun w205 hB206 hc207 => ?_)
  have hu208 := Up.step hu25 hc207 (fun i hi (h : i = b19) => by omega)
  replace hB206 : Blk w205 b19 [.bool s.bold, .bool s.under, .bool s.turned, iX s.fore, iX s.back] _ := Blk.to hB206 (by kernel_rfl)
  refine ye <| x_ret (yR1c (.agg #[.bool s.bold, .bool s.under, .bool s.turned, iX s.fore, iX s.back]) (.a (hB206.cs 0 5) .z) ?_)
  first
   | (exfalso; omega)
   | (refine ⟨congrArg Ending.returned ?_, Up.ch hu208⟩
      unfold changeS
      repeat (first | rw [if_pos (by omega)] | rw [if_neg (by omega)])
      rfl)
 refine yp 7 [] .z <| ye <| ycf <| ysr <| yp 3 [] .z <| ye <| yc (rE n 49) (fun hC210 => ?_) fun hC210 => ?_
 ·refine x_region <| yp 1 [] .z <| yo (yS hB26 fun w211 hB212 hc213 => ?_)
  have hu214 := Up.step hu25 hc213 (fun i hi (h : i = b11) => by omega)
  have hB215 := hB22.ch hc213 (fun (h : b19 = b11) => by have := hB14.lt; omega)
  replace hB212 : Blk w211 b11 [.bool s.bold, .bool s.under, .bool s.turned, iX s.fore, iX 0] _ := Blk.to hB212 (by kernel_rfl)
  refine yE (nB (nS ?_))
  refine ysr <| yp 1 [] (.a (hB212.cs 0 5) .z) <| yo (yS hB215 fun w216 hB217 hc218 => ?_)
  have hu219 := Up.step hu214 hc218 (fun i hi (h : i = b19) => by omega)
  replace hB217 : Blk w216 b19 [.bool s.bold, .bool s.under, .bool s.turned, iX s.fore, iX 0] _ := Blk.to hB217 (by kernel_rfl)
  refine ye <| x_ret (yR1c (.agg #[.bool s.bold, .bool s.under, .bool s.turned, iX s.fore, iX 0]) (.a (hB217.cs 0 5) .z) ?_)
  first
   | (exfalso; omega)
   | (refine ⟨congrArg Ending.returned ?_, Up.ch hu219⟩
      unfold changeS
      repeat (first | rw [if_pos (by omega)] | rw [if_neg (by omega)])
      rfl)
 refine x_skip (nB (nS ?_))
 refine ysr <| yp 1 [] (.a (hB26.cs 0 5) .z) <| yo (yS hB22 fun w221 hB222 hc223 => ?_)
 have hu224 := Up.step hu25 hc223 (fun i hi (h : i = b19) => by omega)
 replace hB222 : Blk w221 b19 [.bool s.bold, .bool s.under, .bool s.turned, iX s.fore, iX s.back] _ := Blk.to hB222 (by kernel_rfl)
 refine ye <| x_ret (yR1c (.agg #[.bool s.bold, .bool s.under, .bool s.turned, iX s.fore, iX s.back]) (.a (hB222.cs 0 5) .z) ?_)
 first
  | (exfalso; omega)
  | (refine ⟨congrArg Ending.returned ?_, Up.ch hu224⟩
     unfold changeS
     repeat (first | rw [if_pos (by omega)] | rw [if_neg (by omega)])
     rfl)
theorem fold_take (s : Sty) (l : List Int) (k : Nat) (h : k < l.length) : changeS ((l.take k).foldl changeS s) (l.getD k 0) = (l.take (k + 1)).foldl changeS s := by
 rw [List.take_succ_eq_append_getElem h, List.foldl_append]
 simp [List.getD, List.getElem?_eq_getElem h]
theorem ints_cell {w : World} {b : Nat} {l : List Int} (h : Rd w (some ⟨b, 0, none⟩) (l.map (Value.int .i64))) (k : Nat) (hk : k < l.length) : w.cell? ⟨b, 0 + ((k : Nat) : Int).toNat * 1, none⟩ = some (iX (l.getD k 0)) := by
 rw [Int.toNat_natCast, Nat.mul_one]
 refine rd_at h k _ ?_
 rw [List.getElem?_map, List.getElem?_eq_getElem hk]
 simp [List.getD, List.getElem?_eq_getElem hk]
set_option maxHeartbeats 4000000 in
theorem changes_some (b n cap : Nat) (l : List Int) (s : Sty) (w : World) (hr : Rd w (some ⟨b, 0, none⟩) (l.map (Value.int .i64))) (hb : b < w.heap.size) (hn : l.length = n) (h0 : 0 < n) (h1 : n ≤ 1000) : Calls Tryz.prog 124 [.agg #[.bool s.bold, .bool s.under, .bool s.turned, iX s.fore, iX s.back], .slice (some ⟨b, 0, none⟩) n cap].toArray w fun e w' => e = .returned (.agg (changesS s l).vals.toArray) ∧ Ch (fun _ => False) w w' := by
 refine yA Tryz.func124 rfl <| ysr <| yo (yN [.bool s.bold, .bool s.under, .bool s.turned, iX s.fore, iX s.back] 43 fun w10 b11 hb12 hz13 hB14 hc15 => ?_)
 have hlo16 : w.heap.size ≤ b11 := by rw [hb12]; exact Ch.size (Up.refl w.heap.size w)
 have hu17 := Up.step (Up.refl w.heap.size w) hc15 iZ
 have hr18 := Ch.rd hc15 hr id
 refine yo (yN [.bool false, .bool false, .bool false, iX 0, iX 0] 43 fun w19 b20 hb21 hz22 hB23 hc24 => ?_)
 have hlo25 : w.heap.size ≤ b20 := by rw [hb21]; exact Ch.size hu17
 have hu26 := Up.step hu17 hc24 iZ
 have hr27 := Ch.rd hc24 hr18 id
 have hB28 := hB14.ch hc24 id
 refine ye <| ys <| ysr <| yp 3 [] .z <| ye <| yc (rE ((n : Nat) : Int) 0) (fun hC29 => ?_) fun hC29 => ?_
 ·exfalso; omega
 refine yk <| ys <| ysr <| yp 3 [] .z <| ye <| x_block <| ykeep [2, 4, 11, 12, 13] (f' := [(2, pX b11), (4, pX b20), (11, .slice (some ⟨b, 0, none⟩) n cap), (12, iX ((n : Nat) : Int)), (13, iX 0)]) <| x_loop (σ := Nat) (fun k => [(2, pX b11), (4, pX b20), (11, .slice (some ⟨b, 0, none⟩) n cap), (12, iX ((n : Nat) : Int)), (13, iX ((k : Nat) : Int))]) (fun k u => k ≤ n ∧ Blk u b11 (Sty.vals ((l.take k).foldl changeS s)) 43 ∧ Ch (fun j => j = b11) w19 u) (fun k => n - k) 0 rfl ?_ ?_
 ·exact ⟨Nat.zero_le _, hB28, Ch.refl _ _⟩
 intro k w30 hI31 K32 hL33
 obtain ⟨hk34, hB35, hc36⟩ := hI31
 have hu37 := Up.step hu26 hc36 (fun i hi (h : i = b11) => by omega)
 have hr38 := Ch.rd hc36 hr27 (fun (h : b = b11) => by have := (Nat.lt_of_lt_of_le hb (Ch.size (Up.refl w.heap.size w))); omega)
 have hB39 := hB23.ch hc36 (fun (h : b20 = b11) => by have := hB14.lt; omega)
 refine ysr <| yp 1 [] .z <| ye <| ys <| yc (rL ((k : Nat) : Int) ((n : Nat) : Int)) (fun hC40 => ?_) fun hC40 => ?_
 ·refine yk <| ys <| x_block <| ysr <| yp 3 [] (.i ((k : Nat) : Int) (n) (.l (o := (0 + (((k : Nat) : Int)).toNat * 1)) (ints_cell hr38 k (by omega)) .z)) <| ye <| x_region <| yp 2 [] (.a (hB35.cs 0 5) .z) <| yo (yQ (change_any ((l.take k).foldl changeS s) (l.getD k 0) _) fun w42 hc41 => ?_)
  have hL44 := Ch.trans hc36 hc41 eZ
  have hB45 := hB35.ch hc41 id
  refine yo (yS hB45 fun w48 hB49 hc50 => ?_)
  have hL52 := Ch.trans hL44 hc50 iZ
  replace hB49 : Blk w48 b11 [.bool (changeS ((l.take k).foldl changeS s) (l.getD k 0)).bold, .bool (changeS ((l.take k).foldl changeS s) (l.getD k 0)).under, .bool (changeS ((l.take k).foldl changeS s) (l.getD k 0)).turned, iX (changeS ((l.take k).foldl changeS s) (l.getD k 0)).fore, iX (changeS ((l.take k).foldl changeS s) (l.getD k 0)).back] _ := Blk.to hB49 (by kernel_rfl)
  refine yE (nB (nS ?_))
  refine x_region <| yp 2 [] (.q6 (((k : Nat) : Int) + 1) .z) <| yE (fun a ha => hL33 (k + 1) _ ⟨by omega, (by rw [← fold_take s l k (by omega)]; exact hB49), hL52⟩ (by show n - (k + 1) < n - k; omega) a (ha.kp [2, 4, 11, 12, 13]))
 have hkn : k = n := by omega
 refine x_exit (eS (then_exit (block_exit (nS ?_))))
 refine ysr <| yp 1 [] (.a (hB35.cs 0 5) .z) <| yo (yS hB39 fun w55 hB56 hc57 => ?_)
 have hu58 := Up.step hu37 hc57 (fun i hi (h : i = b20) => by omega)
 replace hB56 : Blk w55 b20 [.bool ((l.take k).foldl changeS s).bold, .bool ((l.take k).foldl changeS s).under, .bool ((l.take k).foldl changeS s).turned, iX ((l.take k).foldl changeS s).fore, iX ((l.take k).foldl changeS s).back] _ := Blk.to hB56 (by kernel_rfl)
 refine ye <| x_ret (yR1c (.agg #[.bool ((l.take k).foldl changeS s).bold, .bool ((l.take k).foldl changeS s).under, .bool ((l.take k).foldl changeS s).turned, iX ((l.take k).foldl changeS s).fore, iX ((l.take k).foldl changeS s).back]) (.a (hB56.cs 0 5) .z) ?_)
 rw [List.take_of_length_le (by omega)] at *
 refine ⟨congrArg Ending.returned ?_, Up.ch hu58⟩
 unfold changesS
 rw [if_neg (by intro e; subst e; simp at hn; omega)]
 rfl
set_option maxHeartbeats 4000000 in
theorem changes_none (a0 : Option Addr) (cap : Nat) (s : Sty) (w : World) : Calls Tryz.prog 124 [.agg #[.bool s.bold, .bool s.under, .bool s.turned, iX s.fore, iX s.back], .slice a0 0 cap].toArray w fun e w' => e = .returned (.agg (changesS s []).vals.toArray) ∧ Ch (fun _ => False) w w' := by
 refine yA Tryz.func124 rfl <| ysr <| yo (yN [.bool s.bold, .bool s.under, .bool s.turned, iX s.fore, iX s.back] 43 fun w10 b11 hb12 hz13 hB14 hc15 => ?_)
 have hlo16 : w.heap.size ≤ b11 := by rw [hb12]; exact Ch.size (Up.refl w.heap.size w)
 have hu17 := Up.step (Up.refl w.heap.size w) hc15 iZ
 refine yo (yN [.bool false, .bool false, .bool false, iX 0, iX 0] 43 fun w18 b19 hb20 hz21 hB22 hc23 => ?_)
 have hlo24 : w.heap.size ≤ b19 := by rw [hb20]; exact Ch.size hu17
 have hu25 := Up.step hu17 hc23 iZ
 have hB26 := hB14.ch hc23 id
 refine ye <| ys <| ysr <| yp 3 [] .z <| ye <| yct <| x_region <| yo (e_bs [iX 0] 3 1 (some 10) (by kernel_rfl) ?_)
 intro w27 b28 hb29 hz30 hB31 hc32
 have hlo33 : w.heap.size ≤ b28 := by rw [hb29]; exact Ch.size hu25
 have hu34 := Up.step hu25 hc32 iZ
 have hB35 := hB26.ch hc32 id
 have hB36 := hB22.ch hc32 id
 refine yp 2 [] .z <| ye <| ys <| ysr <| yp 3 [] .z <| ye <| x_block <| ykeep [2, 4, 11, 12, 13] (f' := [(2, pX b11), (4, pX b19), (11, .slice (some ⟨b28, 0, none⟩) 1 1), (12, iX 1), (13, iX 0)]) <| x_loop (σ := Nat) (fun k => [(2, pX b11), (4, pX b19), (11, .slice (some ⟨b28, 0, none⟩) 1 1), (12, iX 1), (13, iX ((k : Nat) : Int))]) (fun k u => k ≤ 1 ∧ Blk u b11 (Sty.vals ((([0] : List Int).take k).foldl changeS s)) 43 ∧ Ch (fun j => j = b11) w27 u) (fun k => 1 - k) 0 rfl ?_ ?_
 ·exact ⟨Nat.zero_le _, hB35, Ch.refl _ _⟩
 intro k w37 hI38 K39 hL40
 obtain ⟨hk41, hB42, hc43⟩ := hI38
 have hu44 := Up.step hu34 hc43 (fun i hi (h : i = b11) => by omega)
 have hB45 := hB36.ch hc43 (fun (h : b19 = b11) => by have := hB14.lt; omega)
 have hB46 := hB31.ch hc43 (fun (h : b28 = b11) => by have := hB26.lt; omega)
 refine ysr <| yp 1 [] .z <| ye <| ys <| yc (rL ((k : Nat) : Int) 1) (fun hC47 => ?_) fun hC47 => ?_
 ·refine yk <| ys <| x_block <| ysr <| yp 3 [] (.i ((k : Nat) : Int) (1) (.l (o := (0 + (((k : Nat) : Int)).toNat * 1)) (ints_cell (l := [0]) (Rd.all hB46) k (by simp only [List.length_cons, List.length_nil]; omega)) .z)) <| ye <| x_region <| yp 2 [] (.a (hB42.cs 0 5) .z) <| yo (yQ (change_any ((([0] : List Int).take k).foldl changeS s) (([0] : List Int).getD k 0) _) fun w49 hc48 => ?_)
  have hL51 := Ch.trans hc43 hc48 eZ
  have hB52 := hB42.ch hc48 id
  refine yo (yS hB52 fun w55 hB56 hc57 => ?_)
  have hL59 := Ch.trans hL51 hc57 iZ
  replace hB56 : Blk w55 b11 [.bool (changeS ((([0] : List Int).take k).foldl changeS s) (([0] : List Int).getD k 0)).bold, .bool (changeS ((([0] : List Int).take k).foldl changeS s) (([0] : List Int).getD k 0)).under, .bool (changeS ((([0] : List Int).take k).foldl changeS s) (([0] : List Int).getD k 0)).turned, iX (changeS ((([0] : List Int).take k).foldl changeS s) (([0] : List Int).getD k 0)).fore, iX (changeS ((([0] : List Int).take k).foldl changeS s) (([0] : List Int).getD k 0)).back] _ := Blk.to hB56 (by kernel_rfl)
  refine yE (nB (nS ?_))
  refine x_region <| yp 2 [] (.q6 (((k : Nat) : Int) + 1) .z) <| yE (fun a ha => hL40 (k + 1) _ ⟨by omega, (by rw [← fold_take s [0] k (by simp only [List.length_cons, List.length_nil]; omega)]; exact hB56), hL59⟩ (by show 1 - (k + 1) < 1 - k; omega) a (ha.kp [2, 4, 11, 12, 13]))
 have hkn : k = 1 := by omega
 refine x_exit (eS (then_exit (block_exit (nS ?_))))
 refine ysr <| yp 1 [] (.a (hB42.cs 0 5) .z) <| yo (yS hB45 fun w62 hB63 hc64 => ?_)
 have hu65 := Up.step hu44 hc64 (fun i hi (h : i = b19) => by omega)
 replace hB63 : Blk w62 b19 [.bool ((([0] : List Int).take k).foldl changeS s).bold, .bool ((([0] : List Int).take k).foldl changeS s).under, .bool ((([0] : List Int).take k).foldl changeS s).turned, iX ((([0] : List Int).take k).foldl changeS s).fore, iX ((([0] : List Int).take k).foldl changeS s).back] _ := Blk.to hB63 (by kernel_rfl)
 refine ye <| x_ret (yR1c (.agg #[.bool ((([0] : List Int).take k).foldl changeS s).bold, .bool ((([0] : List Int).take k).foldl changeS s).under, .bool ((([0] : List Int).take k).foldl changeS s).turned, iX ((([0] : List Int).take k).foldl changeS s).fore, iX ((([0] : List Int).take k).foldl changeS s).back]) (.a (hB63.cs 0 5) .z) ?_)
 subst hkn
 exact ⟨rfl, Up.ch hu65⟩
end Go.Proofs.YteoejhjfbfacdaaGreatDoor.X
namespace Go.Proofs.YteoejhjfbfacdaaGreatDoor.X
open Go Go.RowKit Go.Proofs.YteoejhjfbfacdaaGreatDoor
set_option maxHeartbeats 4000000 in
theorem cloneL_some (ad : Addr) (n cap : Nat) (rows : List Row) (w : World) (hr : Rd w (some ad) (rows.map Row.val)) (hn : rows.length = n) (hnb : n ≤ 1000000) : Calls Tryz.prog 111 [.slice (some ad) n cap].toArray w fun e w' => ∃ o cap', e = .returned (.slice (o.map at0) n cap') ∧ Own w' tLine 1 o n cap' (rows.map Row.val) ∧ (∀ b, o = some b → w.heap.size ≤ b) ∧ Ch (fun _ => False) w w' := by
 refine yA Tryz.func111 rfl <| ysr <| yp 1 [] .z <| ye <| ys <| ysr <| yp 2 [] .z <| ye <| yc (rY ((some ad)).isNone) (fun hC10 => ?_) fun hC10 => ?_
 ·exact absurd hC10 (by simp)
 refine yk <| ysr <| yo (e_bs0 85 (some 5) (by kernel_rfl) ?_)
 intro w11 b12 hb13 hz14 hB15 hc16
 have hlo17 : w.heap.size ≤ b12 := by rw [hb13]; exact Ch.size (Up.refl w.heap.size w)
 have hu18 := Up.step (Up.refl w.heap.size w) hc16 iZ
 have hr19 := hr.ch hc16 iZ
 refine yp 2 [] .z ?_
 refine yo (e_app' 85 1 24 (some b12) 0 0 [] (some ad) n cap (rows.map Row.val) (some 7) n (Nat.zero_add _) (rows.map Row.val) rfl (by kernel_rfl) (Own.blk hB15 rfl (Nat.zero_le _)) hr19 (by rw [List.length_map, hn, Nat.mul_one]) (by exact rows_one _) (fun h => by cases h) (by constructor <;> (first | omega | (simp only [maxLen]; omega))) ?_)
 intro w20 og21 cp22 hO23 hne24 hpos25 hc26
 obtain ⟨g27, rfl⟩ : ∃ g, og21 = some g := by rcases hne24 with h | ⟨g, h, _⟩ <;> exact ⟨_, h⟩
 replace hc26 := ch_some hc26
 have hu28 := Up.step hu18 hc26 (fun i hi (h : i = b12) => by omega)
 refine yp 4 [] .z <| ye <| x_ret (yR1 (.slice (some ⟨g27, 0, none⟩) n cp22) ?_)
 exact ⟨some g27, cp22, rfl, hO23, (fun b e => by cases e; exact new_le hne24 (by omega) (Ch.size hu18)), Up.ch hu28⟩
set_option maxHeartbeats 4000000 in
theorem cloneL_none (w : World) : Calls Tryz.prog 111 [.slice none 0 0].toArray w fun e w' => ∃ o cap', e = .returned (.slice (o.map at0) 0 cap') ∧ Own w' tLine 1 o 0 cap' (([] : List Row).map Row.val) ∧ (∀ b, o = some b → w.heap.size ≤ b) ∧ Ch (fun _ => False) w w' := by
 refine yA Tryz.func111 rfl <| ysr <| yp 1 [] .z <| ye <| ys <| ysr <| yp 2 [] .z <| ye <| yct <| ysr <| yp 1 [] .z <| ye <| x_ret (rS (yR1 (.slice none 0 0) ?_))
 exact ⟨none, 0, rfl, Own.nil _ _ _, (fun b e => by cases e), Up.ch (Up.refl w.heap.size w)⟩
theorem cloneL_any {a : Option Addr} {n cap : Nat} {rows : List Row} {K : Nat → Prop} (w : World) (h : LinesAt w a n rows K) (hc : a = none → cap = 0) (hnb : n ≤ 1000000) : Calls Tryz.prog 111 [.slice a n cap].toArray w fun e w' => ∃ o cap', e = .returned (.slice (o.map at0) n cap') ∧ Own w' tLine 1 o n cap' (rows.map Row.val) ∧ (∀ b, o = some b → w.heap.size ≤ b) ∧ Ch (fun _ => False) w w' := by
 cases a with
 | some ad => exact cloneL_some ad n cap rows w h.rd h.len hnb
 | none =>
  have e0 := h.rd.1 rfl
  have e1 : rows = [] := by simpa using e0
  subst e1
  have e2 := h.len
  simp at e2
  subst e2
  rw [hc rfl]
  exact cloneL_none w
end Go.Proofs.YteoejhjfbfacdaaGreatDoor.X
namespace Go.Proofs.YteoejhjfbfacdaaGreatDoor.X
open Go Go.RowKit Go.Proofs.YteoejhjfbfacdaaGreatDoor
def keepB (l m : List (List Cel)) : List (List Cel) := (l ++ m).drop ((l ++ m).length - 20)
theorem lines_drop {w : World} {b n cap k : Nat} {rows : List Row} {K : Nat → Prop} (h : Own w tLine 1 (some b) n cap (rows.map Row.val)) (hl : ∀ x ∈ rows, LineAt w x.b x.l x.cap ∧ x.l.length = x.n) (hK : ∀ x ∈ rows, K x.b) (hb : K b)
  (hlt : ∀ b, K b → b < w.heap.size ∧ gTop ≤ b) (hk : k ≤ n) : LinesAt w (some ⟨b, if cap = k then 0 else 0 + k * 1, none⟩) (n - k) (rows.drop k) K := by
 have hn := h.1
 rw [List.length_map, Nat.mul_one] at hn
 refine ⟨?_, by rw [List.length_drop, hn], fun x hx => hl x (List.mem_of_mem_drop hx), fun x hx => hK x (List.mem_of_mem_drop hx), (fun ad e => by cases e; exact hb), fun b hb => (hlt b hb).1, fun b hb => (hlt b hb).2⟩
 have := own_from (k := k) (m := n - k) h (Nat.le_refl _)
 rwa [List.take_of_length_le (by rw [List.length_drop, List.length_map]; omega), ← List.map_drop] at this
theorem lines_of_own {w : World} {o : Option Nat} {n cap : Nat} {rows : List Row} {K : Nat → Prop} (h : Own w tLine 1 o n cap (rows.map Row.val)) (hl : ∀ x ∈ rows, LineAt w x.b x.l x.cap ∧ x.l.length = x.n) (hK : ∀ x ∈ rows, K x.b) (hb : ∀ b, o = some b → K b)
  (hlt : ∀ b, K b → b < w.heap.size ∧ gTop ≤ b) : LinesAt w (o.map at0) n rows K := by
 have hn := h.1
 rw [List.length_map, Nat.mul_one] at hn
 refine ⟨h.rd, hn, hl, hK, fun ad e => ?_, fun b hb => (hlt b hb).1, fun b hb => (hlt b hb).2⟩
 cases o with
 | none => cases e
 | some b => cases e; exact hb b rfl
section
variable {w w' : World} {t g o : Nat} {ba : Option Addr} {bn bc : Nat} {pa : Option Addr} {pn pc : Nat} {T : TS} {F F1 F2 FB FP : Nat → Prop}
theorem TermIn.newBack (h : TermIn w t g o ba bn bc pa pn pc T F F1 F2 FB FP) (hc : Ch (fun j => j = t) w w') {B : List (List Cel)} {ba' : Option Addr} {bn' bc' : Nat} {K : Nat → Prop} {rows : List Row}
  (hb : Blk w' t (({ T with back := B } : TS).vals g o (.slice ba' bn' bc') (.slice pa pn pc)) tTerm) (hL : LinesAt w' ba' bn' rows (fun b => FB b ∨ K b ∨ (w.heap.size ≤ b ∧ b < w'.heap.size))) (hB : rows.map Row.l = B) (hcap : bn' ≤ bc' ∧ (ba' = none → bc' = 0)) (hz : ba' = none ∨ ∃ b off, ba' = some ⟨b, off, none⟩)
  (hK : ∀ b, K b → F b ∧ ¬ F1 b ∧ ¬ F2 b ∧ b ≠ t) : TermIn w' t g o ba' bn' bc' pa pn pc ({ T with back := B } : TS) (more F w w') F1 F2 (fun b => FB b ∨ K b ∨ (w.heap.size ≤ b ∧ b < w'.heap.size)) FP := by
 have hlt1 : ∀ b, F1 b → b < w.heap.size := h.g1.lt
 have hlt2 : ∀ b, F2 b → b < w.heap.size := h.g2.lt
 have htl := h.blk.lt
 exact
 {blk := hb
  g1 := h.g1.ch hc fun b hb e => h.t1 (e ▸ hb)
  g2 := h.g2.ch hc fun b hb e => h.t2 (e ▸ hb)
  bk := ⟨rows, hL, hB⟩
  bcap := hcap
  ps := ⟨h.ps.1.ch hc fun ad e e2 => h.tP (e2 ▸ h.ps.2.2.2 ad e), h.ps.2⟩
  pz := h.pz
  bz := hz
  t1 := h.t1, t2 := h.t2
  tB := fun hx => hx.elim h.tB fun hx => hx.elim (fun hx => (hK t hx).2.2.2 rfl) fun hx => by omega
  tP := h.tP, a12 := h.a12
  a1B := fun b h1 hx => hx.elim (h.a1B b h1) fun hx => hx.elim (fun hx => (hK b hx).2.1 h1) fun hx => by have := hlt1 b h1; omega
  a2B := fun b h1 hx => hx.elim (h.a2B b h1) fun hx => hx.elim (fun hx => (hK b hx).2.2.1 h1) fun hx => by have := hlt2 b h1; omega
  a1P := h.a1P, a2P := h.a2P
  inF := ⟨.inl h.inF.1, fun b hb => .inl (h.inF.2.1 b hb), fun b hb => .inl (h.inF.2.2.1 b hb), fun b hb => hb.elim (fun hb => .inl (h.inF.2.2.2.1 b hb)) fun hb => hb.elim (fun hb => .inl (hK b hb).1) .inr, fun b hb => .inl (h.inF.2.2.2.2 b hb)⟩
  lt := fun b hb => hb.elim (fun hb => Nat.lt_of_lt_of_le (h.lt b hb) hc.size) fun hb => hb.2
  hi := fun b hb => hb.elim (h.hi b) fun hb => by have := h.hi t h.inF.1; omega }
end
end Go.Proofs.YteoejhjfbfacdaaGreatDoor.X
namespace Go.Proofs.YteoejhjfbfacdaaGreatDoor.X
open Go Go.RowKit Go.Proofs.YteoejhjfbfacdaaGreatDoor
set_option maxHeartbeats 4000000 in
theorem keep_any {w : World} {t g o : Nat} {ba : Option Addr} {bn bc : Nat} {pa : Option Addr} {pn pc : Nat} {T : TS} {F F1 F2 FB FP : Nat → Prop} (hI : TermIn w t g o ba bn bc pa pn pc T F F1 F2 FB FP) {la : Option Addr} {ln lc : Nat} {outs : List Row} {K : Nat → Prop} (hL : LinesAt w la ln outs K) (hlc : la = none → lc = 0) (hK : ∀ b, K b → F b ∧ ¬ F1 b ∧ ¬ F2 b ∧ b ≠ t) (hbn : bn ≤ 1000) (hln : ln ≤ 1000) : Calls Tryz.prog 65 [pX t, .slice la ln lc].toArray w fun e w' =>
    ∃ ba' bn' bc', e = .returned (.tuple #[]) ∧ TermIn w' t g o ba' bn' bc' pa pn pc ({ T with back := keepB T.back (outs.map Row.l) } : TS) (more F w w') F1 F2 (fun b => FB b ∨ K b ∨ (w.heap.size ≤ b ∧ b < w'.heap.size)) FP ∧ Ch (fun j => j = t) w w' := by
  have hgd := hI.g1.head
  obtain ⟨gv, hgd⟩ := hgd
  obtain ⟨⟨hw1, hw2⟩, ⟨hh1, hh2⟩, hll, hall⟩ := hI.g1.ok
  have htg : Df t g := fun e => hI.t1 (e ▸ hI.g1.inF)
  obtain ⟨rows, hLB, hrl⟩ := hI.bk
  refine yA Tryz.func65 rfl ?_
  refine ysr ?_
  refine yp 5 [] (.l (hI.blk.c 97) .z) ?_
  refine yo (yC (cloneL_any _ (hLB.ch (Ch.refl (fun j => j = t) w) (fun b hb e => hI.tB (e ▸ hb))) hI.bcap.2 (by omega)) ?_)
  rintro _ w14 ⟨oc10, cc11, rfl, hO12, hnew, hc13⟩
  refine ⟨_, rfl, ?_⟩
  have hS15 := Ch.trans (Ch.refl (fun j => j = t) w) hc13 eZ
  have ht17 := hI.blk.ch hc13 id
  refine yp 7 [] .z ?_
  have hszc := Ch.size hS15
  refine yo (e_app' 85 1 24 oc10 bn cc11 (rows.map Row.val) la ln lc (outs.map Row.val) (some 11) (bn + ln) rfl ((rows ++ outs).map Row.val) List.map_append.symm (by kernel_rfl) hO12 (hL.ch hS15 (fun b hb e => (hK b hb).2.2.2 e)).rd (by rw [List.length_map, hL.len, Nat.mul_one]) (rows_one _) hlc (by constructor <;> first | omega | (simp only [maxLen]; omega)) ?_)
  intro w19 o2 c2 hO2 hne2 hpos2 hc20
  have hS21 := Ch.trans hS15 hc20 (fun i hi h => by have := hnew _ h; omega)
  have ht22 := ht17.ch hc20 (fun h => by have := hnew _ h; have := hI.blk.lt; omega)
  have hnew2 : ∀ b, o2 = some b → w.heap.size ≤ b := fun b e => by
    rcases hne2 with h | ⟨g', h, h'⟩
    · exact hnew b (h ▸ e)
    · rw [h] at e; have := Option.some.inj e; omega
  have hnt : ∀ b, o2 = some b → ¬ b = t := fun b e h => by have := hnew2 b e; have := hI.blk.lt; omega
  rcases o2 with _ | b2
  · obtain ⟨hz1, hz2⟩ := hO2.2.2.2.1 rfl
    refine yp 10 [] .z ?_
    refine yo (yS ht22 fun w24 hB25 hc26 => ?_)
    have hS28 := Ch.trans hS21 hc26 (fun i hi (h : i = t) => h)
    have ho30 := hO2.ch hc26 (fun b e (h : b = t) => hnt b e h)
    refine ye ?_
    refine yD [15] fun w31 hH32 hc33 => ?_
    have hS34 := Ch.trans hS28 hc33 eZ
    have ho36 := ho30.ch hc33 iZ
    have ht37 := hB25.ch hc33 id
    refine yd (uL 0 15) [] (.l (ht37.c 97) (.l (ht37.c 97) (.q6 ((((bn + ln) : Nat) : Int) - 20) (.j (max (((((bn + ln) : Nat) : Int) - 20) : Int) 0) ((bn + ln)) .z)))) ?_
    refine yK 15 (yS ht37 fun w38 hB39 hc40 => ?_)
    have hS42 := Ch.trans hS34 hc40 (fun i hi (h : i = t) => h)
    have ho44 := ho36.ch hc40 (fun b e (h : b = t) => hnt b e h)
    refine x_killed ?_
    refine yDe (yR0' ?_)
    have hchT := hS42
    have hlr : ∀ x ∈ rows ++ outs, LineAt w38 x.b x.l x.cap ∧ x.l.length = x.n := fun x hx => by
      rcases List.mem_append.1 hx with hx | hx
      · exact ⟨(hLB.line x hx).1.ch hchT (fun e => hI.tB (e ▸ hLB.inK x hx)), (hLB.line x hx).2⟩
      · exact ⟨(hL.line x hx).1.ch hchT (fun e => (hK _ (hL.inK x hx)).2.2.2 e), (hL.line x hx).2⟩
    have hkr : ∀ x ∈ rows ++ outs, FB x.b ∨ K x.b ∨ (w.heap.size ≤ x.b ∧ x.b < w38.heap.size) := fun x hx => (List.mem_append.1 hx).elim (fun hx => .inl (hLB.inK x hx)) (fun hx => .inr (.inl (hL.inK x hx)))
    have hlt : ∀ b, (FB b ∨ K b ∨ (w.heap.size ≤ b ∧ b < w38.heap.size)) → b < w38.heap.size ∧ gTop ≤ b := fun b hb => by
      have := hchT.size
      have h7 := hI.hi t hI.inF.1
      have h8 := hI.blk.lt
      rcases hb with hb | hb | hb
      · have := hLB.lt b hb; have := hLB.hi b hb; omega
      · have := hL.lt b hb; have := hL.hi b hb; omega
      · omega
    have hLn := lines_of_own (o := none) ho44 hlr hkr (fun b e => by cases e) hlt
    have hrz : rows ++ outs = [] := List.eq_nil_of_length_eq_zero (by have := hLn.len; omega)
    have hLn2 : LinesAt w38 none ((bn + ln) - (max (((bn + ln : Nat) : Int) - 20) 0).toNat) ([] : List Row) (fun b => FB b ∨ K b ∨ (w.heap.size ≤ b ∧ b < w38.heap.size)) := by
      have e0 : (bn + ln) - (max (((bn + ln : Nat) : Int) - 20) 0).toNat = bn + ln := by omega
      rw [e0, ← hrz]; exact hLn
    exact ⟨_, _, _, rfl, hI.newBack hchT (Blk.to (cs' := (TS.vals ({ T with back := (keepB T.back (outs.map Row.l)) } : TS) g o (.slice none ((bn + ln) - ((max (((((bn + ln) : Nat) : Int) - 20) : Int) 0) : Int).toNat) (c2 - ((max (((((bn + ln) : Nat) : Int) - 20) : Int) 0) : Int).toNat)) (.slice pa pn pc))) hB39 (by kernel_rfl)) hLn2 (by unfold keepB; rw [← hrl, ← List.map_append, hrz]; rfl) ⟨by omega, fun _ => by omega⟩ (.inl rfl) hK, hchT⟩
  · have hcap2 := hO2.2.1
    refine yp 10 [] .z ?_
    refine yo (yS ht22 fun w45 hB46 hc47 => ?_)
    have hS49 := Ch.trans hS21 hc47 (fun i hi (h : i = t) => h)
    have ho51 := hO2.ch hc47 (fun b e (h : b = t) => hnt b e h)
    refine ye ?_
    refine yD [15] fun w52 hH53 hc54 => ?_
    have hS55 := Ch.trans hS49 hc54 eZ
    have ho57 := ho51.ch hc54 iZ
    have ht58 := hB46.ch hc54 id
    refine yd (uL 0 15) [] (.l (ht58.c 97) (.l (ht58.c 97) (.q6 ((((bn + ln) : Nat) : Int) - 20) (.j (max (((((bn + ln) : Nat) : Int) - 20) : Int) 0) ((bn + ln)) .z)))) ?_
    refine yK 15 (yS ht58 fun w59 hB60 hc61 => ?_)
    have hS63 := Ch.trans hS55 hc61 (fun i hi (h : i = t) => h)
    have ho65 := ho57.ch hc61 (fun b e (h : b = t) => hnt b e h)
    refine x_killed ?_
    refine yDe (yR0' ?_)
    have hchT := hS63
    have hlr : ∀ x ∈ rows ++ outs, LineAt w59 x.b x.l x.cap ∧ x.l.length = x.n := fun x hx => by
      rcases List.mem_append.1 hx with hx | hx
      · exact ⟨(hLB.line x hx).1.ch hchT (fun e => hI.tB (e ▸ hLB.inK x hx)), (hLB.line x hx).2⟩
      · exact ⟨(hL.line x hx).1.ch hchT (fun e => (hK _ (hL.inK x hx)).2.2.2 e), (hL.line x hx).2⟩
    have hkr : ∀ x ∈ rows ++ outs, FB x.b ∨ K x.b ∨ (w.heap.size ≤ x.b ∧ x.b < w59.heap.size) := fun x hx => (List.mem_append.1 hx).elim (fun hx => .inl (hLB.inK x hx)) (fun hx => .inr (.inl (hL.inK x hx)))
    have hlt : ∀ b, (FB b ∨ K b ∨ (w.heap.size ≤ b ∧ b < w59.heap.size)) → b < w59.heap.size ∧ gTop ≤ b := fun b hb => by
      have := hchT.size
      have h7 := hI.hi t hI.inF.1
      have h8 := hI.blk.lt
      rcases hb with hb | hb | hb
      · have := hLB.lt b hb; have := hLB.hi b hb; omega
      · have := hL.lt b hb; have := hL.hi b hb; omega
      · omega
    have hLn := lines_drop (k := (max (((bn + ln : Nat) : Int) - 20) 0).toNat) ho65 hlr hkr (.inr (.inr ⟨hnew2 _ rfl, ho65.lt⟩)) hlt (by omega)
    exact ⟨_, _, _, rfl, hI.newBack hchT (Blk.to (cs' := (TS.vals ({ T with back := (keepB T.back (outs.map Row.l)) } : TS) g o (.slice (some ⟨b2, (if c2 = ((max (((((bn + ln) : Nat) : Int) - 20) : Int) 0) : Int).toNat then 0 else 0 + ((max (((((bn + ln) : Nat) : Int) - 20) : Int) 0) : Int).toNat * 1), none⟩) ((bn + ln) - ((max (((((bn + ln) : Nat) : Int) - 20) : Int) 0) : Int).toNat) (c2 - ((max (((((bn + ln) : Nat) : Int) - 20) : Int) 0) : Int).toNat)) (.slice pa pn pc))) hB60 (by kernel_rfl)) (by simpa only [Nat.zero_add] using hLn) (by unfold keepB; rw [← hrl, ← List.map_append, List.length_map, List.length_append, hLB.len, hL.len, List.map_drop]; congr 1; omega) ⟨by omega, (fun e => by cases e)⟩ (.inr ⟨_, _, rfl⟩) hK, hchT⟩
end Go.Proofs.YteoejhjfbfacdaaGreatDoor.X
namespace Go.Proofs.YteoejhjfbfacdaaGreatDoor.X
open Go Go.RowKit Go.Proofs.YteoejhjfbfacdaaGreatDoor
theorem more_le {F : Nat → Prop} {w wq w' : World} (h : w.heap.size ≤ wq.heap.size) : ∀ b, more F wq w' b → more F w w' b := fun b hb => hb.elim .inl fun h2 => .inr ⟨by omega, h2.2⟩
theorem TermIn.moreOk {w w' : World} {t g o : Nat} {ba : Option Addr} {bn bc : Nat} {pa : Option Addr} {pn pc : Nat} {T : TS} {F F1 F2 FB FP : Nat → Prop} (hI : TermIn w t g o ba bn bc pa pn pc T F F1 F2 FB FP) (hs : w.heap.size ≤ w'.heap.size) :
  ∀ b, more F w w' b → b < w'.heap.size ∧ gTop ≤ b := fun b hb => hb.elim (fun h => ⟨Nat.lt_of_lt_of_le (hI.lt b h) hs, hI.hi b h⟩) fun h => ⟨h.2, by have := hI.hi t hI.inF.1; have := hI.blk.lt; omega⟩
def scrollT (T : TS) (n : Int) : TS :=
 if (!T.alt) = true ∧ T.top = 0 then { T with grid := upG T.grid T.top T.bot n T.cursor.sty, back := keepB T.back (outG T.grid T.top T.bot n T.cursor.sty) }
 else { T with grid := upG T.grid T.top T.bot n T.cursor.sty }
theorem outsN_len (t e : Nat) (b : List Cel) (k : Nat) (L : List (List Cel)) : (outsN t e b k L).length = k := by
 induction k with
 | zero => rfl
 | succ k ih => simp [outsN, ih]
section
variable {w w' : World} {t g o : Nat} {ba : Option Addr} {bn bc : Nat} {pa : Option Addr} {pn pc : Nat} {T : TS} {F F1 F2 FB FP : Nat → Prop}
theorem TermIn.grid1 (h : TermIn w t g o ba bn bc pa pn pc T F F1 F2 FB FP) (hc : Ch F1 w w') {G' : Gr} {F1' : Nat → Prop} (hG : GridAt w' g G' F1') (hF : ∀ b, F1' b → more F1 w w' b) :
  TermIn w' t g o ba bn bc pa pn pc ({ T with grid := G' } : TS) (more F w w') F1' F2 FB FP := by
 have hlt2 : ∀ b, F2 b → b < w.heap.size := h.g2.lt
 have hltF : ∀ b, F b → b < w.heap.size := h.lt
 have htl := h.blk.lt
 obtain ⟨rows, hL, hl⟩ := h.bk
 have ap : ∀ (X : Nat → Prop), (∀ b, X b → F b) → (∀ b, F1 b → ¬ X b) → ∀ b, F1' b → ¬ X b := fun X hX ha b hb hx => by
  rcases hF b hb with h1 | h1
  ·exact ha b h1 hx
  ·have := hltF b (hX b hx); omega
 exact
 {blk := h.blk.ch hc h.t1
  g1 := hG
  g2 := h.g2.ch hc fun b h2 h1 => h.a12 b h1 h2
  bk := ⟨rows, hL.ch hc fun b hb h1 => h.a1B b h1 hb, hl⟩
  bcap := h.bcap
  ps := ⟨h.ps.1.ch hc fun ad e h1 => h.a1P _ h1 (h.ps.2.2.2 ad e), h.ps.2⟩
  pz := h.pz
  bz := h.bz
  t1 := fun hb => by
   rcases hF t hb with h1 | h1
   ·exact h.t1 h1
   ·omega
  t2 := h.t2, tB := h.tB, tP := h.tP
  a12 := ap F2 h.inF.2.2.1 h.a12
  a1B := ap FB h.inF.2.2.2.1 h.a1B
  a2B := h.a2B
  a1P := ap FP h.inF.2.2.2.2 h.a1P
  a2P := h.a2P
  inF := ⟨.inl h.inF.1, fun b hb => (hF b hb).elim (fun h1 => .inl (h.inF.2.1 b h1)) .inr, fun b hb => .inl (h.inF.2.2.1 b hb), fun b hb => .inl (h.inF.2.2.2.1 b hb), fun b hb => .inl (h.inF.2.2.2.2 b hb)⟩
  lt := fun b hb => hb.elim (fun hb => Nat.lt_of_lt_of_le (hltF b hb) hc.size) fun hb => hb.2
  hi := fun b hb => hb.elim (h.hi b) fun hb => by have := h.hi t h.inF.1; omega }
theorem Ch.on {F : Nat → Prop} {w w1 w2 : World} {t : Nat} (h : Ch F w w1) (k : Ch (fun j => j = t) w1 w2) (ht : F t) : Ch F w w2 := h.trans k fun _ _ e => e ▸ ht
theorem TermIn.pk1 {g' o' : Nat} {ba' : Option Addr} {bn' bc' : Nat} {pa' : Option Addr} {pn' pc' : Nat} {T' : TS} {F1' F2' FB' FP' : Nat → Prop} (h' : TermIn w' t g' o' ba' bn' bc' pa' pn' pc' T' F F1' F2' FB' FP') (h : TermIn w t g o ba bn bc pa pn pc T F F1 F2 FB FP) (hX : Ch F w w') : TermAt w' t T' (more F w w') :=
 ⟨_, _, _, _, _, _, _, _, _, _, _, _, h'.mono (fun _ h => .inl h) (h.moreOk hX.size)⟩
theorem TermIn.pk2 {w1 : World} {B : Nat → Prop} {g' o' : Nat} {ba' : Option Addr} {bn' bc' : Nat} {pa' : Option Addr} {pn' pc' : Nat} {T' : TS} {F1' F2' FB' FP' : Nat → Prop} (h' : TermIn w' t g' o' ba' bn' bc' pa' pn' pc' T' (more F w w1) F1' F2' FB' FP') (hS : Ch B w1 w') (h : TermIn w t g o ba bn bc pa pn pc T F F1 F2 FB FP) (hX : Ch F w w') : TermAt w' t T' (more F w w') :=
 ⟨_, _, _, _, _, _, _, _, _, _, _, _, h'.mono (fun b hb => hb.elim .inl (fun h2 => .inr ⟨h2.1, Nat.lt_of_lt_of_le h2.2 hS.size⟩)) (h.moreOk hX.size)⟩
theorem TermIn.chF (h : TermIn w t g o ba bn bc pa pn pc T F F1 F2 FB FP) (hc : Ch F1 w w') : Ch F w w' := hc.mono fun b _ hb => h.inF.2.1 b hb
theorem TermIn.cht (h : TermIn w t g o ba bn bc pa pn pc T F F1 F2 FB FP) (hc : Ch (fun j => j = t) w w') : Ch F w w' := hc.mono fun b _ hb => hb ▸ h.inF.1
theorem Ch.more {F : Nat → Prop} {w w1 w2 : World} (h1 : Ch F w w1) (h2 : Ch (more F w w1) w1 w2) : Ch F w w2 := h1.trans h2 fun i hi h => h.elim id fun h => by omega
end
end Go.Proofs.YteoejhjfbfacdaaGreatDoor.X
namespace Go.Proofs.YteoejhjfbfacdaaGreatDoor.X
open Go Go.RowKit Go.Proofs.YteoejhjfbfacdaaGreatDoor
set_option maxHeartbeats 4000000 in
theorem scroll_any {w : World} {t g o : Nat} {ba : Option Addr} {bn bc : Nat} {pa : Option Addr} {pn pc : Nat} {T : TS} {F F1 F2 FB FP : Nat → Prop} (hI : TermIn w t g o ba bn bc pa pn pc T F F1 F2 FB FP) (hT : Tables w) (hbk : T.back.length ≤ 1000) (n : Int) : Calls Tryz.prog 118 [pX t, iX n].toArray w fun e w' =>
    ∃ ba' bn' bc' F1' FB', e = .returned (.tuple #[]) ∧ TermIn w' t g o ba' bn' bc' pa pn pc (scrollT T n) (more F w w') F1' F2 FB' FP ∧ Ch F w w' := by
  have hgd := hI.g1.head
  obtain ⟨gv, hgd⟩ := hgd
  obtain ⟨⟨hw1, hw2⟩, ⟨hh1, hh2⟩, hll, hall⟩ := hI.g1.ok
  have htg : Df t g := fun e => hI.t1 (e ▸ hI.g1.inF)
  refine yA Tryz.func118 rfl ?_
  refine ys ?_
  refine yD [18] fun w10 hH11 hc12 => ?_
  have ht13 := hI.blk.ch hc12 id
  have hT15 := tables_ch hc12 hT id id
  refine yd (uL 0 18) [] (.l (ht13.c 0) (.l (ht13.c 26) (.l (ht13.c 27) (.a (ht13.cs 5 5) .z)))) ?_
  have hq := (Ch.trans (Ch.refl (fun _ => False) w) hc12 iZ)
  have hIq := hI.same hq iZ
  have hqs := hq.size
  refine yK 18 (yC (up_any g T.grid F1 T.top T.bot n T.cursor.sty _ hT15 hIq.g1) ?_)
  rintro _ w29 ⟨oo16, n17, oc18, outs19, F20, K21, rfl, hO22, hol23, hG24, hF25, hK26, hap27, hc28⟩
  refine ⟨_, rfl, ?_⟩
  have ht30 := ht13.ch hc28 hIq.t1
  have hI1 := hIq.grid1 hc28 hG24 hF25
  have hKm : ∀ b, K21 b → more F w10 w29 b ∧ ¬ F20 b ∧ ¬ F2 b ∧ b ≠ t := fun b hb => by
    have h2 := hK26 b hb
    refine ⟨h2.elim (fun h => .inl (hIq.inF.2.1 b h)) .inr, fun h => hap27 b h hb, fun h => ?_, fun h => ?_⟩
    · rcases h2 with h2 | h2
      · exact hIq.a12 b h2 h
      · have := hIq.g2.lt b h; omega
    · rcases h2 with h2 | h2
      · exact hIq.t1 (h ▸ h2)
      · have := hIq.blk.lt; omega
  have hln : n17 ≤ 1000 := by
    have h1 := hO22.len
    have h2 := congrArg List.length hol23
    rw [List.length_map] at h2
    unfold outG at h2
    rw [outsN_len] at h2
    unfold cntI topI at h2
    omega
  refine x_killed ?_
  refine yd [19] [] .z ?_
  refine yDe (nS ?_)
  refine ysr ?_
  refine yp 6 [] (.l (ht30.c 95) .z) ?_
  refine yw [29] (rN (rY T.alt)) (fun hC31 => ?_) fun hC31 => ?_
  · have hpp0 := hC31
    refine yp 12 [] (.l (ht30.c 26) .z) ?_
    refine ye ?_
    refine yc (rE T.top 0) (fun hC32 => ?_) fun hC32 => ?_
    · have hpp1 := hC32
      refine x_region ?_
      refine yp 2 [] .z ?_
      refine yo (yC (keep_any hI1 hO22.lines (fun e => by cases oo16 with | none => exact (hO22.own.2.2.2.1 rfl).2 | some b => cases e) hKm (by have := hI1.bk; obtain ⟨rr, h1, h2⟩ := this; have h3 := h1.len; have h4 : rr.length = T.back.length := (by have h5 := congrArg List.length h2; rw [List.length_map] at h5; exact h5); omega) hln) ?_)
      rintro _ w38 ⟨ba33, bn34, bc35, rfl, hI36, hc37⟩
      refine ⟨_, rfl, ?_⟩
      refine yE (yR0' ?_)
      rw [show scrollT T n = _ from if_pos ⟨by simp [*], by omega⟩]
      rw [hol23] at hI36
      exact ⟨_, _, _, _, _, rfl, hI36.mono (fun b hb => more_le hqs b (more_trans hc28.size hc37.size b hb)) (hI.moreOk (Nat.le_trans hqs (Nat.le_trans hc28.size hc37.size))), Ch.trans (hq.mono eZ) (Ch.more (hIq.chF hc28) (hI1.cht hc37)) iZ⟩
    · have hpp1 := hC32
      refine x_skip (yR0' ?_)
      rw [show scrollT T n = _ from if_neg (by rintro ⟨h1, h2⟩; simp_all)]
      exact ⟨_, _, _, _, _, rfl, hI1.mono (more_le hqs) (hI.moreOk (Nat.le_trans hqs hc28.size)), Ch.trans (hq.mono eZ) (hIq.chF hc28) iZ⟩
  · have hpp0 := hC31
    refine yp 12 [] .z ?_
    refine ye ?_
    refine ycf ?_
    refine x_skip (yR0' ?_)
    rw [show scrollT T n = _ from if_neg (by rintro ⟨h1, h2⟩; simp_all)]
    exact ⟨_, _, _, _, _, rfl, hI1.mono (more_le hqs) (hI.moreOk (Nat.le_trans hqs hc28.size)), Ch.trans (hq.mono eZ) (hIq.chF hc28) iZ⟩
end Go.Proofs.YteoejhjfbfacdaaGreatDoor.X
namespace Go.Proofs.YteoejhjfbfacdaaGreatDoor.X
open Go Go.RowKit Go.Proofs.YteoejhjfbfacdaaGreatDoor
theorem ints_at0 {w : World} {b : Nat} {l : List Int} (h : Rd w (some ⟨b, 0, none⟩) (l.map (Value.int .i64))) (k : Nat) (hk : k < l.length) : w.cell? ⟨b, k, none⟩ = some (iX (l.getD k 0)) := by
 have := ints_cell h k hk
 rwa [Int.toNat_natCast, Nat.mul_one, Nat.zero_add] at this
set_option maxHeartbeats 4000000 in
theorem param_some (b : Nat) (i : Nat) (ak ar al : Int) (am at' : ByteArray) (n cap : Nat) (l : List Int) (w : World) (hr : Rd w (some ⟨b, 0, none⟩) (l.map (Value.int .i64))) (hb : b < w.heap.size) (hn : l.length = n) : Calls Tryz.prog 122 [.agg #[iX ak, rX ar, uX al, .string am, .slice (some ⟨b, 0, none⟩) n cap, .string at'], iX ((i : Nat) : Int)].toArray w fun e w' => e = .returned (iX (paramI l i)) ∧ Ch (fun _ => False) w w' := by
 refine yA Tryz.func122 rfl <| ysr <| yo (yN [iX ak, rX ar, uX al, .string am, .slice (some ⟨b, 0, none⟩) n cap, .string at'] 78 fun w10 b11 hb12 hz13 hB14 hc15 => ?_)
 have hlo16 : w.heap.size ≤ b11 := by rw [hb12]; exact Ch.size (Up.refl w.heap.size w)
 have hu17 := Up.step (Up.refl w.heap.size w) hc15 iZ
 have hr18 := Ch.rd hc15 hr id
 refine yp 2 [] .z <| ye <| ys <| ysr <| yp 5 [] (.l (hB14.c 4) .z) <| ye <| yc (rM ((n : Nat) : Int) ((i : Nat) : Int)) (fun hC19 => ?_) fun hC19 => ?_
 ·refine ysr <| yp 1 [] .z <| ye <| x_ret (rS (yR1 (iX 1) ?_))
  exact ⟨congrArg Ending.returned (congrArg (Value.int .i64) (by unfold paramI; first | rw [if_neg (by first | omega | (intro e; subst e; simp at hn; omega))] | rw [if_pos (by omega)])), Up.ch hu17⟩
 refine yk <| ysr <| yp 7 [] (.l (hB14.c 4) (.i ((i : Nat) : Int) (n) (.l (o := (0 + (((i : Nat) : Int)).toNat * 1)) (ints_cell hr18 i (by omega)) .z))) <| ye <| x_ret (yR1 (iX (max ((l.getD i 0) : Int) 1)) ?_)
 exact ⟨congrArg Ending.returned (congrArg (Value.int .i64) (by unfold paramI; first | rw [if_neg (by first | omega | (intro e; subst e; simp at hn; omega))] | rw [if_pos (by omega)])), Up.ch hu17⟩
set_option maxHeartbeats 4000000 in
theorem first_some (b : Nat) (ak ar al : Int) (am at' : ByteArray) (n cap : Nat) (l : List Int) (w : World) (hr : Rd w (some ⟨b, 0, none⟩) (l.map (Value.int .i64))) (hb : b < w.heap.size) (hn : l.length = n) (h0 : 0 < n) : Calls Tryz.prog 141 [.agg #[iX ak, rX ar, uX al, .string am, .slice (some ⟨b, 0, none⟩) n cap, .string at']].toArray w fun e w' => e = .returned (iX (firstI l)) ∧ Ch (fun _ => False) w w' := by
 refine yA Tryz.func141 rfl <| ysr <| yo (yN [iX ak, rX ar, uX al, .string am, .slice (some ⟨b, 0, none⟩) n cap, .string at'] 78 fun w10 b11 hb12 hz13 hB14 hc15 => ?_)
 have hlo16 : w.heap.size ≤ b11 := by rw [hb12]; exact Ch.size (Up.refl w.heap.size w)
 have hu17 := Up.step (Up.refl w.heap.size w) hc15 iZ
 have hr18 := Ch.rd hc15 hr id
 refine yp 2 [] .z <| ye <| ys <| ysr <| yp 4 [] (.l (hB14.c 4) .z) <| ye <| yc (rE ((n : Nat) : Int) 0) (fun hC19 => ?_) fun hC19 => ?_
 ·exfalso; omega
 refine yk <| ysr <| yp 5 [] (.l (hB14.c 4) (.i 0 (n) (.l (o := 0) (ints_at0 hr18 0 (by omega)) .z))) <| ye <| x_ret (yR1 (iX (l.getD 0 0)) ?_)
 exact ⟨congrArg Ending.returned (congrArg (Value.int .i64) (by unfold firstI; first | rw [if_neg (by first | omega | (intro e; subst e; simp at hn; omega))] | rw [if_pos (by omega)])), Up.ch hu17⟩
set_option maxHeartbeats 4000000 in
theorem param_none (i : Nat) (a0 : Option Addr) (ak ar al : Int) (am at' : ByteArray) (cap : Nat) (w : World) : Calls Tryz.prog 122 [.agg #[iX ak, rX ar, uX al, .string am, .slice a0 0 cap, .string at'], iX ((i : Nat) : Int)].toArray w fun e w' => e = .returned (iX (paramI [] i)) ∧ Ch (fun _ => False) w w' := by
 refine yA Tryz.func122 rfl <| ysr <| yo (yN [iX ak, rX ar, uX al, .string am, .slice a0 0 cap, .string at'] 78 fun w10 b11 hb12 hz13 hB14 hc15 => ?_)
 have hlo16 : w.heap.size ≤ b11 := by rw [hb12]; exact Ch.size (Up.refl w.heap.size w)
 have hu17 := Up.step (Up.refl w.heap.size w) hc15 iZ
 refine yp 2 [] .z <| ye <| ys <| ysr <| yp 5 [] (.l (hB14.c 4) .z) <| ye <| yc (rM 0 ((i : Nat) : Int)) (fun hC18 => ?_) fun hC18 => ?_
 ·refine ysr <| yp 1 [] .z <| ye <| x_ret (rS (yR1 (iX 1) ?_))
  exact ⟨rfl, Up.ch hu17⟩
 exfalso; omega
set_option maxHeartbeats 4000000 in
theorem first_none (a0 : Option Addr) (ak ar al : Int) (am at' : ByteArray) (cap : Nat) (w : World) : Calls Tryz.prog 141 [.agg #[iX ak, rX ar, uX al, .string am, .slice a0 0 cap, .string at']].toArray w fun e w' => e = .returned (iX (firstI [])) ∧ Ch (fun _ => False) w w' := by
 refine yA Tryz.func141 rfl <| ysr <| yo (yN [iX ak, rX ar, uX al, .string am, .slice a0 0 cap, .string at'] 78 fun w10 b11 hb12 hz13 hB14 hc15 => ?_)
 have hlo16 : w.heap.size ≤ b11 := by rw [hb12]; exact Ch.size (Up.refl w.heap.size w)
 have hu17 := Up.step (Up.refl w.heap.size w) hc15 iZ
 refine yp 2 [] .z <| ye <| ys <| ysr <| yp 4 [] (.l (hB14.c 4) .z) <| ye <| yct <| ysr <| yp 1 [] .z <| ye <| x_ret (rS (yR1 (iX 0) ?_))
 exact ⟨rfl, Up.ch hu17⟩
end Go.Proofs.YteoejhjfbfacdaaGreatDoor.X
namespace Go.Proofs.YteoejhjfbfacdaaGreatDoor.X
open Go Go.RowKit Go.Proofs.YteoejhjfbfacdaaGreatDoor
section
variable {w : World} {t : Nat} {T : TS} {F : Nat → Prop}
theorem move_at (h : TermAt w t T F) (x y : Int) : Calls Tryz.prog 83 [.pointer (some ⟨t, 0, none⟩), .int .i64 x, .int .i64 y].toArray w fun e w' => e = .returned (.tuple #[]) ∧ TermAt w' t (moveT T x y) (more F w w') ∧ Ch F w w' := by
 obtain ⟨g, o, ba, bn, bc, pa, pn, pc, F1, F2, FB, FP, hI⟩ := h
 exact (move_any hI x y).mono fun e w' ⟨he, hI', hc⟩ => ⟨he, ⟨g, o, ba, bn, bc, pa, pn, pc, F1, F2, FB, FP, hI'.mono (fun _ h => .inl h) (hI.moreOk hc.size)⟩, hI.cht hc⟩
theorem home_at (h : TermAt w t T F) (hb : (0 ≤ T.top ∧ T.top ≤ 60) ∧ 0 ≤ T.bot ∧ T.bot ≤ 60) (x y : Int) (hx : -1000000 ≤ x ∧ x ≤ 1000000) (hy : -1000000 ≤ y ∧ y ≤ 1000000) :
  Calls Tryz.prog 123 [.pointer (some ⟨t, 0, none⟩), .int .i64 x, .int .i64 y].toArray w fun e w' => e = .returned (.tuple #[]) ∧ TermAt w' t (homeT T x y) (more F w w') ∧ Ch F w w' := by
 obtain ⟨g, o, ba, bn, bc, pa, pn, pc, F1, F2, FB, FP, hI⟩ := h
 exact (home_any hI hb x y hx hy).mono fun e w' ⟨he, hI', hc⟩ => ⟨he, ⟨g, o, ba, bn, bc, pa, pn, pc, F1, F2, FB, FP, hI'.mono (fun _ h => .inl h) (hI.moreOk hc.size)⟩, hI.cht hc⟩
theorem take_at (h : TermAt w t T F) : Calls Tryz.prog 15 [.pointer (some ⟨t, 0, none⟩)].toArray w fun e w' => e = .returned (.string T.reply) ∧ TermAt w' t ({ T with reply := ByteArray.empty } : TS) (more F w w') ∧ Ch F w w' := by
 obtain ⟨g, o, ba, bn, bc, pa, pn, pc, F1, F2, FB, FP, hI⟩ := h
 exact (take_any hI).mono fun e w' ⟨he, hI', hc⟩ => ⟨he, ⟨g, o, ba, bn, bc, pa, pn, pc, F1, F2, FB, FP, hI'.mono (fun _ h => .inl h) (hI.moreOk hc.size)⟩, hI.cht hc⟩
theorem scroll_at (h : TermAt w t T F) (hT : Tables w) (hbk : T.back.length ≤ 1000) (n : Int) : Calls Tryz.prog 118 [.pointer (some ⟨t, 0, none⟩), .int .i64 n].toArray w fun e w' => e = .returned (.tuple #[]) ∧ TermAt w' t (scrollT T n) (more F w w') ∧ Ch F w w' := by
 obtain ⟨g, o, ba, bn, bc, pa, pn, pc, F1, F2, FB, FP, hI⟩ := h
 exact (scroll_any hI hT hbk n).mono fun e w' ⟨ba', bn', bc', F1', FB', he, hI', hc⟩ => ⟨he, ⟨g, o, ba', bn', bc', pa, pn, pc, F1', F2, FB', FP, hI'⟩, hc⟩
theorem TermAt.mono {F' : Nat → Prop} (h : TermAt w t T F) (hF : ∀ b, F b → F' b) (hl : ∀ b, F' b → b < w.heap.size ∧ gTop ≤ b) : TermAt w t T F' := by
 obtain ⟨g, o, ba, bn, bc, pa, pn, pc, F1, F2, FB, FP, hI⟩ := h
 exact ⟨g, o, ba, bn, bc, pa, pn, pc, F1, F2, FB, FP, hI.mono hF hl⟩
theorem TermAt.moreOk (h : TermAt w t T F) {w' : World} (hs : w.heap.size ≤ w'.heap.size) : ∀ b, more F w w' b → b < w'.heap.size ∧ gTop ≤ b := by
 obtain ⟨g, o, ba, bn, bc, pa, pn, pc, F1, F2, FB, FP, hI⟩ := h
 exact hI.moreOk hs
theorem TermAt.next {w1 w2 : World} {T2 : TS} (h : TermAt w t T F) (c1 : Ch F w w1) (c2 : Ch (more F w w1) w1 w2) (h2 : TermAt w2 t T2 (more (more F w w1) w1 w2)) : TermAt w2 t T2 (more F w w2) ∧ Ch F w w2 :=
 ⟨h2.mono (more_trans c1.size c2.size) (h.moreOk (Nat.le_trans c1.size c2.size)), Ch.more c1 c2⟩
end
end Go.Proofs.YteoejhjfbfacdaaGreatDoor.X
namespace Go.Proofs.YteoejhjfbfacdaaGreatDoor.X
open Go Go.RowKit Go.Proofs.YteoejhjfbfacdaaGreatDoor
def downT (T : TS) : TS := if T.cursor.y = T.bot - 1 then scrollT T 1 else if T.cursor.y < T.grid.h - 1 then { T with cursor := ⟨T.cursor.x, T.cursor.y + 1, T.cursor.late, T.cursor.sty⟩ } else T
set_option maxHeartbeats 4000000 in
theorem down_at {w : World} {t : Nat} {T : TS} {F : Nat → Prop} (hA0 : TermAt w t T F) (hT : Tables w) (hbk : T.back.length ≤ 1000) (hb : (0 ≤ T.bot ∧ T.bot ≤ 60) ∧ 0 ≤ T.cursor.y ∧ T.cursor.y ≤ 60) : Calls Tryz.prog 80 [pX t].toArray w fun e w' => e = .returned (.tuple #[]) ∧ TermAt w' t (downT T) (more F w w') ∧ Ch F w w' := by
 obtain ⟨g, o, ba, bn, bc, pa, pn, pc, F1, F2, FB, FP, hI⟩ := hA0
 have hA0 : TermAt w t T F := ⟨g, o, ba, bn, bc, pa, pn, pc, F1, F2, FB, FP, hI⟩
 have hFt := hI.inF.1
 obtain ⟨gv, hgd⟩ := hI.g1.head
 have htg : Df t g := fun e => hI.t1 (e ▸ hI.g1.inF)
 obtain ⟨⟨hw1, hw2⟩, ⟨hh1, hh2⟩, hll, hall⟩ := hI.g1.ok
 refine yA Tryz.func80 rfl <| x_block <| ys <| yD [] fun w10 hH11 hc12 => ?_
 have hS13 := Ch.trans (Ch.refl (fun j => j = t) w) hc12 eZ
 have ht15 := hI.blk.ch hc12 id
 have hg16 := hgd.ch hc12 id
 have hT17 := tables_ch hc12 hT id id
 refine yd (uL 0 12) [] (.l (ht15.c 3) (.l (ht15.c 27) (.q6 (T.bot - 1) .z))) <| yDe (nS ?_)
 refine yc (rE T.cursor.y (T.bot - 1)) (fun hC18 => ?_) fun hC18 => ?_
 ·have hpp0 := hC18
  refine x_region <| yp 1 [] .z ?_
  have hI19 := hI.scalar (T' := T) hS13 ht15 rfl rfl rfl rfl
  have hX20 := hI.cht hS13
  have hA21 := hI19.pk1 hI hX20
  refine yo (yQ (scroll_at hA21 hT17 hbk (1)) ?_)
  rintro w27 ⟨hB22, hc23⟩
  obtain ⟨hN24, hX25⟩ := TermAt.next hA0 hX20 hc23 hB22
  obtain ⟨g29, o29, ba29, bn29, bc29, pa29, pn29, pc29, F129, F229, FB29, FP29, hI26⟩ := hN24
  obtain ⟨gv29, hgd30⟩ := hI26.g1.head
  have htg31 : Df t g29 := fun e => hI26.t1 (e ▸ hI26.g1.inF)
  refine yE (nB (yR0' ?_))
  have hX32 := Ch.on hX25 (Ch.refl (fun j => j = t) w27) hFt
  have hA33 := hI26.pk2 (Ch.refl (fun j => j = t) w27) hI hX32
  rw [show downT T = _ from if_pos hpp0]
  exact ⟨rfl, hA33, hX32⟩
 have hpp0 := hC18
 refine ys <| yD [] fun w34 hH35 hc36 => ?_
 have hS37 := Ch.trans hS13 hc36 eZ
 have ht39 := ht15.ch hc36 id
 have hg40 := hg16.ch hc36 id
 refine yd (uL 0 15) [] (.l (ht39.c 3) (.l (ht39.c 0) (.l (hg40.c 1) (.q6 (T.grid.h - 1) .z)))) <| yDe (nS ?_)
 refine yc (rL T.cursor.y (T.grid.h - 1)) (fun hC42 => ?_) fun hC42 => ?_
 ·have hpp1 := hC42
  refine x_region <| yp 9 [] (.l (ht39.c 3) (.q6 (T.cursor.y + 1) .z)) <| yo (yS ht39 fun w43 hB44 hc45 => ?_)
  have hS47 := Ch.trans hS37 hc45 (fun i hi (h : i = t) => h)
  refine yE (nB (yR0' ?_))
  have hI50 := hI.scalar (T' := ({ T with cursor := (Cur.mk T.cursor.x (T.cursor.y + 1) T.cursor.late T.cursor.sty) } : TS)) hS47 (Blk.to hB44 (by kernel_rfl)) rfl rfl rfl rfl
  have hX51 := hI.cht hS47
  have hA52 := hI50.pk1 hI hX51
  rw [show downT T = _ from (if_neg hpp0).trans (if_pos hpp1)]
  exact ⟨rfl, hA52, hX51⟩
 have hpp1 := hC42
 refine x_skip (nB (yR0' ?_))
 have hI53 := hI.scalar (T' := T) hS37 ht39 rfl rfl rfl rfl
 have hX54 := hI.cht hS37
 have hA55 := hI53.pk1 hI hX54
 rw [show downT T = _ from (if_neg hpp0).trans (if_neg (by omega))]
 exact ⟨rfl, hA55, hX54⟩
def upT (T : TS) : TS := if T.cursor.y = T.top then { T with grid := downG T.grid T.top T.bot 1 T.cursor.sty } else if 0 < T.cursor.y then { T with cursor := ⟨T.cursor.x, T.cursor.y - 1, T.cursor.late, T.cursor.sty⟩ } else T
set_option maxHeartbeats 4000000 in
theorem up_at {w : World} {t : Nat} {T : TS} {F : Nat → Prop} (hA0 : TermAt w t T F) (hT : Tables w) (hb : 0 ≤ T.cursor.y ∧ T.cursor.y ≤ 60) : Calls Tryz.prog 84 [pX t].toArray w fun e w' => e = .returned (.tuple #[]) ∧ TermAt w' t (upT T) (more F w w') ∧ Ch F w w' := by
 obtain ⟨g, o, ba, bn, bc, pa, pn, pc, F1, F2, FB, FP, hI⟩ := hA0
 have hA0 : TermAt w t T F := ⟨g, o, ba, bn, bc, pa, pn, pc, F1, F2, FB, FP, hI⟩
 have hFt := hI.inF.1
 obtain ⟨gv, hgd⟩ := hI.g1.head
 have htg : Df t g := fun e => hI.t1 (e ▸ hI.g1.inF)
 obtain ⟨⟨hw1, hw2⟩, ⟨hh1, hh2⟩, hll, hall⟩ := hI.g1.ok
 refine yA Tryz.func84 rfl <| x_block <| ys <| yD [] fun w10 hH11 hc12 => ?_
 have hS13 := Ch.trans (Ch.refl (fun j => j = t) w) hc12 eZ
 have ht15 := hI.blk.ch hc12 id
 have hT17 := tables_ch hc12 hT id id
 refine yd (uL 0 11) [] (.l (ht15.c 3) (.l (ht15.c 26) .z)) <| yDe (nS ?_)
 refine yc (rE T.cursor.y T.top) (fun hC18 => ?_) fun hC18 => ?_
 ·have hpp0 := hC18
  refine yD [17] fun w19 hH20 hc21 => ?_
  have hS22 := Ch.trans hS13 hc21 eZ
  have ht24 := ht15.ch hc21 id
  have hT26 := tables_ch hc21 hT17 id id
  refine yd (uL 0 17) [] (.l (ht24.c 0) (.l (ht24.c 26) (.l (ht24.c 27) (.a (ht24.cs 5 5) .z)))) ?_
  have hI27 := hI.scalar (T' := T) hS22 ht24 rfl rfl rfl rfl
  have hX28 := hI.cht hS22
  have hA29 := hI27.pk1 hI hX28
  have hI30 := hI27.mono (F' := more F w w19) (fun _ h => .inl h) (hI.moreOk hX28.size)
  refine yK 17 (yQ (down_any _ _ _ (T.top) (T.bot) (1) T.cursor.sty _ hT26 hI30.g1) ?_)
  rintro w37 ⟨hG32, hc33⟩
  obtain ⟨hN34, hX35⟩ := TermAt.next hA0 hX28 (hI30.chF hc33) ⟨_, _, _, _, _, _, _, _, _, _, _, _, hI30.grid1 hc33 hG32 (fun _ h => h)⟩
  have hc33m := hI30.chF hc33
  obtain ⟨g39, o39, ba39, bn39, bc39, pa39, pn39, pc39, F139, F239, FB39, FP39, hI36⟩ := hN34
  obtain ⟨gv39, hgd40⟩ := hI36.g1.head
  have htg41 : Df t g39 := fun e => hI36.t1 (e ▸ hI36.g1.inF)
  refine x_killed <| yDe (nB (yR0' ?_))
  have hX42 := Ch.on hX35 (Ch.refl (fun j => j = t) w37) hFt
  have hA43 := hI36.pk2 (Ch.refl (fun j => j = t) w37) hI hX42
  rw [show upT T = _ from if_pos hpp0]
  exact ⟨rfl, hA43, hX42⟩
 have hpp0 := hC18
 refine ysr <| yp 7 [] (.l (ht15.c 3) .z) <| ye <| yc (rL 0 T.cursor.y) (fun hC44 => ?_) fun hC44 => ?_
 ·have hpp1 := hC44
  refine x_region <| yp 9 [] (.l (ht15.c 3) (.q6 (T.cursor.y - 1) .z)) <| yo (yS ht15 fun w45 hB46 hc47 => ?_)
  have hS49 := Ch.trans hS13 hc47 (fun i hi (h : i = t) => h)
  refine yE (nB (yR0' ?_))
  have hI52 := hI.scalar (T' := ({ T with cursor := (Cur.mk T.cursor.x (T.cursor.y - 1) T.cursor.late T.cursor.sty) } : TS)) hS49 (Blk.to hB46 (by kernel_rfl)) rfl rfl rfl rfl
  have hX53 := hI.cht hS49
  have hA54 := hI52.pk1 hI hX53
  rw [show upT T = _ from (if_neg hpp0).trans (if_pos hpp1)]
  exact ⟨rfl, hA54, hX53⟩
 have hpp1 := hC44
 refine x_skip (nB (yR0' ?_))
 have hI55 := hI.scalar (T' := T) hS13 ht15 rfl rfl rfl rfl
 have hX56 := hI.cht hS13
 have hA57 := hI55.pk1 hI hX56
 rw [show upT T = _ from (if_neg hpp0).trans (if_neg (by omega))]
 exact ⟨rfl, hA57, hX56⟩
end Go.Proofs.YteoejhjfbfacdaaGreatDoor.X
