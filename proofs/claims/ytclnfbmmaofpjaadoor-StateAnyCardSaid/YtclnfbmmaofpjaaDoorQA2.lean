/- What the proof of StateAny needs, part 2: the walks of the program's functions and the plain laws about them. -/
import Derived.Test.YtclnfbmmaofpjaaDoorQA1
import Derived.Test.YtclnfbmmaofpjaaDoorProg
import Derived.WalkKit
import Derived.KernelRfl
import Derived.Below
import Derived.Deep.LoopGhost
import Derived.Deep.QuietTactic
import Derived.BigQuiet
import Derived.OwnWalk
import Derived.Laws.Strings
import Derived.Laws.IdiomStrings
import Derived.Lib.AppendStr
set_option linter.unusedSimpArgs false
set_option linter.unusedVariables false
namespace Go.Proofs.YtclnfbmmaofpjaaDoor
open Go Go.RowKit
theorem hidd {p : Prop} (h : p) : Hid p := h
def rightB (r : Int) : Bool := decide (32 ≤ r) && decide (r ≤ 1114111) && decide (r ≠ 127) && (decide (r < 55296) || decide (57343 < r))
theorem right_any (r : Int) (w : World) : Calls Tryd.prog 40 #[.int .i32 r] w fun e w' => e = .returned (.bool (rightB r)) ∧ w = w' := by
 by_cases h1 : 32 ≤ r <;> by_cases h2 : r ≤ 1114111 <;> by_cases h3 : r = 127 <;> by_cases h4 : r < 55296 <;> by_cases h5 : 57343 < r
 all_goals
  go_enter Tryd.func40, Tryd.ntmps40
  go_wp2
  go_ret
  exact ⟨by simp [rightB, *], rfl⟩
def wideL : List Int := [4352, 4447, 11904, 42191, 44032, 55203, 63744, 64255, 65072, 65135, 65280, 65376, 65504, 65510, 127744, 128591, 131072, 262141]
def inWide (r : Int) : List Int → Bool
 | a :: b :: l => if r < a then false else if r ≤ b then true else inWide r l
 | _ => false
def wideB (r : Int) : Bool := !(r == 12351) && inWide r wideL
def Table (w : World) (g : Nat) (l : List Int) : Prop := ∀ j, j < l.length → w.cell? ⟨g, j, none⟩ = some (.int .i32 (l.getD j 0))
theorem inWide_drop (r : Int) (k : Nat) (l : List Int) (h : k + 1 < l.length) :
  inWide r (l.drop k) = if r < l.getD k 0 then false else if r ≤ l.getD (k+1) 0 then true else inWide r (l.drop (k+2)) := by
 have e1 : l.drop k = l.getD k 0 :: l.getD (k+1) 0 :: l.drop (k+2) := by
  rw [List.drop_eq_getElem_cons (by omega), List.drop_eq_getElem_cons (by omega)]
  simp [List.getD_eq_getElem?_getD, List.getElem?_eq_getElem h, List.getElem?_eq_getElem (show k < l.length by omega)]
 rw [e1]
 rfl
set_option maxHeartbeats 1000000 in
theorem wide_any (r : Int) (w : World) (hw : Table w 0 wideL) : Calls Tryd.prog 27 #[.int .i32 r] w fun e w' => e = .returned (.bool (wideB r)) ∧ w = w' := by
 by_cases h1 : r = 12351
 ·subst h1
  go_enter Tryd.func27, Tryd.ntmps27
  go_wp2
  go_ret
  exact ⟨rfl, rfl⟩
 ·have hb : (r == 12351) = false := by simpa using h1
  have hwb : wideB r = inWide r (wideL.drop 0) := by simp [wideB, hb]
  have HW := hidd hwb
  clear hwb h1
  go_enter Tryd.func27, Tryd.ntmps27
  go_wp2
  go_loop [3] (fun i => ∃ k : Nat, k ≤ 9 ∧ i = .int .i64 (2 * k : Nat) ∧ wideB r = inWide r (wideL.drop (2 * k))) (fun i => 18 - (intOf i).toNat)
  case atStart => exact ⟨0, by omega, rfl, HW.out⟩
  case round =>
   obtain ⟨k, hk, rfl, hrel⟩ := hrel
   have HR := hidd hrel
   clear hrel HW
   by_cases hlt : k < 9
   ·have c0 := hw (2 * k) (by simp [wideL]; omega)
    have c1 := hw (2 * k + 1) (by simp [wideL]; omega)
    have hd := inWide_drop r (2 * k) wideL (by simp [wideL]; omega)
    have HD := hidd hd
    clear hd
    generalize wideL.getD (2 * k) 0 = x at *
    generalize wideL.getD (2 * k + 1) 0 = y at *
    obtain ⟨z, hz⟩ : ∃ z, z = 2 * k := ⟨_, rfl⟩
    have hz2 : z + 1 < 18 := by omega
    have HZ := hidd hz
    rw [← hz] at c0 c1 ⊢
    clear hz hw
    go_wp2
    ·have hc : r < x := by assumption
     go_ret
     refine ⟨?_, rfl⟩
     rw [HR.out, HD.out, if_pos hc]; rfl
    ·have hc : x ≤ r := by assumption
     have hc' : r ≤ y := by assumption
     go_ret
     refine ⟨?_, rfl⟩
     rw [HR.out, HD.out, if_neg (by omega), if_pos hc']; rfl
    ·have hc : x ≤ r := by assumption
     have hc' : y < r := by assumption
     refine ⟨⟨k + 1, by omega, ?_, ?_⟩, ?_⟩
     ·rw [HZ.out]; congr 1
     ·rw [HR.out, HD.out, if_neg (by omega), if_neg (by omega)]; first | rfl | (simp only [Nat.mul_add])
     ·simp [intOf]; omega
   ·obtain rfl : k = 9 := by omega
    clear hw
    go_wp2
    go_ret
    refine ⟨?_, rfl⟩
    rw [HR.out]; rfl
def Tables (w : World) : Prop := Table w 0 wideL ∧ Table w 0 []
end Go.Proofs.YtclnfbmmaofpjaaDoor
namespace Go.Proofs.YtclnfbmmaofpjaaDoor.X
open Go Go.RowKit Go.Proofs.YtclnfbmmaofpjaaDoor
structure Sty where
 bold : Bool
 under : Bool
 turned : Bool
 fore : Int
 back : Int
 deriving DecidableEq
structure Cel where
 rune : Int
 sty : Sty
 deriving DecidableEq
structure Cur where
 x : Int
 y : Int
 late : Bool
 sty : Sty
 deriving DecidableEq
def sty0 : Sty := ⟨false, false, false, 0, 0⟩
def cel0 : Cel := ⟨0, sty0⟩
def cur0 : Cur := ⟨0, 0, false, sty0⟩
def blankC (s : Sty) : Cel := ⟨32, ⟨false, false, false, 0, s.back⟩⟩
def Cel.vals (c : Cel) : List Value := [.int .i32 c.rune, .bool c.sty.bold, .bool c.sty.under, .bool c.sty.turned, .int .i64 c.sty.fore, .int .i64 c.sty.back]
def flat : List Cel → List Value
 | [] => []
 | c :: l => c.vals ++ flat l
theorem vals_len (c : Cel) : c.vals.length = 6 := rfl
theorem flat_len (l : List Cel) : (flat l).length = l.length * 6 := by
 induction l with
 | nil => rfl
 | cons c l ih => simp [flat, vals_len, ih]; omega
theorem flat_app (a b : List Cel) : flat (a ++ b) = flat a ++ flat b := by
 induction a with
 | nil => rfl
 | cons c l ih => simp [flat, ih]
def gc (l : List Cel) (i : Int) : Cel := l.getD i.toNat cel0
theorem flat_get (l : List Cel) (i : Int) (k : Nat) (h0 : 0 ≤ i) (h : i < (l.length : Nat)) (hk : k < 6) : (flat l)[i.toNat * 6 + k]? = (gc l i).vals[k]? := by
 have h1 : i.toNat < l.length := by omega
 have e : flat l = flat (l.take i.toNat) ++ ((gc l i).vals ++ flat (l.drop (i.toNat + 1))) := by
  conv => lhs; rw [← List.take_append_drop i.toNat l, List.drop_eq_getElem_cons h1]
  rw [flat_app, flat]
  have : gc l i = l[i.toNat] := by simp [gc, List.getD, List.getElem?_eq_getElem h1]
  rw [this]
 have hl : (flat (l.take i.toNat)).length = i.toNat * 6 := by rw [flat_len, List.length_take]; omega
 rw [e, List.getElem?_append_right (by omega), hl, List.getElem?_append_left (by rw [vals_len]; omega)]
 congr 1; omega
abbrev tCell : TypeId := 70
abbrev tLine : TypeId := 48
theorem rd_at {w : World} {b o : Nat} {ys : List Value} (h : Rd w (some ⟨b, o, none⟩) ys) (j : Nat) (v : Value) (hv : ys[j]? = some v) : w.cell? ⟨b, o + j, none⟩ = some v := by
 have := h.2 _ rfl j v hv
 rwa [add_pl] at this
section
variable {w : World} {b : Nat} {l : List Cel} {i : Int} (h : Rd w (some ⟨b, 0, none⟩) (flat l)) (h0 : 0 ≤ i) (h1 : i < (l.length : Nat))
include h h0 h1
theorem c_rune : w.cell? ⟨b, 0 + i.toNat * 6, none⟩ = some (.int .i32 (gc l i).rune) := rd_at h (i.toNat * 6) _ (flat_get l i 0 h0 h1 (by decide))
theorem c_bold : w.cell? ⟨b, 0 + i.toNat * 6 + 1, none⟩ = some (.bool (gc l i).sty.bold) := by rw [Nat.add_assoc]; exact rd_at h (i.toNat * 6 + 1) _ (flat_get l i 1 h0 h1 (by decide))
theorem c_under : w.cell? ⟨b, 0 + i.toNat * 6 + 2, none⟩ = some (.bool (gc l i).sty.under) := by rw [Nat.add_assoc]; exact rd_at h (i.toNat * 6 + 2) _ (flat_get l i 2 h0 h1 (by decide))
theorem c_turned : w.cell? ⟨b, 0 + i.toNat * 6 + 3, none⟩ = some (.bool (gc l i).sty.turned) := by rw [Nat.add_assoc]; exact rd_at h (i.toNat * 6 + 3) _ (flat_get l i 3 h0 h1 (by decide))
theorem c_fore : w.cell? ⟨b, 0 + i.toNat * 6 + 4, none⟩ = some (.int .i64 (gc l i).sty.fore) := by rw [Nat.add_assoc]; exact rd_at h (i.toNat * 6 + 4) _ (flat_get l i 4 h0 h1 (by decide))
theorem c_back : w.cell? ⟨b, 0 + i.toNat * 6 + 5, none⟩ = some (.int .i64 (gc l i).sty.back) := by rw [Nat.add_assoc]; exact rd_at h (i.toNat * 6 + 5) _ (flat_get l i 5 h0 h1 (by decide))
end
def LineAt (w : World) (b : Nat) (l : List Cel) (cap : Nat) : Prop := Own w tCell 6 (some b) l.length cap (flat l)
theorem LineAt.rd {w : World} {b cap : Nat} {l : List Cel} (h : LineAt w b l cap) : Rd w (some ⟨b, 0, none⟩) (flat l) := Own.rd h
theorem LineAt.ch {w w' : World} {b cap : Nat} {l : List Cel} {B : Nat → Prop} (h : LineAt w b l cap) (hc : Ch B w w') (hn : ¬ B b) : LineAt w' b l cap := Own.ch h hc fun g e => by cases e; exact hn
theorem LineAt.lt {w : World} {b cap : Nat} {l : List Cel} (h : LineAt w b l cap) : b < w.heap.size := Own.lt h
theorem LineAt.blk {w : World} {b cap : Nat} {l : List Cel} (h : LineAt w b l cap) : ∃ r, r.length = (cap - l.length) * 6 ∧ Blk w b (flat l ++ r) tCell := h.2.2.2.2 b rfl
theorem LineAt.of {w : World} {b cap : Nat} {l : List Cel} {r : List Value} (h : Blk w b (flat l ++ r) tCell) (hr : r.length = (cap - l.length) * 6) (hc : l.length ≤ cap) (hm : cap ≤ maxLen) : LineAt w b l cap :=
 ⟨flat_len l, hc, hm, (fun e => by cases e), fun g e => by cases e; exact ⟨r, hr, h⟩⟩
theorem Ch.rd {w w' : World} {b o : Nat} {ys : List Value} {B : Nat → Prop} (hc : Ch B w w') (h : Rd w (some ⟨b, o, none⟩) ys) (hn : ¬ B b) : Rd w' (some ⟨b, o, none⟩) ys := h.ch hc fun ad e => by cases e; exact hn
def pairedB (l : List Cel) (i : Int) : Bool := decide (0 ≤ i) && decide (i + 1 < (l.length : Nat)) && wideB (gc l i).rune && (gc l (i + 1) == ⟨0, (gc l i).sty⟩)
def styleB (s : Sty) : Bool := decide (0 ≤ s.fore) && decide (s.fore ≤ 8) && decide (0 ≤ s.back) && decide (s.back ≤ 8)
def celB (c : Cel) : Bool := rightB c.rune && styleB c.sty
end Go.Proofs.YtclnfbmmaofpjaaDoor.X
namespace Go.Proofs.YtclnfbmmaofpjaaDoor.X
open Go Go.RowKit Go.Proofs.YtclnfbmmaofpjaaDoor
abbrev gWide : Nat := 0
abbrev gSigns : Nat := 0
abbrev gTop : Nat := 3
theorem g_lt : gWide < gTop ∧ gSigns < gTop := by decide
theorem tables_ch {w w' : World} {B : Nat → Prop} (h : Ch B w w') (hT : Tables w) (h0 : ¬ B gWide) (h1 : ¬ B gSigns) : Tables w' :=
 ⟨fun j hj => cell_ch h (hT.1 j hj) h0, fun j hj => cell_ch h (hT.2 j hj) h1⟩
theorem ch_eq {w w' : World} (h : w = w') : Ch (fun _ => False) w w' := h ▸ Ch.refl _ _
def Df (x y : Nat) : Prop := ¬ x = y
def Up (B : Nat) (w w' : World) : Prop := Ch (fun k => B ≤ k) w w'
theorem Up.refl (B : Nat) (w : World) : Up B w w := Ch.refl _ _
theorem Up.step {B : Nat} {w w1 w2 : World} {C : Nat → Prop} (h : Up B w w1) (k : Ch C w1 w2) (hC : ∀ i, i < B → ¬ C i) : Up B w w2 :=
 h.trans k fun i _ hi => Nat.le_of_not_lt fun hlt => hC i hlt hi
theorem Up.ch {w w' : World} (h : Up w.heap.size w w') : Ch (fun _ => False) w w' := h.mono fun i hi hb => by omega
theorem cell_lt {w : World} {b o : Nat} {v : Value} (hc : w.cell? ⟨b, o, none⟩ = some v) : b < w.heap.size := by
 rcases Nat.lt_or_ge b w.heap.size with h' | h'
 ·exact h'
 ·simp [World.cell?, Array.getElem?_eq_none h'] at hc
theorem tab_lt {w : World} (h : Tables w) : gWide < w.heap.size ∧ gSigns < w.heap.size := ⟨cell_lt (h.1 0 (by decide)), by first | exact cell_lt (h.2 0 (by decide)) | exact cell_lt (h.1 0 (by decide))⟩
theorem flat_one_cells (l : List Cel) : ((flat l).all fun c => c.oneCell') = true := by
 induction l with
 | nil => rfl
 | cons c l ih => rw [flat, List.all_append, ih, Bool.and_true]; rfl
theorem beq_cel (a b : Cel) : ((a.rune : Int) == b.rune && ((a.sty.bold == b.sty.bold) && ((a.sty.under == b.sty.under) && ((a.sty.turned == b.sty.turned) && (((a.sty.fore : Int) == b.sty.fore) && (((a.sty.back : Int) == b.sty.back) && true)))) && true)) = (a == b) := by
 obtain ⟨r, ⟨b1, b2, b3, f, k⟩⟩ := a
 obtain ⟨r', ⟨c1, c2, c3, f', k'⟩⟩ := b
 rw [Bool.eq_iff_iff]
 simp [and_assoc]
end Go.Proofs.YtclnfbmmaofpjaaDoor.X
namespace Go.Proofs.YtclnfbmmaofpjaaDoor.X
open Go Go.RowKit Go.Proofs.YtclnfbmmaofpjaaDoor
set_option maxHeartbeats 4000000 in
theorem blank_any (s : Sty) (w : World) : Calls Tryd.prog 48 [.agg #[.bool s.bold, .bool s.under, .bool s.turned, iX s.fore, iX s.back]].toArray w fun e w' => e = .returned (.agg (blankC s).vals.toArray) ∧ Ch (fun _ => False) w w' := by
 refine yA Tryd.func48 rfl <| ysr <| yo (yN [.bool s.bold, .bool s.under, .bool s.turned, iX s.fore, iX s.back] 30 fun w10 b11 hb12 hz13 hB14 hc15 => ?_)
 have hlo16 : w.heap.size ≤ b11 := by rw [hb12]; exact Ch.size (Up.refl w.heap.size w)
 have hu17 := Up.step (Up.refl w.heap.size w) hc15 iZ
 refine yo (yN [rX 0, .bool false, .bool false, .bool false, iX 0, iX 0] 70 fun w18 b19 hb20 hz21 hB22 hc23 => ?_)
 have hlo24 : w.heap.size ≤ b19 := by rw [hb20]; exact Ch.size hu17
 have hu25 := Up.step hu17 hc23 iZ
 have hB26 := hB14.ch hc23 id
 refine ye <| ysr <| yp 4 [] (.l (hB26.c 4) .z) <| yo (yS hB22 fun w27 hB28 hc29 => ?_)
 have hu30 := Up.step hu25 hc29 (fun i hi (h : i = b19) => by omega)
 replace hB28 : Blk w27 b19 [rX 32, .bool false, .bool false, .bool false, iX 0, iX s.back] _ := Blk.to hB28 (by kernel_rfl)
 refine ye <| x_ret (yR1c (.agg #[rX 32, .bool false, .bool false, .bool false, iX 0, iX s.back]) (.a (hB28.cs 0 6) .z) ?_)
 exact ⟨rfl, Up.ch hu30⟩
set_option maxHeartbeats 4000000 in
theorem style_any (s : Sty) (w : World) : Calls Tryd.prog 7 [.agg #[.bool s.bold, .bool s.under, .bool s.turned, iX s.fore, iX s.back]].toArray w fun e w' => e = .returned (.bool (styleB s)) ∧ Ch (fun _ => False) w w' := by
 refine yA Tryd.func7 rfl <| ysr <| yo (yN [.bool s.bold, .bool s.under, .bool s.turned, iX s.fore, iX s.back] 30 fun w10 b11 hb12 hz13 hB14 hc15 => ?_)
 have hlo16 : w.heap.size ≤ b11 := by rw [hb12]; exact Ch.size (Up.refl w.heap.size w)
 have hu17 := Up.step (Up.refl w.heap.size w) hc15 iZ
 refine yp 2 [] .z <| ye <| ysr <| yp 4 [] (.l (hB14.c 3) .z) <| yw [6] (rM 0 s.fore) (fun hC18 => ?_) fun hC18 => ?_
 ·refine yp 9 [] (.l (hB14.c 3) .z) <| yw [11] (rM s.fore 8) (fun hC19 => ?_) fun hC19 => ?_
  ·refine yp 14 [] (.l (hB14.c 4) .z) <| yw [16] (rM 0 s.back) (fun hC20 => ?_) fun hC20 => ?_
   ·refine yp 19 [] (.l (hB14.c 4) .z) <| ye <| x_ret (yR1 (.bool (decide (s.back ≤ 8))) ?_)
    refine ⟨?_, Up.ch hu17⟩
    refine congrArg Ending.returned (congrArg Value.bool ?_)
    rw [Bool.eq_iff_iff]
    simp only [styleB, Bool.and_eq_true, decide_eq_true_eq, Bool.false_eq_true, true_iff, false_iff, iff_true, iff_false, not_and]
    omega
   refine yp 19 [] .z <| ye <| x_ret (yR1 (.bool false) ?_)
   refine ⟨?_, Up.ch hu17⟩
   refine congrArg Ending.returned (congrArg Value.bool ?_)
   rw [Bool.eq_iff_iff]
   simp only [styleB, Bool.and_eq_true, decide_eq_true_eq, Bool.false_eq_true, true_iff, false_iff, iff_true, iff_false, not_and]
   omega
  refine yp 19 [] .z <| ye <| x_ret (yR1 (.bool false) ?_)
  refine ⟨?_, Up.ch hu17⟩
  refine congrArg Ending.returned (congrArg Value.bool ?_)
  rw [Bool.eq_iff_iff]
  simp only [styleB, Bool.and_eq_true, decide_eq_true_eq, Bool.false_eq_true, true_iff, false_iff, iff_true, iff_false, not_and]
  omega
 refine yp 19 [] .z <| ye <| x_ret (yR1 (.bool false) ?_)
 refine ⟨?_, Up.ch hu17⟩
 refine congrArg Ending.returned (congrArg Value.bool ?_)
 rw [Bool.eq_iff_iff]
 simp only [styleB, Bool.and_eq_true, decide_eq_true_eq, Bool.false_eq_true, true_iff, false_iff, iff_true, iff_false, not_and]
 omega
set_option maxHeartbeats 4000000 in
theorem celB_any (c : Cel) (w : World) : Calls Tryd.prog 26 [.agg #[rX c.rune, .bool c.sty.bold, .bool c.sty.under, .bool c.sty.turned, iX c.sty.fore, iX c.sty.back]].toArray w fun e w' => e = .returned (.bool (celB c)) ∧ Ch (fun _ => False) w w' := by
 refine yA Tryd.func26 rfl <| ysr <| yo (yN [rX c.rune, .bool c.sty.bold, .bool c.sty.under, .bool c.sty.turned, iX c.sty.fore, iX c.sty.back] 70 fun w10 b11 hb12 hz13 hB14 hc15 => ?_)
 have hlo16 : w.heap.size ≤ b11 := by rw [hb12]; exact Ch.size (Up.refl w.heap.size w)
 have hu17 := Up.step (Up.refl w.heap.size w) hc15 iZ
 refine yp 2 [] .z <| ye <| ysr <| yp 2 [] (.l (hB14.c 0) .z) <| yo (yQ (right_any c.rune _) fun w18 hq => ?_)
 have hc19 := ch_eq hq
 clear hq
 have hu20 := Up.step hu17 hc19 iZ
 have hB21 := hB14.ch hc19 id
 refine yp 4 [] .z <| yw [6] (rY (rightB c.rune)) (fun hC22 => ?_) fun hC22 => ?_
 ·refine yp 6 [] (.a (hB21.cs 1 5) .z) <| yo (yQ (style_any c.sty _) fun w24 hc23 => ?_)
  have hu25 := Up.step hu20 hc23 iZ
  refine yp 9 [] .z <| ye <| x_ret (yR1 (.bool (styleB c.sty)) ?_)
  exact ⟨by simp [celB, *], Up.ch hu25⟩
 refine yp 9 [] .z <| ye <| x_ret (yR1 (.bool false) ?_)
 exact ⟨by simp [celB, *], Up.ch hu20⟩
set_option maxHeartbeats 4000000 in
theorem paired_any (b n cap : Nat) (l : List Cel) (i : Int) (w : World) (hT : Tables w) (hr : Rd w (some ⟨b, 0, none⟩) (flat l)) (hb : b < w.heap.size) (hn : l.length = n) (hnb : n ≤ 1000000) (hi : -10 ≤ i ∧ i ≤ 1000000) : Calls Tryd.prog 25 [.slice (some ⟨b, 0, none⟩) n cap, iX i].toArray w fun e w' => e = .returned (.bool (pairedB l i)) ∧ Ch (fun _ => False) w w' := by
 refine yA Tryd.func25 rfl <| ysr <| yp 1 [] .z <| ye <| ys <| yD [15] fun w10 hH11 hc12 => ?_
 have hu13 := Up.step (Up.refl w.heap.size w) hc12 iZ
 have hT14 := tables_ch hc12 hT id id
 have hr15 := Ch.rd hc12 hr id
 refine yd (uL 0 3) [] .z <| yv [7] (rM 0 i) (fun hC16 => ?_) fun hC16 => ?_
 ·refine yd (uL 3 7) [] (.q6 (i + 1) .z) <| yv [14] (rL (i + 1) ((n : Nat) : Int)) (fun hC17 => ?_) fun hC17 => ?_
  ·refine yd (uL 10 5) [] (.i i (n) (.l (c_rune (i := i) hr15 (by omega) (by omega)) .z)) <| yK 15 (yQ (wide_any (gc l i).rune _ hT14.1) fun w18 hq => ?_)
   have hc19 := ch_eq hq
   clear hq
   have hu20 := Up.step hu13 hc19 iZ
   have hr22 := Ch.rd hc19 hr15 id
   refine x_killed <| yd [16, 17] [] .z <| yv [22] (rY (wideB (gc l i).rune)) (fun hC23 => ?_) fun hC23 => ?_
   ·refine yd (uL 18 14) [] (.q6 (i + 1) (.i (i + 1) (n) (.m (c_rune (i := (i + 1)) hr22 (by omega) (by omega)) (.m (c_bold (i := (i + 1)) hr22 (by omega) (by omega)) (.m (c_under (i := (i + 1)) hr22 (by omega) (by omega)) (.m (c_turned (i := (i + 1)) hr22 (by omega) (by omega)) (.m (c_fore (i := (i + 1)) hr22 (by omega) (by omega)) (.m (c_back (i := (i + 1)) hr22 (by omega) (by omega)) (.e (.i i (n) (.m (c_bold (i := i) hr22 (by omega) (by omega)) (.m (c_under (i := i) hr22 (by omega) (by omega)) (.m (c_turned (i := i) hr22 (by omega) (by omega)) (.m (c_fore (i := i) hr22 (by omega) (by omega)) (.m (c_back (i := i) hr22 (by omega) (by omega)) (.e .z)))))))))))))))) <| yDe (nS ?_)
    refine x_ret (yR1 (.bool ((((gc l (i + 1)).rune : Int) == 0) && ((((gc l (i + 1)).sty.bold == (gc l i).sty.bold) && (((gc l (i + 1)).sty.under == (gc l i).sty.under) && (((gc l (i + 1)).sty.turned == (gc l i).sty.turned) && ((((gc l (i + 1)).sty.fore : Int) == (gc l i).sty.fore) && ((((gc l (i + 1)).sty.back : Int) == (gc l i).sty.back) && true))))) && true))) ?_)
    refine ⟨congrArg Ending.returned (congrArg Value.bool ?_), Up.ch hu20⟩
    refine (beq_cel (gc l (i + 1)) ⟨0, (gc l i).sty⟩).trans ?_
    unfold pairedB; rw [hn]; simp [*]
   refine yd (uL 18 14) [] .z <| yDe (nS ?_)
   refine x_ret (yR1 (.bool false) ?_)
   refine ⟨congrArg Ending.returned (congrArg Value.bool ?_), Up.ch hu20⟩
   unfold pairedB; rw [hn]; simp [*] <;> omega
  refine yd (uL 10 22) [] .z <| yDe (nS ?_)
  refine x_ret (yR1 (.bool false) ?_)
  refine ⟨congrArg Ending.returned (congrArg Value.bool ?_), Up.ch hu13⟩
  unfold pairedB; rw [hn]; simp [*] <;> omega
 refine yd (uL 3 29) [] .z <| yDe (nS ?_)
 refine x_ret (yR1 (.bool false) ?_)
 refine ⟨congrArg Ending.returned (congrArg Value.bool ?_), Up.ch hu13⟩
 unfold pairedB; rw [hn]; simp [*] <;> omega
end Go.Proofs.YtclnfbmmaofpjaaDoor.X
namespace Go.Proofs.YtclnfbmmaofpjaaDoor.X
open Go Go.RowKit Go.Proofs.YtclnfbmmaofpjaaDoor
set_option maxHeartbeats 4000000 in
theorem mul64_any (n : Int) (w : World) (h0 : 0 ≤ n) (h1 : n ≤ 60) : Calls Tryd.prog 51 [.int .u64 1, .int .u64 n].toArray w fun e w' => e = .returned (.tuple #[.int .u64 0, .int .u64 n]) ∧ Ch (fun _ => False) w w' := by
 refine yA Tryd.func51 rfl <| ysr <| yp 2 [] .z <| ye <| ysr <| yp 3 [] .z <| ye <| ysr <| yp 3 [] (.p (q := 0 ≤ (32 : Int)) (by omega) .z) <| ye <| ysr <| yp 3 [] .z <| ye <| ysr <| yp 3 [] (.p (q := 0 ≤ (32 : Int)) (by omega) .z) <| ye <| ysr <| yp 4 [] .z <| ye <| ysr <| yp 7 [] (.p (q := 0 ≤ (32 : Int)) (by omega) .z) <| ye <| ysr <| yp 3 [] .z <| ye <| ysr <| yp 3 [] (.p (q := 0 ≤ (32 : Int)) (by omega) .z) <| ye <| ysr <| yp 6 [] .z <| ye <| ysr <| yp 9 [] (.p (q := 0 ≤ (32 : Int)) (by omega) .z) <| ye <| ysr <| yp 4 [] .z <| ye <| x_ret (yR2 [.int .u64 (IntKind.wrap .u64 ((IntKind.wrap .u64 ((IntKind.wrap .u64 (0 * (Int.fdiv n (2 ^ min (32 : Int).toNat (IntKind.bits .u64))))) + (Int.fdiv (IntKind.wrap .u64 ((IntKind.wrap .u64 (0 * (bitsv .and .u64 n 4294967295))) + (Int.fdiv (IntKind.wrap .u64 (1 * (bitsv .and .u64 n 4294967295))) (2 ^ min (32 : Int).toNat (IntKind.bits .u64))))) (2 ^ min (32 : Int).toNat (IntKind.bits .u64))))) + (Int.fdiv (IntKind.wrap .u64 ((bitsv .and .u64 (IntKind.wrap .u64 ((IntKind.wrap .u64 (0 * (bitsv .and .u64 n 4294967295))) + (Int.fdiv (IntKind.wrap .u64 (1 * (bitsv .and .u64 n 4294967295))) (2 ^ min (32 : Int).toNat (IntKind.bits .u64))))) 4294967295) + (IntKind.wrap .u64 (1 * (Int.fdiv n (2 ^ min (32 : Int).toNat (IntKind.bits .u64))))))) (2 ^ min (32 : Int).toNat (IntKind.bits .u64))))), .int .u64 (IntKind.wrap .u64 (1 * n))] .z ?_)
 refine ⟨?_, Up.ch (Up.refl w.heap.size w)⟩
 obtain ⟨k, rfl, hk⟩ : ∃ k : Nat, n = (k : Int) ∧ k < 61 := ⟨n.toNat, by omega, by omega⟩
 have h : ∀ k, k < 61 → ((IntKind.wrap .u64 ((IntKind.wrap .u64 ((IntKind.wrap .u64 (0 * (Int.fdiv ((k : Nat) : Int) (2 ^ min (32 : Int).toNat (IntKind.bits .u64))))) + (Int.fdiv (IntKind.wrap .u64 ((IntKind.wrap .u64 (0 * (bitsv .and .u64 ((k : Nat) : Int) 4294967295))) + (Int.fdiv (IntKind.wrap .u64 (1 * (bitsv .and .u64 ((k : Nat) : Int) 4294967295))) (2 ^ min (32 : Int).toNat (IntKind.bits .u64))))) (2 ^ min (32 : Int).toNat (IntKind.bits .u64))))) + (Int.fdiv (IntKind.wrap .u64 ((bitsv .and .u64 (IntKind.wrap .u64 ((IntKind.wrap .u64 (0 * (bitsv .and .u64 ((k : Nat) : Int) 4294967295))) + (Int.fdiv (IntKind.wrap .u64 (1 * (bitsv .and .u64 ((k : Nat) : Int) 4294967295))) (2 ^ min (32 : Int).toNat (IntKind.bits .u64))))) 4294967295) + (IntKind.wrap .u64 (1 * (Int.fdiv ((k : Nat) : Int) (2 ^ min (32 : Int).toNat (IntKind.bits .u64))))))) (2 ^ min (32 : Int).toNat (IntKind.bits .u64))))) : Int) = 0 ∧ ((IntKind.wrap .u64 (1 * ((k : Nat) : Int))) : Int) = ((k : Nat) : Int) := by decide +kernel
 rw [(h k hk).1, (h k hk).2]
set_option maxHeartbeats 4000000 in
theorem mul_any (n : Int) (w : World) (h0 : 0 ≤ n) (h1 : n ≤ 60) : Calls Tryd.prog 49 [.int .u64 1, .int .u64 n].toArray w fun e w' => e = .returned (.tuple #[.int .u64 0, .int .u64 n]) ∧ Ch (fun _ => False) w w' := by
 refine yA Tryd.func49 rfl <| ysr <| yp 2 [] .z <| ye <| ys <| ycf <| yk <| ysr <| yp 2 [] .z <| yo (yQ (mul64_any n _ (by omega) (by omega)) fun w11 hc10 => ?_)
 have hu12 := Up.step (Up.refl w.heap.size w) hc10 iZ
 refine yp 8 [] .z <| ye <| ysr <| yp 4 [] .z <| ye <| x_ret (yR2 [.int .u64 0, .int .u64 n] .z ?_)
 exact ⟨rfl, Up.ch hu12⟩
theorem rep_flat (k m : Nat) (c : Cel) : flat (List.replicate k c) ++ flat (List.replicate m c) = flat (List.replicate (k + m) c) := by
 rw [← flat_app, List.replicate_append_replicate]
theorem rep_len (k : Nat) (c : Cel) : (flat (List.replicate k c)).length = k * 6 := by rw [flat_len, List.length_replicate]
def RepTo (w : World) (g N : Nat) (c : Cel) (k : Nat) : Prop := ∃ cs, Blk w g cs tCell ∧ cs.length = N * 6 ∧ cs.take (k * 6) = flat (List.replicate k c)
theorem RepTo.lt {w : World} {g N k : Nat} {c : Cel} (h : RepTo w g N c k) : g < w.heap.size := by obtain ⟨cs, hb, _⟩ := h; exact hb.lt
theorem RepTo.ch {w w' : World} {g N k : Nat} {c : Cel} {B : Nat → Prop} (h : RepTo w g N c k) (hc : Ch B w w') (hn : ¬ B g) : RepTo w' g N c k := by
 obtain ⟨cs, hb, h2⟩ := h
 exact ⟨cs, hb.ch hc hn, h2⟩
theorem rep_rd {w : World} {g m k : Nat} {c : Cel} {cs : List Value} (hb : Blk w g cs tCell) (ht : cs.take (k * 6) = flat (List.replicate k c)) (hm : m ≤ k) : Rd w (some ⟨g, 0, none⟩) (flat (List.replicate m c)) := by
 refine Rd.blk hb fun j hj => ?_
 rw [rep_len] at hj
 have e : flat (List.replicate m c) = cs.take (m * 6) := by
  have := rep_flat m (k - m) c
  rw [show m + (k - m) = k by omega, ← ht] at this
  rw [show cs.take (m * 6) = (cs.take (k * 6)).take (m * 6) by rw [List.take_take]; congr 1; omega, ← this, ← rep_len m c, List.take_left]
 rw [e, Nat.zero_add, List.getElem?_take, if_pos (by omega)]
theorem rep_put {w : World} {g N k m : Nat} {c : Cel} {cs : List Value} (hl : cs.length = N * 6) (ht : cs.take (k * 6) = flat (List.replicate k c)) (hk : k + m ≤ N)
    (hb : Blk w g (put cs (0 + k * 6) (flat (List.replicate m c))) tCell) : RepTo w g N c (k + m) := by
  rw [Nat.zero_add] at hb
  refine ⟨_, hb, ?_, ?_⟩
  · simp only [put, List.length_append, List.length_take, List.length_drop, rep_len]; omega
  · unfold put
    rw [ht, rep_flat, show (k + m) * 6 = (flat (List.replicate (k + m) c)).length from (rep_len _ _).symm, List.take_left]
theorem RepTo.line {w : World} {g N : Nat} {c : Cel} (h : RepTo w g N c N) (hN : N ≤ maxLen) : LineAt w g (List.replicate N c) N := by
 obtain ⟨cs, hb, hl, ht⟩ := h
 refine LineAt.of (r := []) ?_ (by simp) (by simp) hN
 rw [List.append_nil, ← ht, List.take_of_length_le (by omega)]
 exact hb
set_option maxHeartbeats 4000000 in
theorem repeat_any (b cap : Nat) (c : Cel) (n : Int) (w : World) (hr : Rd w (some ⟨b, 0, none⟩) (flat [c])) (hb : b < w.heap.size) (h0 : 1 ≤ n) (h1 : n ≤ 60) : Calls Tryd.prog 47 [.slice (some ⟨b, 0, none⟩) 1 cap, iX n].toArray w fun e w' =>
    ∃ g, e = .returned (.slice (some ⟨g, 0, none⟩) n.toNat n.toNat) ∧ LineAt w' g (List.replicate n.toNat c) n.toNat ∧ w.heap.size ≤ g ∧ Ch (fun _ => False) w w' := by
  refine yA Tryd.func47 rfl ?_
  refine ysr ?_
  refine yp 1 [] .z ?_
  refine ye ?_
  refine ys ?_
  refine ysr ?_
  refine yp 2 [] .z ?_
  refine ye ?_
  refine yc (rL n 0) (fun hC10 => ?_) fun hC10 => ?_
  · exfalso; omega
  · refine yk ?_
    refine ysr ?_
    refine yp 5 [4] (.p (q := InR .u64 n) (in_u64 (by omega) (by omega)) .z) ?_
    refine yo (yQ (mul_any n _ (by omega) (by omega)) fun w12 hc11 => ?_)
    have hu13 := Up.step (Up.refl w.heap.size w) hc11 iZ
    have hr14 := Ch.rd hc11 hr id
    refine yp 11 [] .z ?_
    refine ye ?_
    refine ys ?_
    refine ysr ?_
    refine yp 6 [] .z ?_
    refine ye ?_
    refine yc (rL 9223372036854775807 n) (fun hC15 => ?_) fun hC15 => ?_
    · exfalso; omega
    · refine yk ?_
      refine ysr ?_
      refine yp 2 [] (.q6 n .z) ?_
      refine yo (e_make 70 6 32 n.toNat n n (some 30) (by kernel_rfl) (by omega) (by omega) (by constructor <;> first | omega | (simp only [maxLen]; omega)) ?_)
      intro w16 b17 zs18 hb19 hO20 hc21
      have hlo22 : w.heap.size ≤ b17 := by rw [hb19]; exact Ch.size hu13
      have hu23 := Up.step hu13 hc21 iZ
      have hr24 := Ch.rd hc21 hr14 id
      have hR25 : RepTo w16 b17 n.toNat c 0 := by
        obtain ⟨r, hr, hB⟩ := hO20.2.2.2.2 _ rfl
        exact ⟨_, hB, by rw [List.length_append, hO20.1, hr]; omega, by rw [Nat.zero_mul]; rfl⟩
      refine yp 4 [] .z ?_
      refine ye ?_
      refine ysr ?_
      refine yp 2 [] .z ?_
      obtain ⟨cs29, hb30, hl31, ht32⟩ := hR25
      refine yo (e_copy' 6 b17 (0 + 0 * 6) (n.toNat) (n.toNat) (some ⟨b, 0, none⟩) 1 cap (flat (List.replicate (1) c)) (some 33) (1) (by omega) (by kernel_rfl) hb30 hr24 (rep_len _ _) (flat_one_cells _) (by rw [rep_len, hl31]; omega) ?_)
      intro w26 hB27 hc28
      have hR33 := rep_put (k := 0) (m := 1) hl31 ht32 (by omega) hB27
      have hu34 := Up.step hu23 hc28 (fun i hi (h : i = b17) => by omega)
      refine yp 4 [] .z ?_
      refine ye ?_
      refine ys ?_
      refine x_block ?_
      refine ykeep [7, 8] (f' := [(7, .slice (some ⟨b17, 0, none⟩) n.toNat n.toNat), (8, iX ((1 : Nat) : Int))]) ?_
      refine x_loop (σ := Nat) (fun k => [(7, .slice (some ⟨b17, 0, none⟩) n.toNat n.toNat), (8, iX ((k : Nat) : Int))]) (fun k w => 1 ≤ k ∧ k ≤ n.toNat ∧ RepTo w b17 n.toNat c k ∧ Ch (fun j => j = b17) w26 w) (fun k => n.toNat - k) 1 rfl ?_ ?_
      · exact ⟨Nat.le_refl _, by omega, hR33, Ch.refl _ _⟩
      · intro k w36 hI37 K38 hL39
        obtain ⟨h40, h41, hR42, hc43⟩ := hI37
        have hu44 := Up.step hu34 hc43 (fun i hi (h : i = b17) => by omega)
        refine ys ?_
        refine ysr ?_
        refine yp 4 [] .z ?_
        refine ye ?_
        refine yc (rL ((k : Nat) : Int) ((n.toNat : Nat) : Int)) (fun hC46 => ?_) fun hC46 => ?_
        · refine yk ?_
          refine x_block ?_
          refine yD [7] fun w47 hH48 hc49 => ?_
          have hL51 := Ch.trans hc43 hc49 eZ
          have hR53 := hR42.ch hc49 id
          refine yd (uL 0 7) [3] (.j ((k : Nat) : Int) (n.toNat) (.p (q := (((k : Nat) : Int) : Int).toNat < n.toNat) (by omega) (.j ((k : Nat) : Int) (n.toNat) .z))) ?_
          obtain ⟨cs57, hb58, hl59, ht60⟩ := hR53
          refine yK 7 (e_copy' 6 b17 (0 + k * 6) (n.toNat - k) (n.toNat - k) (some ⟨b17, 0, none⟩) k n.toNat (flat (List.replicate (min k (n.toNat - k)) c)) (some 45) (min k (n.toNat - k)) (by omega) (by kernel_rfl) hb58 (rep_rd hb58 ht60 (by omega)) (rep_len _ _) (flat_one_cells _) (by rw [rep_len, hl59]; omega) ?_)
          intro w54 hB55 hc56
          have hR61 := rep_put (k := k) (m := min k (n.toNat - k)) hl59 ht60 (by omega) hB55
          have hL63 := Ch.trans hL51 hc56 iZ
          refine x_killed ?_
          refine yd [8, 9] [] (.q6 (((k : Nat) : Int) + ((min k (n.toNat - k) : Nat) : Int)) .z) ?_
          refine yDe (nB  (fun a ha => hL39 (k + min k (n.toNat - k)) _ ⟨by omega, by omega, hR61, hL63⟩ (by show n.toNat - (k + min k (n.toNat - k)) < n.toNat - k; omega) a (ha.kp [7, 8])))
        · have hkn : k = n.toNat := by omega
          refine x_exit (eS (then_exit (block_exit (nS ?_))))
          refine ysr ?_
          refine yp 2 [] .z ?_
          refine ye ?_
          refine x_ret (yR1 (.slice (some ⟨b17, 0, none⟩) n.toNat n.toNat) ?_)
          exact ⟨b17, rfl, RepTo.line (by rw [hkn] at hR42; exact hR42) (by simp only [maxLen]; omega), by omega, Up.ch hu44⟩
set_option maxHeartbeats 4000000 in
theorem blanks_any (n : Int) (s : Sty) (w : World) (h0 : 1 ≤ n) (h1 : n ≤ 60) : Calls Tryd.prog 46 [iX n, .agg #[.bool s.bold, .bool s.under, .bool s.turned, iX s.fore, iX s.back]].toArray w fun e w' =>
    ∃ g, e = .returned (.slice (some ⟨g, 0, none⟩) n.toNat n.toNat) ∧ LineAt w' g (List.replicate n.toNat (blankC s)) n.toNat ∧ w.heap.size ≤ g ∧ Ch (fun _ => False) w w' := by
  refine yA Tryd.func46 rfl ?_
  refine ysr ?_
  refine yo (yN [.bool s.bold, .bool s.under, .bool s.turned, iX s.fore, iX s.back] 30 fun w10 b11 hb12 hz13 hB14 hc15 => ?_)
  have hlo16 : w.heap.size ≤ b11 := by rw [hb12]; exact Ch.size (Up.refl w.heap.size w)
  have hu17 := Up.step (Up.refl w.heap.size w) hc15 iZ
  refine yp 2 [] .z ?_
  refine ye ?_
  refine ysr ?_
  refine yp 1 [] (.a (hB14.cs 0 5) .z) ?_
  refine yo (yQ (blank_any s _) fun w19 hc18 => ?_)
  have hu20 := Up.step hu17 hc18 iZ
  have hB21 := hB14.ch hc18 id
  refine yo (yB [rX (blankC s).rune, .bool (blankC s).sty.bold, .bool (blankC s).sty.under, .bool (blankC s).sty.turned, iX (blankC s).sty.fore, iX (blankC s).sty.back] 70 1 fun w22 b23 hb24 hz25 hB26 hc27 => ?_)
  have hlo28 : w.heap.size ≤ b23 := by rw [hb24]; exact Ch.size hu20
  have hu29 := Up.step hu20 hc27 iZ
  have hB30 := hB21.ch hc27 id
  refine yp 4 [] .z ?_
  refine yo (yC (repeat_any b23 1 (blankC s) n _ (Rd.all hB26) hB26.lt (by omega) (by omega)) ?_)
  rintro _ w36 ⟨g31, rfl, hl33, hlo34, hc35⟩
  refine ⟨_, rfl, ?_⟩
  have hlo34w : w.heap.size ≤ g31 := Nat.le_trans (Ch.size hu29) hlo34
  have hd37 : Df b11 g31 := (show ¬ b11 = g31 by have := hB30.lt; omega)
  have hd38 : Df b23 g31 := (show ¬ b23 = g31 by have := hB26.lt; omega)
  have hu39 := Up.step hu29 hc35 iZ
  refine yp 6 [] .z ?_
  refine ye ?_
  refine x_ret (yR1 (.slice (some ⟨g31, 0, none⟩) (n : Int).toNat (n : Int).toNat) ?_)
  exact ⟨g31, rfl, hl33, hlo34w, Up.ch hu39⟩
end Go.Proofs.YtclnfbmmaofpjaaDoor.X
namespace Go.Proofs.YtclnfbmmaofpjaaDoor.X
open Go Go.RowKit Go.Proofs.YtclnfbmmaofpjaaDoor
structure Gr where
 w : Int
 h : Int
 lines : List (List Cel)
def Gr.ok (G : Gr) : Prop := (1 ≤ G.w ∧ G.w ≤ 60) ∧ (1 ≤ G.h ∧ G.h ≤ 60) ∧ G.lines.length = G.h.toNat ∧ ∀ l ∈ G.lines, l.length = G.w.toNat
structure Row where
 b : Nat
 n : Nat
 cap : Nat
 l : List Cel
def Row.val (x : Row) : Value := .slice (some ⟨x.b, 0, none⟩) x.n x.cap
abbrev tGrid : TypeId := 45
def gl (G : Gr) (y : Int) : List Cel := G.lines.getD y.toNat []
def more (F : Nat → Prop) (w w' : World) : Nat → Prop := fun b => F b ∨ (w.heap.size ≤ b ∧ b < w'.heap.size)
structure GridIn (w : World) (g r cap : Nat) (rows : List Row) (G : Gr) (F : Nat → Prop) : Prop where
 head : Blk w g [.int .i64 G.w, .int .i64 G.h, .slice (some ⟨r, 0, none⟩) rows.length cap] tGrid
 body : Own w tLine 1 (some r) rows.length cap (rows.map Row.val)
 line : ∀ x ∈ rows, LineAt w x.b x.l x.cap ∧ x.l.length = x.n
 lines : rows.map Row.l = G.lines
 ok : G.ok
 gr : r ≠ g
 gb : ∀ x ∈ rows, x.b ≠ g ∧ x.b ≠ r
 nodup : (rows.map Row.b).Nodup
 inF : F g ∧ F r ∧ ∀ x ∈ rows, F x.b
 lt : ∀ b, F b → b < w.heap.size
 hi : ∀ b, F b → gTop ≤ b
def GridAt (w : World) (g : Nat) (G : Gr) (F : Nat → Prop) : Prop := ∃ r cap rows, GridIn w g r cap rows G F
section
variable {w w' : World} {g r cap : Nat} {rows : List Row} {G : Gr} {F : Nat → Prop}
theorem GridIn.len (h : GridIn w g r cap rows G F) : rows.length = G.h.toNat := by
 have := h.ok.2.2.1
 rw [← h.lines, List.length_map] at this
 exact this
theorem GridIn.ch {B : Nat → Prop} (h : GridIn w g r cap rows G F) (hc : Ch B w w') (hB : ∀ b, F b → ¬ B b) : GridIn w' g r cap rows G F :=
 {head := h.head.ch hc (hB g h.inF.1)
  body := h.body.ch hc fun b e => by cases e; exact hB r h.inF.2.1
  line := fun x hx => ⟨(h.line x hx).1.ch hc (hB _ (h.inF.2.2 x hx)), (h.line x hx).2⟩
  lines := h.lines, ok := h.ok, gr := h.gr, gb := h.gb, nodup := h.nodup, inF := h.inF
  lt := fun b hb => Nat.lt_of_lt_of_le (h.lt b hb) hc.size
  hi := h.hi }
theorem GridAt.ch {B : Nat → Prop} (h : GridAt w g G F) (hc : Ch B w w') (hB : ∀ b, F b → ¬ B b) : GridAt w' g G F := by
 obtain ⟨r, cap, rows, h⟩ := h
 exact ⟨r, cap, rows, h.ch hc hB⟩
theorem GridIn.mono {F' : Nat → Prop} (h : GridIn w g r cap rows G F) (hF : ∀ b, F b → F' b) (hl : ∀ b, F' b → b < w.heap.size ∧ gTop ≤ b) : GridIn w g r cap rows G F' :=
 {h with inF := ⟨hF _ h.inF.1, hF _ h.inF.2.1, fun x hx => hF _ (h.inF.2.2 x hx)⟩, lt := fun b hb => (hl b hb).1, hi := fun b hb => (hl b hb).2 }
theorem GridAt.mono {F' : Nat → Prop} (h : GridAt w g G F) (hF : ∀ b, F b → F' b) (hl : ∀ b, F' b → b < w.heap.size ∧ gTop ≤ b) : GridAt w g G F' := by
 obtain ⟨r, cap, rows, h⟩ := h
 exact ⟨r, cap, rows, h.mono hF hl⟩
theorem GridAt.lt (h : GridAt w g G F) : ∀ b, F b → b < w.heap.size := by obtain ⟨r, cap, rows, h⟩ := h; exact h.lt
theorem GridAt.ok (h : GridAt w g G F) : G.ok := by obtain ⟨r, cap, rows, h⟩ := h; exact h.ok
theorem GridAt.inF (h : GridAt w g G F) : F g := by obtain ⟨r, cap, rows, h⟩ := h; exact h.inF.1
theorem GridAt.hi (h : GridAt w g G F) : ∀ b, F b → gTop ≤ b := by obtain ⟨r, cap, rows, h⟩ := h; exact h.hi
theorem more_ok (h : GridAt w g G F) (hs : w.heap.size ≤ w'.heap.size) : ∀ b, more F w w' b → b < w'.heap.size ∧ gTop ≤ b := by
 rintro b (hb | ⟨h1, h2⟩)
 ·exact ⟨Nat.lt_of_lt_of_le (h.lt b hb) hs, h.hi b hb⟩
 ·have h3 := h.hi g h.inF
  have h4 := h.lt g h.inF
  exact ⟨h2, by omega⟩
theorem GridAt.same (h : GridAt w g G F) (hc : Ch (fun _ => False) w w') : GridAt w' g G (more F w w') :=
 (h.ch hc fun _ _ h => h).mono (fun _ h => .inl h) (more_ok h hc.size)
end
end Go.Proofs.YtclnfbmmaofpjaaDoor.X
namespace Go.Proofs.YtclnfbmmaofpjaaDoor.X
open Go Go.RowKit Go.Proofs.YtclnfbmmaofpjaaDoor
def sideI (n : Int) : Int := min (max n 1) 60
def setG (G : Gr) (y : Int) (l : List Cel) : Gr := ⟨G.w, G.h, G.lines.set y.toNat l⟩
end Go.Proofs.YtclnfbmmaofpjaaDoor.X
namespace Go.Proofs.YtclnfbmmaofpjaaDoor.X
open Go Go.RowKit Go.Proofs.YtclnfbmmaofpjaaDoor
set_option maxHeartbeats 4000000 in
theorem bring_any (n : Int) (w : World) : Calls Tryd.prog 45 [iX n].toArray w fun e w' => e = .returned (iX (sideI n)) ∧ Ch (fun _ => False) w w' := by
 refine yA Tryd.func45 rfl <| ysr <| yp 1 [] .z <| ye <| ysr <| yp 4 [] .z <| ye <| x_ret (yR1 (iX (min ((max (n : Int) 1) : Int) 60)) ?_)
 exact ⟨rfl, Up.ch (Up.refl w.heap.size w)⟩
end Go.Proofs.YtclnfbmmaofpjaaDoor.X

namespace Go.Proofs.YtclnfbmmaofpjaaDoor.X
open Go Go.RowKit Go.Proofs.YtclnfbmmaofpjaaDoor
theorem GridIn.rows' {w w' : World} {g r cap : Nat} {rows rows' : List Row} {G : Gr} {F : Nat → Prop} {x : Row} {sub : List Row} (h : GridIn w g r cap rows G F) (hp : rows'.Perm (x :: sub)) (hsub : sub.Sublist rows) (hlen : rows'.length = rows.length)
  (hc : Ch (fun j => j = r) w w') (hbody : Own w' tLine 1 (some r) rows.length cap (rows'.map Row.val)) (hl : LineAt w' x.b x.l x.cap) (hb : w.heap.size ≤ x.b) (hxl : x.l.length = G.w.toNat) (hn : x.l.length = x.n) :
  GridIn w' g r cap rows' ⟨G.w, G.h, rows'.map Row.l⟩ (more F w w') := by
 have hmem : ∀ z ∈ rows', z = x ∨ z ∈ rows := fun z hz => by
  rcases List.mem_cons.1 (hp.mem_iff.1 hz) with h | h
  ·exact .inl h
  ·exact .inr (hsub.subset h)
 have hg := h.lt _ h.inF.1
 have hr := h.lt _ h.inF.2.1
 refine ⟨?_, hlen ▸ hbody, ?_, rfl, ⟨h.ok.1, h.ok.2.1, ?_, ?_⟩, h.gr, ?_, ?_, ⟨.inl h.inF.1, .inl h.inF.2.1, ?_⟩, fun b hb => (more_ok ⟨r, cap, rows, h⟩ hc.size b hb).1, fun b hb => (more_ok ⟨r, cap, rows, h⟩ hc.size b hb).2⟩
 ·rw [hlen]; exact h.head.ch hc fun e => h.gr e.symm
 ·intro z hz
  rcases hmem z hz with rfl | hz
  ·exact ⟨hl, hn⟩
  ·exact ⟨(h.line z hz).1.ch hc (h.gb z hz).2, (h.line z hz).2⟩
 ·simp only [List.length_map]; rw [hlen, h.len]
 ·intro l hl'
  obtain ⟨z, hz, rfl⟩ := List.mem_map.1 hl'
  rcases hmem z hz with rfl | hz
  ·exact hxl
  ·exact h.ok.2.2.2 _ (h.lines ▸ List.mem_map_of_mem hz)
 ·intro z hz
  rcases hmem z hz with rfl | hz
  ·exact ⟨by omega, by omega⟩
  ·exact h.gb z hz
 ·have hp2 := hp.map Row.b
  rw [hp2.nodup_iff, List.map_cons, List.nodup_cons]
  refine ⟨fun hx => ?_, (hsub.map Row.b).nodup h.nodup⟩
  obtain ⟨z, hz, e⟩ := List.mem_map.1 hx
  have := h.lt _ (h.inF.2.2 z (hsub.subset hz))
  omega
 ·intro z hz
  rcases hmem z hz with rfl | hz
  ·exact .inr ⟨hb, hl.lt⟩
  ·exact .inl (h.inF.2.2 z hz)
end Go.Proofs.YtclnfbmmaofpjaaDoor.X

namespace Go.Proofs.YtclnfbmmaofpjaaDoor.X
open Go Go.RowKit Go.Proofs.YtclnfbmmaofpjaaDoor
structure OutAt (w : World) (o : Option Nat) (n cap : Nat) (outs : List Row) (K : Nat → Prop) : Prop where
 own : Own w tLine 1 o n cap (outs.map Row.val)
 line : ∀ x ∈ outs, LineAt w x.b x.l x.cap ∧ x.l.length = x.n
 inK : ∀ x ∈ outs, K x.b
 oK : ∀ b, o = some b → K b
 lt : ∀ b, K b → b < w.heap.size
 hi : ∀ b, K b → gTop ≤ b
theorem OutAt.len {w : World} {o : Option Nat} {n cap : Nat} {outs : List Row} {K : Nat → Prop} (h : OutAt w o n cap outs K) : outs.length = n := by
 have := h.own.1
 rw [List.length_map, Nat.mul_one] at this
 exact this
theorem OutAt.ch {w w' : World} {o : Option Nat} {n cap : Nat} {outs : List Row} {K B : Nat → Prop} (h : OutAt w o n cap outs K) (hc : Ch B w w') (hB : ∀ b, K b → ¬ B b) : OutAt w' o n cap outs K :=
 {own := h.own.ch hc fun b e => hB b (h.oK b e)
  line := fun x hx => ⟨(h.line x hx).1.ch hc (hB _ (h.inK x hx)), (h.line x hx).2⟩
  inK := h.inK, oK := h.oK, hi := h.hi
  lt := fun b hb => Nat.lt_of_lt_of_le (h.lt b hb) hc.size }
theorem OutAt.nil (w : World) : OutAt w none 0 0 [] (fun _ => False) :=
 ⟨Own.nil _ _ _, (fun x hx => by cases hx), (fun x hx => by cases hx), (fun b e => by cases e), fun _ h => h.elim, fun _ h => h.elim⟩
theorem tys : tLine ≠ tCell := by decide
theorem own_line_ne {w : World} {o : Option Nat} {n cap b c2 : Nat} {xs : List Value} {l : List Cel} (ho : Own w tLine 1 o n cap xs) (hl : LineAt w b l c2) : o ≠ some b := by
 intro e
 obtain ⟨r1, _, h1⟩ := ho.2.2.2.2 b e
 obtain ⟨r2, _, h2⟩ := hl.blk
 exact tys (h1.inj h2).2
end Go.Proofs.YtclnfbmmaofpjaaDoor.X

namespace Go.Proofs.YtclnfbmmaofpjaaDoor.X
open Go Go.RowKit Go.Proofs.YtclnfbmmaofpjaaDoor
structure NewRows (wb w : World) (o : Option Nat) (n cap : Nat) (rows : List Row) (W : Int) : Prop where
 out : OutAt w o n cap rows (fun b => wb.heap.size ≤ b ∧ b < w.heap.size)
 nodup : (rows.map Row.b).Nodup
 wide : ∀ x ∈ rows, x.l.length = W.toNat
theorem NewRows.nil {w : World} (W : Int) : NewRows w w none 0 0 [] W :=
 ⟨⟨Own.nil _ _ _, (fun x hx => by cases hx), (fun x hx => by cases hx), (fun b e => by cases e), (fun b h => by omega), (fun b h => by omega)⟩, by simp, (fun x hx => by cases hx)⟩
theorem NewRows.lo {wb w : World} {o : Option Nat} {n cap : Nat} {rows : List Row} {W : Int} (h : NewRows wb w o n cap rows W) : ∀ b, o = some b → wb.heap.size ≤ b := fun b e => (h.out.oK b e).1
theorem new_round {wb wk w' : World} {o o' : Option Nat} {k oc oc' : Nat} {rows : List Row} {W : Int} {x : Row} {S : Nat → Prop} (h : NewRows wb wk o k oc rows W) (h7 : gTop ≤ wb.heap.size) (hs : wb.heap.size ≤ wk.heap.size)
  (hc : Ch S wk w') (hS : ∀ b, S b → b < wb.heap.size ∨ o = some b) (hl : LineAt w' x.b x.l x.cap) (hb : wk.heap.size ≤ x.b) (hxl : x.l.length = W.toNat) (hn : x.l.length = x.n)
  (hown : Own w' tLine 1 o' (k + 1) oc' ((rows ++ [x]).map Row.val)) (ho' : o' = o ∨ ∃ b, o' = some b ∧ wk.heap.size ≤ b) : NewRows wb w' o' (k + 1) oc' (rows ++ [x]) W := by
 have hsz := hc.size
 have hlt' : ∀ b, o' = some b → b < w'.heap.size := fun b e => by subst e; exact hown.lt
 refine ⟨⟨hown, ?_, ?_, ?_, fun b h => h.2, fun b h => by omega⟩, ?_, ?_⟩
 ·intro z hz
  rcases List.mem_append.1 hz with hz | hz
  ·have hk := h.out.inK z hz
   refine ⟨(h.out.line z hz).1.ch hc fun hs' => ?_, (h.out.line z hz).2⟩
   rcases hS _ hs' with h1 | h1
   ·omega
   ·exact own_line_ne h.out.own (h.out.line z hz).1 h1
  ·obtain rfl := List.mem_singleton.1 hz
   exact ⟨hl, hn⟩
 ·intro z hz
  rcases List.mem_append.1 hz with hz | hz
  ·have := h.out.inK z hz; omega
  ·obtain rfl := List.mem_singleton.1 hz
   exact ⟨by omega, hl.lt⟩
 ·intro b e
  have := hlt' b e
  rcases ho' with h' | ⟨b', h', h2⟩
  ·have := h.lo b (h' ▸ e); omega
  ·rw [e] at h'; obtain rfl := Option.some.inj h'; omega
 ·rw [List.map_append, List.nodup_append]
  refine ⟨h.nodup, by simp, fun a ha b hb e => ?_⟩
  obtain ⟨z, hz, rfl⟩ := List.mem_map.1 ha
  simp only [List.map_cons, List.map_nil, List.mem_singleton] at hb
  have := (h.out.inK z hz).2
  omega
 ·intro z hz
  rcases List.mem_append.1 hz with hz | hz
  ·exact h.wide z hz
  ·obtain rfl := List.mem_singleton.1 hz; exact hxl
theorem NewRows.grid {wb w : World} {r cap g n : Nat} {rows : List Row} {W H : Int} {F : Nat → Prop} (h : NewRows wb w (some r) n cap rows W) (hg : Blk w g [.int .i64 W, .int .i64 H, .slice (some ⟨r, 0, none⟩) n cap] tGrid) (hgb : g < wb.heap.size)
  (hW : 1 ≤ W ∧ W ≤ 60) (hH : 1 ≤ H ∧ H ≤ 60) (hn : n = H.toNat) (hFg : F g) (hF : ∀ b, wb.heap.size ≤ b ∧ b < w.heap.size → F b) (hok : ∀ b, F b → b < w.heap.size ∧ gTop ≤ b) : GridIn w g r cap rows ⟨W, H, rows.map Row.l⟩ F := by
 have hlen := h.out.len
 have hr := (h.out.oK r rfl)
 refine ⟨by rw [hlen]; exact hg, by rw [hlen]; exact h.out.own, h.out.line, rfl, ⟨hW, hH, ?_, ?_⟩, ?_, ?_, h.nodup, ⟨hFg, hF r hr, fun x hx => hF _ (h.out.inK x hx)⟩, fun b hb => (hok b hb).1, fun b hb => (hok b hb).2⟩
 ·show (rows.map Row.l).length = _
  rw [List.length_map, hlen, hn]
 ·intro l hl
  obtain ⟨x, hx, rfl⟩ := List.mem_map.1 hl
  exact h.wide x hx
 ·intro e; subst e; omega
 ·intro x hx
  have := h.out.inK x hx
  refine ⟨by omega, fun e => ?_⟩
  exact own_line_ne h.out.own (h.out.line x hx).1 (e ▸ rfl)
theorem NewRows.some {wb w : World} {o : Option Nat} {n cap : Nat} {rows : List Row} {W : Int} (h : NewRows wb w o n cap rows W) (hn : 0 < n) : ∃ r, o = some r := by
 cases o with
 | none => have := (h.out.own.2.2.2.1 rfl).1; omega
 | some r => exact ⟨r, rfl⟩
def newG (w h : Int) : Gr := ⟨sideI w, sideI h, List.replicate (sideI h).toNat (List.replicate (sideI w).toNat (blankC sty0))⟩
end Go.Proofs.YtclnfbmmaofpjaaDoor.X
namespace Go.Proofs.YtclnfbmmaofpjaaDoor.X
open Go Go.RowKit Go.Proofs.YtclnfbmmaofpjaaDoor
set_option maxHeartbeats 4000000 in
theorem new_any (p1 p2 : Int) (w : World) (hT : Tables w) (h7 : gTop ≤ w.heap.size) : Calls Tryd.prog 42 [iX p1, iX p2].toArray w fun e w' =>
    ∃ g F, e = .returned (pX g) ∧ GridAt w' g (newG p1 p2) F ∧ (∀ b, F b → w.heap.size ≤ b) ∧ Ch (fun _ => False) w w' := by
  have hs1 : 1 ≤ sideI p1 ∧ sideI p1 ≤ 60 := by unfold sideI; omega
  have hs2 : 1 ≤ sideI p2 ∧ sideI p2 ≤ 60 := by unfold sideI; omega
  refine yA Tryd.func42 rfl ?_
  refine ysr ?_
  refine yp 1 [] .z ?_
  refine ye ?_
  refine ysr ?_
  refine yp 1 [] .z ?_
  refine yo (yQ (bring_any p1 _) fun w11 hc10 => ?_)
  have hu12 := Up.step (Up.refl w.heap.size w) hc10 iZ
  refine yp 3 [] .z ?_
  refine yo (yQ (bring_any p2 _) fun w15 hc14 => ?_)
  have hu16 := Up.step hu12 hc14 iZ
  refine yp 5 [] .z ?_
  refine yo (yN [iX (sideI p1), iX (sideI p2), .slice none 0 0] 45 fun w18 b19 hb20 hz21 hB22 hc23 => ?_)
  have hlo24 : w.heap.size ≤ b19 := by rw [hb20]; exact Ch.size hu16
  have hu25 := Up.step hu16 hc23 iZ
  refine yp 7 [] .z ?_
  refine ye ?_
  refine ys ?_
  refine ysr ?_
  refine yp 5 [] (.l (hB22.c 1) .z) ?_
  refine ye ?_
  refine x_block ?_
  refine ykeep [5, 15, 16] (f' := [(5, pX b19), (15, iX (sideI p2)), (16, iX 0)]) ?_
  refine x_loop (σ := Nat × Option Nat × Nat) (fun ⟨k, o, oc⟩ => [(5, pX b19), (15, iX (sideI p2)), (16, iX ((k : Nat) : Int))]) (fun ⟨k, o, oc⟩ u => k ≤ (sideI p2).toNat ∧ Ch (fun j => j = b19) w18 u ∧ ∃ rows, Blk u b19 [iX (sideI p1), iX (sideI p2), .slice (o.map at0) k oc] tGrid ∧ NewRows w18 u o k oc rows (sideI p1) ∧ rows.map Row.l = List.replicate k (List.replicate (sideI p1).toNat (blankC sty0))) (fun ⟨k, o, oc⟩ => (sideI p2).toNat - k) (0, none, 0) rfl ?_ ?_
  · exact ⟨Nat.zero_le _, Ch.refl _ _, [], hB22, NewRows.nil _, rfl⟩
  · intro p w27 hI28 K29 hL30
    obtain ⟨k, o, oc⟩ := p
    obtain ⟨hk, hc31, rows, hB, hN, hrl⟩ := hI28
    have hu32 := Up.step hu25 hc31 (fun i hi (h : i = b19) => by omega)
    have hszw : w.heap.size ≤ w18.heap.size := Ch.size hu25
    have hszk : w18.heap.size ≤ w27.heap.size := Ch.size hc31
    have hgb : b19 < w18.heap.size := hB22.lt
    refine ysr ?_
    refine yp 1 [] .z ?_
    refine ye ?_
    refine ys ?_
    refine yc (rL ((k : Nat) : Int) (sideI p2)) (fun hC34 => ?_) fun hC34 => ?_
    · refine yk ?_
      refine ys ?_
      refine x_block ?_
      refine yDC [12, 15] fun w35 hH36 hc37 => ?_
      have hu38 := Up.step hu32 hc37 iZ
      have hL39 := Ch.trans hc31 hc37 eZ
      have hR40 := Ch.trans (Ch.refl (fun j => j = b19 ∨ o = some j) w27) hc37 eZ
      have hB42 := hB.ch hc37 id
      have ho43 := hN.out.own.ch hc37 iZ
      refine ydC (uL 0 10) [] (fun u hu => (.l (cell_ch hu (hB42.c 2) id) (.l (cell_ch hu (hB42.c 0) id) .z))) ?_
      refine yH 10 (yC (blanks_any (sideI p1) sty0 _ (by omega) (by omega)) ?_)
      rintro _ w49 ⟨g44, rfl, hl46, hlo47, hc48⟩
      refine ⟨_, rfl, ?_⟩
      have hlo47w : w27.heap.size ≤ g44 := Nat.le_trans (Ch.size hR40) hlo47
      have hlo47l : w18.heap.size ≤ g44 := Nat.le_trans (Ch.size hL39) hlo47
      have hd50 : Df b19 g44 := (show ¬ b19 = g44 by have := hB42.lt; omega)
      have hu51 := Up.step hu38 hc48 iZ
      have hL52 := Ch.trans hL39 hc48 eZ
      have hR53 := Ch.trans hR40 hc48 eZ
      have hB55 := hB42.ch hc48 id
      have ho56 := ho43.ch hc48 iZ
      refine x_heldC hc48 ?_
      refine yH 11 (yB [.slice (some ⟨g44, 0, none⟩) ((sideI p1) : Int).toNat ((sideI p1) : Int).toNat] 48 1 fun w57 b58 hb59 hz60 hB61 hc62 => ?_)
      have hlo63 : w.heap.size ≤ b58 := by rw [hb59]; exact Ch.size hu51
      have hlo63l : w18.heap.size ≤ b58 := by rw [hb59]; exact Ch.size hL52
      have hlo63r : w27.heap.size ≤ b58 := by rw [hb59]; exact Ch.size hR53
      have hL65 := Ch.trans hL52 hc62 eZ
      have hR66 := Ch.trans hR53 hc62 eZ
      have hB68 := hB55.ch hc62 id
      have ho69 := ho56.ch hc62 iZ
      have hl70 := hl46.ch hc62 id
      refine x_heldC hc62 ?_
      refine yK 12 (e_app' 48 1 24 o k oc (rows.map Row.val) (some ⟨b58, 0, none⟩) 1 1 [Row.val (Row.mk g44 ((sideI p1) : Int).toNat ((sideI p1) : Int).toNat (List.replicate ((sideI p1) : Int).toNat (blankC sty0)))] (some 30) (k + 1) rfl ((rows ++ [(Row.mk g44 ((sideI p1) : Int).toNat ((sideI p1) : Int).toNat (List.replicate ((sideI p1) : Int).toNat (blankC sty0)))]).map Row.val) (by rw [List.map_append]; rfl) (by kernel_rfl) ho69 (Rd.all hB61) rfl rfl (fun h => by cases h) (by constructor <;> first | omega | (simp only [maxLen]; omega)) ?_)
      intro w71 og72 cp73 hO74 hne75 hpos76 hc77
      obtain ⟨o78, rfl⟩ : ∃ b, og72 = some b := hpos76 (by omega)
      have hoy79 : ¬ o = some b19 := fun e => by have := hN.lo _ e; have := hB22.lt; omega
      have hoy80 : ¬ o = some g44 := own_line_ne ho69 hl70
      have hd81 : Df b19 o78 := app_ne hne75 (fun e => hoy79 e) hB68.lt
      have hd82 : Df g44 o78 := app_ne hne75 (fun e => hoy80 e) hl70.lt
      have hL84 := Ch.trans hL65 hc77 (fun i hi h => by have := hN.lo _ h; omega)
      have hR85 := Ch.trans hR66 hc77 (fun _ _ h => .inr h)
      have hB87 := hB68.ch hc77 hoy79
      have hl88 := hl70.ch hc77 hoy80
      refine x_killed ?_
      refine yd [13, 14] [] .z ?_
      refine yK 15 (yS hB87 fun w89 hB90 hc91 => ?_)
      have hL93 := Ch.trans hL84 hc91 iZ
      have hR94 := Ch.trans hR85 hc91 (fun i _ (h : i = b19) => .inl h)
      have hl96 := hl88.ch hc91 (fun h => hd50 h.symm)
      have ho97 := hO74.ch hc91 (fun b e => by cases e; exact (fun h => hd81 h.symm))
      replace hB90 : Blk w89 b19 [iX (sideI p1), iX (sideI p2), .slice (some ⟨o78, 0, none⟩) (k + 1) cp73] _ := Blk.to hB90 (by kernel_rfl)
      refine x_killed ?_
      refine yDe (nB (nS ?_))
      refine x_region ?_
      refine yp 2 [] (.q6 (((k : Nat) : Int) + 1) .z) ?_
      have hN2 := new_round (x := (Row.mk g44 ((sideI p1) : Int).toNat ((sideI p1) : Int).toNat (List.replicate ((sideI p1) : Int).toNat (blankC sty0)))) hN (by omega) hszk hR94 (fun b h => h.imp (fun e => by omega) id) hl96 hlo47w (by rw [List.length_replicate]) (by rw [List.length_replicate]) ho97 (hne75.imp id fun ⟨b, e, h⟩ => ⟨b, e, Nat.le_trans (Ch.size hR66) h⟩)
      have hrl2 : (rows ++ [(Row.mk g44 ((sideI p1) : Int).toNat ((sideI p1) : Int).toNat (List.replicate ((sideI p1) : Int).toNat (blankC sty0)))]).map Row.l = List.replicate (k + 1) (List.replicate (sideI p1).toNat (blankC sty0)) := by rw [List.map_append, hrl, List.replicate_succ']; rfl
      refine yE (fun a ha => hL30 (k + 1, some o78, cp73) _ ⟨by omega, hL93, _, hB90, hN2, hrl2⟩ (by show (sideI p2).toNat - (k + 1) < (sideI p2).toNat - k; omega) a (ha.kp [5, 15, 16]))
    · have hkn : k = (sideI p2).toNat := by omega
      obtain ⟨r, rfl⟩ := hN.some (by omega)
      refine x_exit (eS (then_exit (block_exit (nS ?_))))
      refine ysr ?_
      refine yp 2 [] .z ?_
      refine ye ?_
      refine x_ret (yR1 (pX b19) ?_)
      have hfin := hN.grid (F := fun b => w.heap.size ≤ b ∧ b < w27.heap.size) hB hgb hs1 hs2 hkn ⟨by omega, by omega⟩ (fun b h => ⟨by omega, h.2⟩) (fun b h => ⟨h.2, by omega⟩)
      rw [hrl, hkn] at hfin
      exact ⟨b19, _, rfl, ⟨r, oc, rows, hfin⟩, (fun _ h => h.1), Ch.trans (Up.ch hu25) hc31 (fun i hi (h : i = b19) => by omega)⟩
end Go.Proofs.YtclnfbmmaofpjaaDoor.X

namespace Go.Proofs.YtclnfbmmaofpjaaDoor.X
open Go Go.RowKit Go.Proofs.YtclnfbmmaofpjaaDoor
structure LinesAt (w : World) (a : Option Addr) (n : Nat) (rows : List Row) (K : Nat → Prop) : Prop where
 rd : Rd w a (rows.map Row.val)
 len : rows.length = n
 line : ∀ x ∈ rows, LineAt w x.b x.l x.cap ∧ x.l.length = x.n
 inK : ∀ x ∈ rows, K x.b
 aK : ∀ ad, a = some ad → K ad.block
 lt : ∀ b, K b → b < w.heap.size
 hi : ∀ b, K b → gTop ≤ b
theorem OutAt.lines {w : World} {o : Option Nat} {n cap : Nat} {outs : List Row} {K : Nat → Prop} (h : OutAt w o n cap outs K) : LinesAt w (o.map at0) n outs K :=
 ⟨h.own.rd, h.len, h.line, h.inK, (fun ad e => by
  cases o with
  | none => cases e
  | some b => cases e; exact h.oK b rfl), fun b hb => h.lt b hb, fun b hb => h.hi b hb⟩
theorem LinesAt.ch {w w' : World} {a : Option Addr} {n : Nat} {rows : List Row} {K B : Nat → Prop} (h : LinesAt w a n rows K) (hc : Ch B w w') (hB : ∀ b, K b → ¬ B b) : LinesAt w' a n rows K :=
 {rd := h.rd.ch hc fun ad e => hB _ (h.aK ad e)
  len := h.len
  line := fun x hx => ⟨(h.line x hx).1.ch hc (hB _ (h.inK x hx)), (h.line x hx).2⟩
  inK := h.inK, aK := h.aK, hi := h.hi
  lt := fun b hb => Nat.lt_of_lt_of_le (h.lt b hb) hc.size }
theorem LinesAt.mono {w : World} {a : Option Addr} {n : Nat} {rows : List Row} {K K' : Nat → Prop} (h : LinesAt w a n rows K) (hK : ∀ b, K b → K' b) (hl : ∀ b, K' b → b < w.heap.size ∧ gTop ≤ b) : LinesAt w a n rows K' :=
 {h with inK := fun x hx => hK _ (h.inK x hx), aK := fun ad e => hK _ (h.aK ad e), lt := fun b hb => (hl b hb).1, hi := fun b hb => (hl b hb).2 }
theorem NewRows.ch {wb w w' : World} {o : Option Nat} {n cap : Nat} {rows : List Row} {W : Int} {B : Nat → Prop} (h : NewRows wb w o n cap rows W) (hc : Ch B w w') (hB : ∀ b, wb.heap.size ≤ b → ¬ B b) (h7 : gTop ≤ wb.heap.size) : NewRows wb w' o n cap rows W := by
 have hs := hc.size
 have h1 := h.out.ch hc fun b hb => hB b hb.1
 refine ⟨⟨h1.own, h1.line, fun x hx => ?_, fun b e => ?_, fun b hb => hb.2, fun b hb => ?_⟩, h.nodup, h.wide⟩
 ·have := h.out.inK x hx; omega
 ·have := h.out.oK b e; omega
 ·omega
theorem GridIn.first {w w' : World} {g r cap : Nat} {rows : List Row} {G : Gr} {F : Nat → Prop} (h : GridIn w g r cap rows G F) (a : Nat) (ha : a ≤ rows.length) (hc : Ch (fun j => j = g) w w') : LinesAt w' (some ⟨r, 0, none⟩) a (rows.take a) (fun b => b = r ∨ ∃ x ∈ rows, x.b = b) := by
 have hr := h.body.ch hc fun b e => by cases e; exact h.gr
 have hmem : ∀ x ∈ rows.take a, x ∈ rows := fun x hx => List.mem_of_mem_take hx
 refine ⟨?_, by rw [List.length_take]; omega, fun x hx => ⟨(h.line x (hmem x hx)).1.ch hc (h.gb x (hmem x hx)).1, (h.line x (hmem x hx)).2⟩, fun x hx => .inr ⟨x, hmem x hx, rfl⟩, (fun ad e => by cases e; exact .inl rfl), ?_, ?_⟩
 ·have := hr.rd
  refine ⟨(fun e => by cases e), fun ad e j u hj => this.2 ad e j u ?_⟩
  rw [List.map_take, List.getElem?_take] at hj
  split at hj
  ·exact hj
  ·cases hj
 ·rintro b (rfl | ⟨x, hx, rfl⟩)
  ·exact Nat.lt_of_lt_of_le (h.lt _ h.inF.2.1) hc.size
  ·exact Nat.lt_of_lt_of_le (h.lt _ (h.inF.2.2 x hx)) hc.size
 ·rintro b (rfl | ⟨x, hx, rfl⟩)
  ·exact h.hi _ h.inF.2.1
  ·exact h.hi _ (h.inF.2.2 x hx)
end Go.Proofs.YtclnfbmmaofpjaaDoor.X

namespace Go.Proofs.YtclnfbmmaofpjaaDoor.X
open Go Go.RowKit Go.Proofs.YtclnfbmmaofpjaaDoor
structure US where
  b0 : Int
  b1 : Int
  b2 : Int
  n : Int
structure PS where
  state : Int
  utf : US
  marks : ByteArray
  params : List Int
  text : ByteArray
  within : Int
structure TS where
  grid : Gr
  other : Gr
  cursor : Cur
  saved : Cur
  away : Cur
  top : Int
  bot : Int
  tabs : Nat → Bool
  wrap : Bool
  origin : Bool
  insert : Bool
  hidden : Bool
  draw0 : Bool
  draw1 : Bool
  shift : Bool
  alt : Bool
  title : ByteArray
  back : List (List Cel)
  parser : PS
  reply : ByteArray
abbrev tTerm : TypeId := 43
def tabv (f : Nat → Bool) : List Value := (List.range 60).map fun i => .bool (f i)
def TS.vals (t : TS) (g o : Nat) (bk ps : Value) : List Value :=
  [.pointer (some ⟨g, 0, none⟩), .pointer (some ⟨o, 0, none⟩),
   .int .i64 t.cursor.x, .int .i64 t.cursor.y, .bool t.cursor.late, .bool t.cursor.sty.bold, .bool t.cursor.sty.under, .bool t.cursor.sty.turned, .int .i64 t.cursor.sty.fore, .int .i64 t.cursor.sty.back,
   .int .i64 t.saved.x, .int .i64 t.saved.y, .bool t.saved.late, .bool t.saved.sty.bold, .bool t.saved.sty.under, .bool t.saved.sty.turned, .int .i64 t.saved.sty.fore, .int .i64 t.saved.sty.back,
   .int .i64 t.away.x, .int .i64 t.away.y, .bool t.away.late, .bool t.away.sty.bold, .bool t.away.sty.under, .bool t.away.sty.turned, .int .i64 t.away.sty.fore, .int .i64 t.away.sty.back,
   .int .i64 t.top, .int .i64 t.bot] ++ tabv t.tabs ++
  [.bool t.wrap, .bool t.origin, .bool t.insert, .bool t.hidden, .bool t.draw0, .bool t.draw1, .bool t.shift, .bool t.alt, .string t.title, bk,
   .int .i64 t.parser.state, .int .u8 t.parser.utf.b0, .int .u8 t.parser.utf.b1, .int .u8 t.parser.utf.b2, .int .i64 t.parser.utf.n, .string t.parser.marks, ps, .string t.parser.text, .int .i64 t.parser.within, .string t.reply]
theorem tvals_len (t : TS) (g o : Nat) (bk ps : Value) : (t.vals g o bk ps).length = 108 := by kernel_rfl
theorem tabs_put (t : TS) (g o : Nat) (bk ps : Value) (x : Nat) (hx : x < 60) (v : Bool) : put (t.vals g o bk ps) (28 + x * 1) [.bool v] = ({ t with tabs := fun i => if i = x then v else t.tabs i } : TS).vals g o bk ps := by
  have h1 : ∀ f : Nat → Bool, (tabv f).length = 60 := fun f => by simp [tabv]
  have e : ∀ (a b c vs : List Value) (o : Nat), a.length + o < (a ++ b).length → vs.length = 1 → put (a ++ b ++ c) (a.length + o) vs = a ++ (put b o vs) ++ c := fun a b c vs o h hv => by
    simp only [List.length_append] at h
    unfold put
    rw [List.append_assoc a b c, List.take_append, List.drop_append]
    simp only [Nat.add_sub_cancel_left, List.append_assoc]
    rw [List.take_of_length_le (by omega), List.drop_eq_nil_of_le (by omega), List.take_append_of_le_length (by omega), show a.length + o + vs.length - a.length = o + vs.length by omega, List.drop_append_of_le_length (by omega)]
    simp
  have e2 : put (tabv t.tabs) x [.bool v] = tabv (fun i => if i = x then v else t.tabs i) := by
    unfold put tabv
    apply List.ext_getElem?
    intro i
    rw [List.append_assoc, List.getElem?_append]
    simp only [List.length_take, List.length_map, List.length_range, List.length_cons, List.length_nil, List.getElem?_take, List.getElem?_map]
    rw [Nat.min_eq_left (by omega)]
    by_cases hi : i < x
    · simp [hi, show i ≠ x by omega, show i < 60 by omega]
    · rw [if_neg hi]
      by_cases he : i = x
      · subst he
        simp [hx]
      · rw [List.getElem?_append_right (by simp; omega)]
        simp only [List.length_cons, List.length_nil, List.getElem?_drop, List.getElem?_map]
        rw [show x + 1 + (i - x - 1) = i by omega]
        by_cases h6 : i < 60
        · simp [h6, he]
        · simp [h6]
  rw [Nat.mul_one]
  unfold TS.vals
  rw [show 28 + x = (List.length (α := Value) [.pointer (some ⟨g, 0, none⟩), .pointer (some ⟨o, 0, none⟩),
   .int .i64 t.cursor.x, .int .i64 t.cursor.y, .bool t.cursor.late, .bool t.cursor.sty.bold, .bool t.cursor.sty.under, .bool t.cursor.sty.turned, .int .i64 t.cursor.sty.fore, .int .i64 t.cursor.sty.back,
   .int .i64 t.saved.x, .int .i64 t.saved.y, .bool t.saved.late, .bool t.saved.sty.bold, .bool t.saved.sty.under, .bool t.saved.sty.turned, .int .i64 t.saved.sty.fore, .int .i64 t.saved.sty.back,
   .int .i64 t.away.x, .int .i64 t.away.y, .bool t.away.late, .bool t.away.sty.bold, .bool t.away.sty.under, .bool t.away.sty.turned, .int .i64 t.away.sty.fore, .int .i64 t.away.sty.back,
   .int .i64 t.top, .int .i64 t.bot]) + x from rfl, e _ _ _ _ _ (by rw [List.length_append, h1]; simp only [List.length_cons, List.length_nil]; omega) rfl, e2]
structure TermIn (w : World) (t g o : Nat) (ba : Option Addr) (bn bc : Nat) (pa : Option Addr) (pn pc : Nat) (T : TS) (F F1 F2 FB FP : Nat → Prop) : Prop where
  blk : Blk w t (T.vals g o (.slice ba bn bc) (.slice pa pn pc)) tTerm
  g1 : GridAt w g T.grid F1
  g2 : GridAt w o T.other F2
  bk : ∃ rows, LinesAt w ba bn rows FB ∧ rows.map Row.l = T.back
  bcap : bn ≤ bc ∧ (ba = none → bc = 0)
  ps : Rd w pa (T.parser.params.map (Value.int .i64)) ∧ T.parser.params.length = pn ∧ (pa = none → pc = 0) ∧ ∀ ad, pa = some ad → FP ad.block
  pz : ∃ po : Option Nat, pa = po.map at0
  bz : ba = none ∨ ∃ b off, ba = some ⟨b, off, none⟩
  t1 : ¬ F1 t
  t2 : ¬ F2 t
  tB : ¬ FB t
  tP : ¬ FP t
  a12 : ∀ b, F1 b → ¬ F2 b
  a1B : ∀ b, F1 b → ¬ FB b
  a2B : ∀ b, F2 b → ¬ FB b
  a1P : ∀ b, F1 b → ¬ FP b
  a2P : ∀ b, F2 b → ¬ FP b
  inF : F t ∧ (∀ b, F1 b → F b) ∧ (∀ b, F2 b → F b) ∧ (∀ b, FB b → F b) ∧ (∀ b, FP b → F b)
  lt : ∀ b, F b → b < w.heap.size
  hi : ∀ b, F b → gTop ≤ b
def TermAt (w : World) (t : Nat) (T : TS) (F : Nat → Prop) : Prop := ∃ g o ba bn bc pa pn pc F1 F2 FB FP, TermIn w t g o ba bn bc pa pn pc T F F1 F2 FB FP
section
variable {w w' : World} {t g o : Nat} {ba : Option Addr} {bn bc : Nat} {pa : Option Addr} {pn pc : Nat} {T T' : TS} {F F1 F2 FB FP : Nat → Prop}
theorem TermIn.scalar (h : TermIn w t g o ba bn bc pa pn pc T F F1 F2 FB FP) (hc : Ch (fun j => j = t) w w') (hb : Blk w' t (T'.vals g o (.slice ba bn bc) (.slice pa pn pc)) tTerm)
    (hg : T'.grid = T.grid) (ho : T'.other = T.other) (hk : T'.back = T.back) (hp : T'.parser.params = T.parser.params) : TermIn w' t g o ba bn bc pa pn pc T' F F1 F2 FB FP := by
  obtain ⟨rows, hL, hl⟩ := h.bk
  exact { h with
    blk := hb
    g1 := by rw [hg]; exact h.g1.ch hc fun b hb e => h.t1 (e ▸ hb)
    g2 := by rw [ho]; exact h.g2.ch hc fun b hb e => h.t2 (e ▸ hb)
    bk := ⟨rows, hL.ch hc fun b hb e => h.tB (e ▸ hb), by rw [hk]; exact hl⟩
    ps := by rw [hp]; exact ⟨h.ps.1.ch hc fun ad e e2 => h.tP (e2 ▸ h.ps.2.2.2 ad e), h.ps.2⟩
    lt := fun b hb => Nat.lt_of_lt_of_le (h.lt b hb) hc.size }
theorem TermIn.same (h : TermIn w t g o ba bn bc pa pn pc T F F1 F2 FB FP) {B : Nat → Prop} (hc : Ch B w w') (hB : ∀ b, F b → ¬ B b) : TermIn w' t g o ba bn bc pa pn pc T F F1 F2 FB FP := by
  obtain ⟨rows, hL, hl⟩ := h.bk
  exact { h with
    blk := h.blk.ch hc (hB t h.inF.1)
    g1 := h.g1.ch hc fun b hb => hB b (h.inF.2.1 b hb)
    g2 := h.g2.ch hc fun b hb => hB b (h.inF.2.2.1 b hb)
    bk := ⟨rows, hL.ch hc fun b hb => hB b (h.inF.2.2.2.1 b hb), hl⟩
    ps := ⟨h.ps.1.ch hc fun ad e => hB _ (h.inF.2.2.2.2 _ (h.ps.2.2.2 ad e)), h.ps.2⟩
    lt := fun b hb => Nat.lt_of_lt_of_le (h.lt b hb) hc.size }
theorem TermAt.ch {B : Nat → Prop} (h : TermAt w t T F) (hc : Ch B w w') (hB : ∀ b, F b → ¬ B b) : TermAt w' t T F := by
  obtain ⟨g, o, ba, bn, bc, pa, pn, pc, F1, F2, FB, FP, h⟩ := h
  exact ⟨g, o, ba, bn, bc, pa, pn, pc, F1, F2, FB, FP, h.same hc hB⟩
theorem TermIn.mono {F' : Nat → Prop} (h : TermIn w t g o ba bn bc pa pn pc T F F1 F2 FB FP) (hF : ∀ b, F b → F' b) (hl : ∀ b, F' b → b < w.heap.size ∧ gTop ≤ b) : TermIn w t g o ba bn bc pa pn pc T F' F1 F2 FB FP :=
  { h with
    inF := ⟨hF _ h.inF.1, fun b hb => hF b (h.inF.2.1 b hb), fun b hb => hF b (h.inF.2.2.1 b hb), fun b hb => hF b (h.inF.2.2.2.1 b hb), fun b hb => hF b (h.inF.2.2.2.2 b hb)⟩
    lt := fun b hb => (hl b hb).1
    hi := fun b hb => (hl b hb).2 }
end
end Go.Proofs.YtclnfbmmaofpjaaDoor.X
namespace Go.Proofs.YtclnfbmmaofpjaaDoor.X
open Go Go.RowKit Go.Proofs.YtclnfbmmaofpjaaDoor
def Sty.vals (s : Sty) : List Value := [.bool s.bold, .bool s.under, .bool s.turned, .int .i64 s.fore, .int .i64 s.back]
theorem GridAt.head {w : World} {g : Nat} {G : Gr} {F : Nat → Prop} (h : GridAt w g G F) : ∃ v, Blk w g [.int .i64 G.w, .int .i64 G.h, v] tGrid := by
 obtain ⟨r, cap, rows, h⟩ := h
 exact ⟨_, h.head⟩
end Go.Proofs.YtclnfbmmaofpjaaDoor.X





namespace Go.Proofs.YtclnfbmmaofpjaaDoor.X
open Go Go.RowKit Go.Proofs.YtclnfbmmaofpjaaDoor
theorem TermIn.moreOk {w w' : World} {t g o : Nat} {ba : Option Addr} {bn bc : Nat} {pa : Option Addr} {pn pc : Nat} {T : TS} {F F1 F2 FB FP : Nat → Prop} (hI : TermIn w t g o ba bn bc pa pn pc T F F1 F2 FB FP) (hs : w.heap.size ≤ w'.heap.size) :
  ∀ b, more F w w' b → b < w'.heap.size ∧ gTop ≤ b := fun b hb => hb.elim (fun h => ⟨Nat.lt_of_lt_of_le (hI.lt b h) hs, hI.hi b h⟩) fun h => ⟨h.2, by have := hI.hi t hI.inF.1; have := hI.blk.lt; omega⟩
section
variable {w w' : World} {t g o : Nat} {ba : Option Addr} {bn bc : Nat} {pa : Option Addr} {pn pc : Nat} {T : TS} {F F1 F2 FB FP : Nat → Prop}
theorem Ch.on {F : Nat → Prop} {w w1 w2 : World} {t : Nat} (h : Ch F w w1) (k : Ch (fun j => j = t) w1 w2) (ht : F t) : Ch F w w2 := h.trans k fun _ _ e => e ▸ ht
theorem TermIn.pk1 {g' o' : Nat} {ba' : Option Addr} {bn' bc' : Nat} {pa' : Option Addr} {pn' pc' : Nat} {T' : TS} {F1' F2' FB' FP' : Nat → Prop} (h' : TermIn w' t g' o' ba' bn' bc' pa' pn' pc' T' F F1' F2' FB' FP') (h : TermIn w t g o ba bn bc pa pn pc T F F1 F2 FB FP) (hX : Ch F w w') : TermAt w' t T' (more F w w') :=
 ⟨_, _, _, _, _, _, _, _, _, _, _, _, h'.mono (fun _ h => .inl h) (h.moreOk hX.size)⟩
theorem TermIn.pk2 {w1 : World} {B : Nat → Prop} {g' o' : Nat} {ba' : Option Addr} {bn' bc' : Nat} {pa' : Option Addr} {pn' pc' : Nat} {T' : TS} {F1' F2' FB' FP' : Nat → Prop} (h' : TermIn w' t g' o' ba' bn' bc' pa' pn' pc' T' (more F w w1) F1' F2' FB' FP') (hS : Ch B w1 w') (h : TermIn w t g o ba bn bc pa pn pc T F F1 F2 FB FP) (hX : Ch F w w') : TermAt w' t T' (more F w w') :=
 ⟨_, _, _, _, _, _, _, _, _, _, _, _, h'.mono (fun b hb => hb.elim .inl (fun h2 => .inr ⟨h2.1, Nat.lt_of_lt_of_le h2.2 hS.size⟩)) (h.moreOk hX.size)⟩
theorem TermIn.cht (h : TermIn w t g o ba bn bc pa pn pc T F F1 F2 FB FP) (hc : Ch (fun j => j = t) w w') : Ch F w w' := hc.mono fun b _ hb => hb ▸ h.inF.1
theorem Ch.more {F : Nat → Prop} {w w1 w2 : World} (h1 : Ch F w w1) (h2 : Ch (more F w w1) w1 w2) : Ch F w w2 := h1.trans h2 fun i hi h => h.elim id fun h => by omega
end
end Go.Proofs.YtclnfbmmaofpjaaDoor.X


namespace Go.Proofs.YtclnfbmmaofpjaaDoor.X
open Go Go.RowKit Go.Proofs.YtclnfbmmaofpjaaDoor
section
variable {w : World} {t : Nat} {T : TS} {F : Nat → Prop}
theorem TermAt.mono {F' : Nat → Prop} (h : TermAt w t T F) (hF : ∀ b, F b → F' b) (hl : ∀ b, F' b → b < w.heap.size ∧ gTop ≤ b) : TermAt w t T F' := by
 obtain ⟨g, o, ba, bn, bc, pa, pn, pc, F1, F2, FB, FP, hI⟩ := h
 exact ⟨g, o, ba, bn, bc, pa, pn, pc, F1, F2, FB, FP, hI.mono hF hl⟩
theorem TermAt.moreOk (h : TermAt w t T F) {w' : World} (hs : w.heap.size ≤ w'.heap.size) : ∀ b, more F w w' b → b < w'.heap.size ∧ gTop ≤ b := by
 obtain ⟨g, o, ba, bn, bc, pa, pn, pc, F1, F2, FB, FP, hI⟩ := h
 exact hI.moreOk hs
end
end Go.Proofs.YtclnfbmmaofpjaaDoor.X


namespace Go.Proofs.YtclnfbmmaofpjaaDoor.X
open Go Go.RowKit Go.Proofs.YtclnfbmmaofpjaaDoor
theorem x_seq_cut {P : Program} {N : Nat} {Q : Exit → Act → World → Prop} {f : Fr} {w : World} {x y : Code} (f' : Fr) (I : World → Prop)
  (h1 : ∀ K : Act → World → Prop, (∀ u, I u → ∀ a, Has N f' a → K a u) → WC P N (Exit.then K Q) x f w) (h2 : ∀ u, I u → WC P N Q y f' u) : WC P N Q (.seq x y) f w :=
 x_seq fun K hK => h1 K fun u hI a ha => hK f' u (h2 u hI) a ha
def SelGoal (P : Program) (N : Nat) (ops : Array Oper) (Q : Exit → Act → World → Prop) (kill : List Nat) (F : World → Prop) (done : List Nat) (f : Fr) (w : World) (k : Nat) : Prop :=
 ∀ a, Has N f a → wpOp P ops Q k (fun a' w' => if kill.contains k then ∃ G : World → Prop, G w' ∧ wpAnyF P ops Q kill G (ops.size - (done ++ [k]).length) (marked ops.size (done ++ [k])) a' w'
  else ∃ G : World → Prop, (∀ u, G u → F u) ∧ G w' ∧ wpAnyF P ops Q kill G (ops.size - (done ++ [k]).length) (marked ops.size (done ++ [k])) a' w') a w
theorem x_dtwo {P : Program} {N : Nat} {ops : Array Oper} {Q : Exit → Act → World → Prop} {kill : List Nat} {F : World → Prop} {w : World} {done : List Nat} {f : Fr} (i j : Nat)
  (hr : (Region.ready .any ops (marked ops.size done) == [i, j]) = true) (hl : done.length < ops.size) (hi : SelGoal P N ops Q kill F done f w i) (hj : SelGoal P N ops Q kill F done f w j) : WD P N ops Q kill F done f w := by
 intro a ha
 have hr' : Region.ready .any ops (marked ops.size done) = [i, j] := by simpa using hr
 have key : ∀ k, SelGoal P N ops Q kill F done f w k → wpOp P ops Q k (fun a' w' => if kill.contains k then ∃ G : World → Prop, G w' ∧ wpAnyF P ops Q kill G (ops.size - (done ++ [k]).length) ((marked ops.size done).setIfInBounds k true) a' w'
   else ∃ G : World → Prop, (∀ u, G u → F u) ∧ G w' ∧ wpAnyF P ops Q kill G (ops.size - (done ++ [k]).length) ((marked ops.size done).setIfInBounds k true) a' w') a w := fun k h => by
  rw [← marked_snoc]; exact h a ha
 rw [show ops.size - done.length = (ops.size - (done ++ [i]).length) + 1 by simp; omega]
 refine ⟨fun h0 => (by rw [hr'] at h0; cases h0), fun k hk => ?_⟩
 rw [hr'] at hk
 simp only [List.mem_cons, List.not_mem_nil, or_false] at hk
 rcases hk with rfl | rfl
 ·exact key _ hi
 ·have := key _ hj
  simpa using this
theorem x_seff {P : Program} {N : Nat} {ops : Array Oper} {Q : Exit → Act → World → Prop} {kill : List Nat} {F : World → Prop} {w : World} {done : List Nat} {f : Fr} (k : Nat) (done' : List Nat)
  (hk : kill.contains k = false) (hd : done ++ [k] = done')
  (h : ∀ a, Has N f a → wpOp P ops Q k (fun a' w' => ∃ G : World → Prop, (∀ u, G u → F u) ∧ G w' ∧ wpAnyF P ops Q kill G (ops.size - done'.length) (marked ops.size done') a' w') a w) : SelGoal P N ops Q kill F done f w k := by
 intro a ha
 subst hd
 refine wpOp_mono (fun a' w' h' => ?_) (h a ha)
 rw [if_neg (by rw [hk]; exact Bool.false_ne_true)]
 exact h'
theorem x_skill {P : Program} {N : Nat} {ops : Array Oper} {Q : Exit → Act → World → Prop} {kill : List Nat} {F : World → Prop} {w : World} {done : List Nat} {f : Fr} (k : Nat) (done' : List Nat)
  (hk : kill.contains k = true) (hd : done ++ [k] = done')
  (h : ∀ a, Has N f a → wpOp P ops Q k (fun a' w' => ∃ G : World → Prop, G w' ∧ wpAnyF P ops Q kill G (ops.size - done'.length) (marked ops.size done') a' w') a w) : SelGoal P N ops Q kill F done f w k := by
 intro a ha
 subst hd
 refine wpOp_mono (fun a' w' h' => ?_) (h a ha)
 rw [if_pos hk]
 exact h'
theorem x_drawnB {P : Program} {N : Nat} {Q : Exit → Act → World → Prop} {f : Fr} {w : World} {id : Nat} {ops : Array Oper} (B : Nat → Prop) (kill : List Nat) (hm : P.follows .mixedOrders = true)
  (h : ∀ w', w'.heap = w.heap → Ch (fun _ => False) w w' → WD P N ops (Calm Q) kill (fun u => Ch B w' u) [] f w') : WC P N Q (.region id ops true) f w := fun a ha =>
 wp_mono (wp_region_any hm (wpAny_of_F _ (fun u => Ch B w.drew u) _ _ _ (h w.drew rfl (Ch.drew _ _) a ha))) fun _ _ _ hq => hq.to
theorem x_heldB {P : Program} {N : Nat} {ops : Array Oper} {Q : Exit → Act → World → Prop} {B C : Nat → Prop} {kill : List Nat} {w1 w2 : World} {done : List Nat} {f : Fr} (hc : Ch C w1 w2) (hC : ∀ i, i < w1.heap.size → C i → B i) (h : WD P N ops Q kill (fun u => Ch B w2 u) done f w2) :
  ∀ a, Has N f a → ∃ G : World → Prop, (∀ u, G u → Ch B w1 u) ∧ G w2 ∧ wpAnyF P ops Q kill G (ops.size - done.length) (marked ops.size done) a w2 :=
 x_held (fun _ hu => (hc.mono hC).trans hu fun _ _ h => h) (Ch.refl _ _) h
theorem x_killedB {P : Program} {N : Nat} {ops : Array Oper} {Q : Exit → Act → World → Prop} {B : Nat → Prop} {kill : List Nat} {w : World} {done : List Nat} {f : Fr} (h : WD P N ops Q kill (fun u => Ch B w u) done f w) :
  ∀ a, Has N f a → ∃ G : World → Prop, G w ∧ wpAnyF P ops Q kill G (ops.size - done.length) (marked ops.size done) a w := fun a ha => ⟨fun u => Ch B w u, Ch.refl _ _, h a ha⟩
def Cur.on (c : Cur) (W H : Int) : Prop := (0 ≤ c.x ∧ c.x < W) ∧ 0 ≤ c.y ∧ c.y < H
structure Lim (W H : Int) (T : TS) : Prop where
 wb : 1 ≤ W ∧ W ≤ 60
 hb : 1 ≤ H ∧ H ≤ 60
 g1 : T.grid.w = W ∧ T.grid.h = H
 g2 : T.other.w = W ∧ T.other.h = H
 cu : (0 ≤ T.cursor.x ∧ T.cursor.x < W) ∧ 0 ≤ T.cursor.y ∧ T.cursor.y < H
 sa : (0 ≤ T.saved.x ∧ T.saved.x < W) ∧ 0 ≤ T.saved.y ∧ T.saved.y < H
 aw : (0 ≤ T.away.x ∧ T.away.x < W) ∧ 0 ≤ T.away.y ∧ T.away.y < H
 tb : 0 ≤ T.top ∧ T.top < T.bot ∧ T.bot ≤ H
 bk : T.back.length ≤ 20
 rp : T.reply.size ≤ 400
theorem Lim.all {W H : Int} {T : TS} (h : Lim W H T) : (1 ≤ W ∧ W ≤ 60) ∧ (1 ≤ H ∧ H ≤ 60) ∧ (T.grid.w = W ∧ T.grid.h = H) ∧ (T.other.w = W ∧ T.other.h = H) ∧ ((0 ≤ T.cursor.x ∧ T.cursor.x < W) ∧ 0 ≤ T.cursor.y ∧ T.cursor.y < H) ∧ ((0 ≤ T.saved.x ∧ T.saved.x < W) ∧ 0 ≤ T.saved.y ∧ T.saved.y < H) ∧
  ((0 ≤ T.away.x ∧ T.away.x < W) ∧ 0 ≤ T.away.y ∧ T.away.y < H) ∧ (0 ≤ T.top ∧ T.top < T.bot ∧ T.bot ≤ H) ∧ T.back.length ≤ 20 ∧ T.reply.size ≤ 400 := ⟨h.wb, h.hb, h.g1, h.g2, h.cu, h.sa, h.aw, h.tb, h.bk, h.rp⟩
section
variable {W H : Int} {T : TS}
theorem Lim.grid (h : Lim W H T) {G : Gr} (hG : G.w = T.grid.w ∧ G.h = T.grid.h) : Lim W H { T with grid := G } :=
 {h with g1 := ⟨hG.1.trans h.g1.1, hG.2.trans h.g1.2⟩ }
theorem Lim.cursor (h : Lim W H T) {c : Cur} (hc : (0 ≤ c.x ∧ c.x < W) ∧ 0 ≤ c.y ∧ c.y < H) : Lim W H { T with cursor := c } := { h with cu := hc }
end
end Go.Proofs.YtclnfbmmaofpjaaDoor.X
namespace Go.Proofs.YtclnfbmmaofpjaaDoor.X
open Go Go.RowKit Go.Proofs.YtclnfbmmaofpjaaDoor
theorem TermAt.eq' {w : World} {t : Nat} {T T' : TS} {F : Nat → Prop} (h : TermAt w t T F) (e : T' = T) : TermAt w t T' F := e ▸ h
end Go.Proofs.YtclnfbmmaofpjaaDoor.X
namespace Go.Proofs.YtclnfbmmaofpjaaDoor.X
open Go Go.RowKit Go.Proofs.YtclnfbmmaofpjaaDoor
theorem tabv_at (f : Nat → Bool) (k : Nat) (h : k < 60) : (tabv f)[k]? = some (.bool (f k)) := by simp [tabv, h]
theorem tab_cell {w : World} {t g o : Nat} {T : TS} {bk ps : Value} (h : Blk w t (T.vals g o bk ps) tTerm) (x : Int) (h0 : 0 ≤ x) (h1 : x < 60) : w.cell? ⟨t, 28 + x.toNat * 1, none⟩ = some (.bool (T.tabs x.toNat)) := by
  rw [h.cell]
  have h2 : ∀ (a b c : List Value) (k : Nat), k < b.length → (a ++ b ++ c)[a.length + k]? = b[k]? := fun a b c k hk => by
    rw [List.append_assoc, List.getElem?_append_right (by omega), List.getElem?_append_left (by omega)]; congr 1; omega
  have h3 : (tabv T.tabs).length = 60 := by simp [tabv]
  unfold TS.vals
  have := h2 [.pointer (some ⟨g, 0, none⟩), .pointer (some ⟨o, 0, none⟩),
   .int .i64 T.cursor.x, .int .i64 T.cursor.y, .bool T.cursor.late, .bool T.cursor.sty.bold, .bool T.cursor.sty.under, .bool T.cursor.sty.turned, .int .i64 T.cursor.sty.fore, .int .i64 T.cursor.sty.back,
   .int .i64 T.saved.x, .int .i64 T.saved.y, .bool T.saved.late, .bool T.saved.sty.bold, .bool T.saved.sty.under, .bool T.saved.sty.turned, .int .i64 T.saved.sty.fore, .int .i64 T.saved.sty.back,
   .int .i64 T.away.x, .int .i64 T.away.y, .bool T.away.late, .bool T.away.sty.bold, .bool T.away.sty.under, .bool T.away.sty.turned, .int .i64 T.away.sty.fore, .int .i64 T.away.sty.back,
   .int .i64 T.top, .int .i64 T.bot] (tabv T.tabs)
  rw [Nat.mul_one]
  exact (this _ x.toNat (by rw [h3]; omega)).trans (tabv_at _ _ (by omega))
end Go.Proofs.YtclnfbmmaofpjaaDoor.X

namespace Go.Proofs.YtclnfbmmaofpjaaDoor.X
open Go Go.RowKit Go.Proofs.YtclnfbmmaofpjaaDoor
structure Ac where
 kind : Int
 rune : Int
 last : Int
 marks : ByteArray
 params : List Int
 text : ByteArray
def Ac.vals (a : Ac) (ps : Value) : List Value := [.int .i64 a.kind, .int .i32 a.rune, .int .u8 a.last, .string a.marks, ps, .string a.text]
def PS.vals (p : PS) (ps : Value) : List Value := [.int .i64 p.state, .int .u8 p.utf.b0, .int .u8 p.utf.b1, .int .u8 p.utf.b2, .int .i64 p.utf.n, .string p.marks, ps, .string p.text, .int .i64 p.within]
def E0 : ByteArray := ByteArray.empty
def atP (s : Int) : PS := ⟨s, ⟨0, 0, 0, 0⟩, ByteArray.empty, [], ByteArray.empty, 0⟩
def IntsAt (w : World) (k : IntKind) (o : Option Nat) (n c : Nat) (l : List Int) (K : Nat → Prop) : Prop :=
 Rd w (o.map at0) (l.map (Value.int k)) ∧ l.length = n ∧ (o = none → c = 0) ∧ ∀ b, o = some b → K b ∧ b < w.heap.size
theorem IntsAt.ch {w w' : World} {k : IntKind} {o : Option Nat} {n c : Nat} {l : List Int} {K B : Nat → Prop} (h : IntsAt w k o n c l K) (hc : Ch B w w') (hB : ∀ b, K b → ¬ B b) : IntsAt w' k o n c l K :=
 ⟨h.1.ch hc fun ad e => by
  cases o with
  | none => cases e
  | some b => cases e; exact hB b (h.2.2.2 b rfl).1, h.2.1, h.2.2.1, fun b e => ⟨(h.2.2.2 b e).1, Nat.lt_of_lt_of_le (h.2.2.2 b e).2 hc.size⟩⟩
theorem IntsAt.mono {w : World} {k : IntKind} {o : Option Nat} {n c : Nat} {l : List Int} {K K' : Nat → Prop} (h : IntsAt w k o n c l K) (hK : ∀ b, K b → K' b) : IntsAt w k o n c l K' :=
 ⟨h.1, h.2.1, h.2.2.1, fun b e => ⟨hK b (h.2.2.2 b e).1, (h.2.2.2 b e).2⟩⟩
theorem IntsAt.nil (w : World) (k : IntKind) (K : Nat → Prop) : IntsAt w k none 0 0 [] K := ⟨Rd.nil _ _, rfl, fun _ => rfl, fun _ e => by cases e⟩
def ActV (w : World) (vs : List Value) (a : Ac) (K : Nat → Prop) : Prop := ∃ o n c, vs = a.vals (.slice (o.map at0) n c) ∧ IntsAt w .i64 o n c a.params K
theorem ActV.ch {w w' : World} {vs : List Value} {a : Ac} {K B : Nat → Prop} (h : ActV w vs a K) (hc : Ch B w w') (hB : ∀ b, K b → ¬ B b) : ActV w' vs a K := by
 obtain ⟨o, n, c, e, h⟩ := h
 exact ⟨o, n, c, e, h.ch hc hB⟩
theorem ActV.mono {w : World} {vs : List Value} {a : Ac} {K K' : Nat → Prop} (h : ActV w vs a K) (hK : ∀ b, K b → K' b) : ActV w vs a K' := by
 obtain ⟨o, n, c, e, h⟩ := h
 exact ⟨o, n, c, e, h.mono hK⟩
theorem ActV.len {w : World} {vs : List Value} {a : Ac} {K : Nat → Prop} (h : ActV w vs a K) : vs.length = 6 := by
 obtain ⟨o, n, c, rfl, h⟩ := h; rfl
end Go.Proofs.YtclnfbmmaofpjaaDoor.X
namespace Go.Proofs.YtclnfbmmaofpjaaDoor.X
open Go Go.RowKit Go.Proofs.YtclnfbmmaofpjaaDoor
theorem IntsAt.or {w : World} {k : IntKind} {o : Option Nat} {n c : Nat} {l : List Int} {K A : Nat → Prop} (h : IntsAt w k o n c l K) : IntsAt w k o n c l (fun b => A b ∨ K b) := h.mono fun _ h => .inr h
theorem getD_bd {l : List Int} {a b : Int} (h : ∀ x ∈ l, a ≤ x ∧ x ≤ b) (h0 : a ≤ 0 ∧ 0 ≤ b) (i : Nat) : a ≤ l.getD i 0 ∧ l.getD i 0 ≤ b := by
 rw [List.getD]
 by_cases hi : i < l.length
 ·rw [List.getElem?_eq_getElem hi]; exact h _ (List.getElem_mem _)
 ·rw [List.getElem?_eq_none (by omega)]; exact h0
end Go.Proofs.YtclnfbmmaofpjaaDoor.X

namespace Go.Proofs.YtclnfbmmaofpjaaDoor.X
open Go Go.RowKit Go.Proofs.YtclnfbmmaofpjaaDoor
def firstN (c : Nat) : Int :=
 if c < 128 then 240 else if c < 194 then 241 else if c < 224 then 2 else if c = 224 then 19 else if c < 237 then 3 else if c = 237 then 35 else if c < 240 then 3 else if c = 240 then 52 else if c < 244 then 4 else if c = 244 then 68 else 241
def accN (i : Nat) : Int × Int := if i = 0 then (128, 191) else if i = 1 then (160, 191) else if i = 2 then (128, 159) else if i = 3 then (144, 191) else if i = 4 then (128, 143) else (0, 0)
abbrev gFirst : Nat := 1
abbrev gAcc : Nat := 2
def UTabs (w : World) : Prop :=
 (∀ c, c < 256 → w.cell? ⟨gFirst, c, none⟩ = some (.int .u8 (firstN c))) ∧
 ∀ i, i < 16 → w.cell? ⟨gAcc, i * 2, none⟩ = some (.int .u8 (accN i).1) ∧ w.cell? ⟨gAcc, i * 2 + 1, none⟩ = some (.int .u8 (accN i).2)
theorem u_lt : gFirst < gTop ∧ gAcc < gTop := by decide
theorem utabs_ch {w w' : World} {B : Nat → Prop} (h : Ch B w w') (hT : UTabs w) (h0 : ¬ B gFirst) (h1 : ¬ B gAcc) : UTabs w' :=
 ⟨fun j hj => cell_ch h (hT.1 j hj) h0, fun j hj => ⟨cell_ch h (hT.2 j hj).1 h1, cell_ch h (hT.2 j hj).2 h1⟩⟩
theorem utab_lt {w : World} (h : UTabs w) : gFirst < w.heap.size ∧ gAcc < w.heap.size := ⟨cell_lt (h.1 0 (by decide)), cell_lt (h.2 0 (by decide)).1⟩
theorem u_first {w : World} (h : UTabs w) (x : Int) (h0 : 0 ≤ x) (h1 : x ≤ 255) : w.cell? ⟨gFirst, 0 + x.toNat * 1, none⟩ = some (.int .u8 (firstN x.toNat)) := by
 rw [Nat.zero_add, Nat.mul_one]; exact h.1 _ (by omega)
theorem u_acc {w : World} (h : UTabs w) (x : Int) (h0 : 0 ≤ x) (h1 : x ≤ 15) : w.cell? ⟨gAcc, 0 + x.toNat * 2, none⟩ = some (.int .u8 (accN x.toNat).1) ∧ w.cell? ⟨gAcc, 0 + x.toNat * 2 + 1, none⟩ = some (.int .u8 (accN x.toNat).2) := by
 rw [Nat.zero_add]; exact h.2 _ (by omega)
theorem bytes_at {w : World} {b off : Nat} {l : List Int} (h : Rd w (some ⟨b, off, none⟩) (l.map (Value.int .u8))) (k : Nat) (hk : k < l.length) : w.cell? ⟨b, off + k, none⟩ = some (.int .u8 (l.getD k 0)) := by
 refine rd_at h k _ ?_
 rw [List.getElem?_map, List.getElem?_eq_getElem hk]
 simp [List.getD, List.getElem?_eq_getElem hk]
theorem bytes_at0 {w : World} {b off : Nat} {l : List Int} (h : Rd w (some ⟨b, off, none⟩) (l.map (Value.int .u8))) (hk : 0 < l.length) : w.cell? ⟨b, off, none⟩ = some (.int .u8 (l.getD 0 0)) := bytes_at h 0 hk
abbrev fsI (l : List Int) : Int := firstN (l.getD 0 0).toNat
abbrev szI (l : List Int) : Int := bitsv .and .u8 (fsI l) 7
abbrev rnI (l : List Int) : Int := Int.fdiv (fsI l) (2 ^ min (4 : Int).toNat (IntKind.bits .u8))
theorem first_bd : ∀ c, c < 256 → (0 ≤ firstN c ∧ firstN c ≤ 255) ∧ (0 ≤ Int.fdiv (firstN c) (2 ^ min (4 : Int).toNat (IntKind.bits .u8)) ∧ Int.fdiv (firstN c) (2 ^ min (4 : Int).toNat (IntKind.bits .u8)) ≤ 15) ∧ (0 ≤ bitsv .and .u8 (firstN c) 7 ∧ bitsv .and .u8 (firstN c) 7 ≤ 7) ∧ (firstN c < 240 → 2 ≤ bitsv .and .u8 (firstN c) 7 ∧ bitsv .and .u8 (firstN c) 7 ≤ 4) := by decide +kernel
theorem fs_bd {l : List Int} (h : ∀ x ∈ l, 0 ≤ x ∧ x ≤ 255) : (0 ≤ fsI l ∧ fsI l ≤ 255) ∧ (0 ≤ rnI l ∧ rnI l ≤ 15) ∧ (0 ≤ szI l ∧ szI l ≤ 7) ∧ (fsI l < 240 → 2 ≤ szI l ∧ szI l ≤ 4) :=
 first_bd _ (by have := getD_bd h (by decide) 0; omega)
def fullB (l : List Int) : Bool :=
 if ((l.length : Nat) : Int) = 0 then false
 else if szI l ≤ ((l.length : Nat) : Int) then true
 else if 1 < ((l.length : Nat) : Int) ∧ (l.getD 1 0 < (accN (rnI l).toNat).1 ∨ (accN (rnI l).toNat).2 < l.getD 1 0) then true
 else if 2 < ((l.length : Nat) : Int) ∧ (l.getD 2 0 < 128 ∨ 191 < l.getD 2 0) then true
 else false
def US.pend (u : US) : List Int := [u.b0, u.b1, u.b2].take u.n.toNat
def mkU (l : List Int) : US := ⟨l.getD 0 0, l.getD 1 0, l.getD 2 0, ((l.length : Nat) : Int)⟩
def u0 : US := ⟨0, 0, 0, 0⟩
structure US.ok (u : US) : Prop where
 n : 0 ≤ u.n ∧ u.n ≤ 3
 b0 : 0 ≤ u.b0 ∧ u.b0 ≤ 255
 b1 : 0 ≤ u.b1 ∧ u.b1 ≤ 255
 b2 : 0 ≤ u.b2 ∧ u.b2 ≤ 255
theorem US.ok.pend {u : US} (h : u.ok) : ∀ x ∈ u.pend, 0 ≤ x ∧ x ≤ 255 := fun x hx => by
 have := List.mem_of_mem_take hx
 simp only [List.mem_cons, List.not_mem_nil, or_false] at this
 rcases this with rfl | rfl | rfl
 ·exact h.b0
 ·exact h.b1
 ·exact h.b2
theorem US.ok.len {u : US} (h : u.ok) : u.pend.length = u.n.toNat := by
 have := h.n
 simp [US.pend]; omega
theorem US.ok.rd {u : US} (h : u.ok) {w : World} {b : Nat} {T : TypeId} (hb : Blk w b [.int .u8 u.b0, .int .u8 u.b1, .int .u8 u.b2, .int .i64 u.n] T) : Rd w (some ⟨b, 0, none⟩) (u.pend.map (Value.int .u8)) := by
 have h1 := h.n
 refine Rd.blk hb fun j hj => ?_
 rw [List.length_map, h.len] at hj
 rw [List.getElem?_map, Nat.zero_add, US.pend, List.getElem?_take, if_pos hj]
 have : j = 0 ∨ j = 1 ∨ j = 2 := by omega
 rcases this with rfl | rfl | rfl <;> rfl
theorem mkU_ok {l : List Int} (h : ∀ x ∈ l, 0 ≤ x ∧ x ≤ 255) (h3 : l.length ≤ 3) : (mkU l).ok :=
 ⟨⟨by simp [mkU], by simp [mkU]; omega⟩, getD_bd h (by decide) 0, getD_bd h (by decide) 1, getD_bd h (by decide) 2⟩
end Go.Proofs.YtclnfbmmaofpjaaDoor.X
namespace Go.Proofs.YtclnfbmmaofpjaaDoor.X
open Go Go.RowKit Go.Proofs.YtclnfbmmaofpjaaDoor
set_option maxHeartbeats 4000000 in
theorem fullrune_any {w : World} (b off cap : Nat) (l : List Int) (hU : UTabs w) (hr : Rd w (some ⟨b, off, none⟩) (l.map (Value.int .u8))) (hb : b < w.heap.size) (hB : ∀ x ∈ l, 0 ≤ x ∧ x ≤ 255) (hn : l.length ≤ 1000) : Calls Tryd.prog 39 [.slice (some ⟨b, off, none⟩) l.length cap].toArray w fun e w' => e = .returned (.bool (fullB l)) ∧ Ch (fun _ => False) w w' := by
 have g0 := getD_bd hB (by decide) 0
 have g1 := getD_bd hB (by decide) 1
 have g2 := getD_bd hB (by decide) 2
 have g3 := getD_bd hB (by decide) 3
 obtain ⟨⟨s1, s2⟩, ⟨s3, s4⟩, ⟨s5, s6⟩, s7⟩ := fs_bd hB
 unfold fsI at s1 s2
 unfold rnI fsI at s3 s4
 unfold szI fsI at s5 s6
 unfold fsI szI fsI at s7
 refine yA Tryd.func39 rfl <| ysr <| yp 1 [] .z <| ye <| ysr <| yp 3 [] .z <| ye <| ys <| ysr <| yp 2 [] .z <| ye <| yc (rE ((l.length : Nat) : Int) 0) (fun hC10 => ?_) fun hC10 => ?_
 ·have hpp0 := hC10
  refine ysr <| yp 1 [] .z <| ye <| x_ret (rS (yR1 (.bool false) ?_))
  refine ⟨congrArg Ending.returned (congrArg Value.bool ?_), Up.ch (Up.refl w.heap.size w)⟩
  simp only [fullB, hpp0, ↓reduceIte, true_or, or_true, and_true, true_and, and_false, false_and, or_false, false_or]
 have hpp0 := hC10
 refine yk <| ysr <| yp 6 [] (.i 0 (l.length) (.l (v := uX (l.getD 0 0)) (o := off) (bytes_at0 hr (by omega)) (.i (l.getD 0 0) (256) (.l (o := (0 + ((l.getD 0 0)).toNat * 1)) (u_first hU ((l.getD 0 0)) (by omega) (by omega)) .z)))) <| ye <| ys <| ysr <| yp 5 [] (.q6 (bitsv .and .u8 (firstN ((l.getD 0 0) : Int).toNat) 7) .z) <| ye <| yc (rM (bitsv .and .u8 (firstN ((l.getD 0 0) : Int).toNat) 7) ((l.length : Nat) : Int)) (fun hC11 => ?_) fun hC11 => ?_
 ·have hpp1 := hC11
  refine ysr <| yp 1 [] .z <| ye <| x_ret (rS (yR1 (.bool true) ?_))
  refine ⟨congrArg Ending.returned (congrArg Value.bool ?_), Up.ch (Up.refl w.heap.size w)⟩
  simp only [fullB, hpp0, hpp1, ↓reduceIte, true_or, or_true, and_true, true_and, and_false, false_and, or_false, false_or]
 have hpp1 := hC11
 refine yk <| ysr <| yp 4 [] (.p (q := 0 ≤ (4 : Int)) (by omega) (.i (Int.fdiv (firstN ((l.getD 0 0) : Int).toNat) (2 ^ min (4 : Int).toNat (IntKind.bits .u8))) (16) (.m (u_acc hU ((Int.fdiv (firstN ((l.getD 0 0) : Int).toNat) (2 ^ min (4 : Int).toNat (IntKind.bits .u8)))) (by omega) (by omega)).1 (.m (u_acc hU ((Int.fdiv (firstN ((l.getD 0 0) : Int).toNat) (2 ^ min (4 : Int).toNat (IntKind.bits .u8)))) (by omega) (by omega)).2 (.e .z))))) <| yo (yN [uX 0, uX 0] 101 fun w12 b13 hb14 hz15 hB16 hc17 => ?_)
 have hlo18 : w.heap.size ≤ b13 := by rw [hb14]; exact Ch.size (Up.refl w.heap.size w)
 have hu19 := Up.step (Up.refl w.heap.size w) hc17 iZ
 have hr21 := Ch.rd hc17 hr id
 refine yo (yS hB16 fun w22 hB23 hc24 => ?_)
 have hu25 := Up.step hu19 hc24 (fun i hi (h : i = b13) => by omega)
 have hr27 := Ch.rd hc24 hr21 (fun (h : b = b13) => by have := (Nat.lt_of_lt_of_le hb (Ch.size (Up.refl w.heap.size w))); omega)
 replace hB23 : Blk w22 b13 [uX (accN ((Int.fdiv (firstN ((l.getD 0 0) : Int).toNat) (2 ^ min (4 : Int).toNat (IntKind.bits .u8))) : Int).toNat).1, uX (accN ((Int.fdiv (firstN ((l.getD 0 0) : Int).toNat) (2 ^ min (4 : Int).toNat (IntKind.bits .u8))) : Int).toNat).2] _ := Blk.to hB23 (by kernel_rfl)
 refine ye <| ys <| ys <| yD [] fun w28 hH29 hc30 => ?_
 have hu31 := Up.step hu25 hc30 iZ
 have hr33 := Ch.rd hc30 hr27 id
 have hB34 := hB23.ch hc30 id
 refine yd (uL 0 3) [] .z <| yv [26] (rL 1 ((l.length : Nat) : Int)) (fun hC35 => ?_) fun hC35 => ?_
 ·have hpp2 := hC35
  refine yd (uL 3 7) [] (.i 1 (l.length) (.l (v := uX (l.getD 1 0)) (o := (off + 1)) (bytes_at hr33 1 (by omega)) (.l (hB34.c 0) .z))) <| yv [33] (rL (l.getD 1 0) (accN ((Int.fdiv (firstN ((l.getD 0 0) : Int).toNat) (2 ^ min (4 : Int).toNat (IntKind.bits .u8))) : Int).toNat).1) (fun hC36 => ?_) fun hC36 => ?_
  ·have hpp3 := hC36
   refine yd (uL 10 8) [] .z <| yDe (nS ?_)
   refine yct <| ysr <| yp 1 [] .z <| ye <| x_ret (rS (yR1 (.bool true) ?_))
   refine ⟨congrArg Ending.returned (congrArg Value.bool ?_), Up.ch hu31⟩
   simp only [fullB, hpp0, hpp1, hpp2, hpp3, ↓reduceIte, true_or, or_true, and_true, true_and, and_false, false_and, or_false, false_or]
  have hpp3 := hC36
  refine yd (uL 10 8) [] (.l (hB34.c 1) (.i 1 (l.length) (.l (v := uX (l.getD 1 0)) (o := (off + 1)) (bytes_at hr33 1 (by omega)) .z))) <| yDe (nS ?_)
  refine yc (rL (accN ((Int.fdiv (firstN ((l.getD 0 0) : Int).toNat) (2 ^ min (4 : Int).toNat (IntKind.bits .u8))) : Int).toNat).2 (l.getD 1 0)) (fun hC37 => ?_) fun hC37 => ?_
  ·have hpp4 := hC37
   refine ysr <| yp 1 [] .z <| ye <| x_ret (rS (yR1 (.bool true) ?_))
   refine ⟨congrArg Ending.returned (congrArg Value.bool ?_), Up.ch hu31⟩
   simp only [fullB, hpp0, hpp1, hpp2, hpp3, hpp4, ↓reduceIte, true_or, or_true, and_true, true_and, and_false, false_and, or_false, false_or]
  have hpp4 := hC37
  refine ysr <| yp 3 [] .z <| yw [44] (rL 2 ((l.length : Nat) : Int)) (fun hC38 => ?_) fun hC38 => ?_
  ·have hpp5 := hC38
   refine yp 8 [] (.i 2 (l.length) (.l (v := uX (l.getD 2 0)) (o := (off + 2)) (bytes_at hr33 2 (by omega)) .z)) <| yw [49] (rL (l.getD 2 0) 128) (fun hC39 => ?_) fun hC39 => ?_
   ·have hpp6 := hC39
    refine yp 14 [] .z <| ye <| yct <| ysr <| yp 1 [] .z <| ye <| x_ret (rS (yR1 (.bool true) ?_))
    refine ⟨congrArg Ending.returned (congrArg Value.bool ?_), Up.ch hu31⟩
    simp only [fullB, hpp0, hpp1, hpp2, hpp3, hpp4, hpp5, hpp6, ↓reduceIte, true_or, or_true, and_true, true_and, and_false, false_and, or_false, false_or]
   have hpp6 := hC39
   refine yp 14 [] (.i 2 (l.length) (.l (v := uX (l.getD 2 0)) (o := (off + 2)) (bytes_at hr33 2 (by omega)) .z)) <| ye <| yc (rL 191 (l.getD 2 0)) (fun hC40 => ?_) fun hC40 => ?_
   ·have hpp7 := hC40
    refine ysr <| yp 1 [] .z <| ye <| x_ret (rS (yR1 (.bool true) ?_))
    refine ⟨congrArg Ending.returned (congrArg Value.bool ?_), Up.ch hu31⟩
    simp only [fullB, hpp0, hpp1, hpp2, hpp3, hpp4, hpp5, hpp6, hpp7, ↓reduceIte, true_or, or_true, and_true, true_and, and_false, false_and, or_false, false_or]
   have hpp7 := hC40
   refine yk <| ysr <| yp 1 [] .z <| ye <| x_ret (yR1 (.bool false) ?_)
   refine ⟨congrArg Ending.returned (congrArg Value.bool ?_), Up.ch hu31⟩
   simp only [fullB, hpp0, hpp1, hpp2, hpp3, hpp4, hpp5, hpp6, hpp7, ↓reduceIte, true_or, or_true, and_true, true_and, and_false, false_and, or_false, false_or]
  have hpp5 := hC38
  refine yp 14 [] .z <| ye <| ycf <| yk <| ysr <| yp 1 [] .z <| ye <| x_ret (yR1 (.bool false) ?_)
  refine ⟨congrArg Ending.returned (congrArg Value.bool ?_), Up.ch hu31⟩
  simp only [fullB, hpp0, hpp1, hpp2, hpp3, hpp4, hpp5, ↓reduceIte, true_or, or_true, and_true, true_and, and_false, false_and, or_false, false_or]
 have hpp2 := hC35
 refine yd (uL 3 15) [] .z <| yDe (nS ?_)
 refine ycf <| ysr <| yp 3 [] .z <| yw [44] (rL 2 ((l.length : Nat) : Int)) (fun hC41 => ?_) fun hC41 => ?_
 ·exfalso; omega
 have hpp3 := hC41
 refine yp 14 [] .z <| ye <| ycf <| yk <| ysr <| yp 1 [] .z <| ye <| x_ret (yR1 (.bool false) ?_)
 refine ⟨congrArg Ending.returned (congrArg Value.bool ?_), Up.ch hu31⟩
 simp only [fullB, hpp0, hpp1, hpp2, hpp3, ↓reduceIte, true_or, or_true, and_true, true_and, and_false, false_and, or_false, false_or]
end Go.Proofs.YtclnfbmmaofpjaaDoor.X
namespace Go.Proofs.YtclnfbmmaofpjaaDoor.X
open Go Go.RowKit Go.Proofs.YtclnfbmmaofpjaaDoor
theorem Own.ltOf {w : World} {e : TypeId} {sz n cap b : Nat} {o : Option Nat} {xs : List Value} (h : Own w e sz o n cap xs) (ho : o = some b) : b < w.heap.size := by subst ho; exact h.lt
structure PS.lim (p : PS) : Prop where
 u : p.utf.ok
 m : p.marks.size ≤ 2
 t : p.text.size ≤ 40
 n : p.params.length ≤ 8
 b : ∀ x ∈ p.params, 0 ≤ x ∧ x ≤ 9999
end Go.Proofs.YtclnfbmmaofpjaaDoor.X


namespace Go.Proofs.YtclnfbmmaofpjaaDoor.X
open Go Go.RowKit Go.Proofs.YtclnfbmmaofpjaaDoor
theorem u0_ok : u0.ok := ⟨by decide, by decide, by decide, by decide⟩
end Go.Proofs.YtclnfbmmaofpjaaDoor.X

namespace Go.Proofs.YtclnfbmmaofpjaaDoor.X
open Go Go.RowKit Go.Proofs.YtclnfbmmaofpjaaDoor
def p10 (i : Nat) : Int := if i = 0 then 1 else if i = 1 then 10 else 100
def PTab (w : World) : Prop := ∀ i, i < 0 → w.cell? ⟨0, i, none⟩ = some (.int .u64 (p10 i))
theorem ptab_ch {w w' : World} {B : Nat → Prop} (h : Ch B w w') (hT : PTab w) (h0 : ¬ B 0) : PTab w' := fun j hj => cell_ch h (hT j hj) h0
end Go.Proofs.YtclnfbmmaofpjaaDoor.X


namespace Go.Proofs.YtclnfbmmaofpjaaDoor.X
open Go Go.RowKit Go.Proofs.YtclnfbmmaofpjaaDoor
structure LT (w : World) : Prop where
 tb : Tables w
 ut : UTabs w
 pt : PTab w
theorem lt_ch {w w' : World} {B : Nat → Prop} (h : Ch B w w') (hT : LT w) (hB : ∀ b, B b → gTop ≤ b) : LT w' :=
 have k : ∀ b, b < gTop → ¬ B b := fun b hb h => by have := hB b h; omega
 ⟨tables_ch h hT.tb (k _ g_lt.1) (k _ g_lt.2), utabs_ch h hT.ut (k _ u_lt.1) (k _ u_lt.2), ptab_ch h hT.pt (k _ (by decide))⟩
def tabs0 (k : Nat) (i : Nat) : Bool := decide (i % 8 = 0 ∧ 8 ≤ i ∧ i < 8 + 8 * k)
def startT (T : TS) (w h : Int) : TS :=
 {grid := newG w h, other := newG w h, cursor := cur0, saved := cur0, away := cur0, top := 0, bot := sideI h, tabs := tabs0 7, wrap := true, origin := false, insert := false, hidden := false, draw0 := false, draw1 := false, shift := false, alt := false, title := ByteArray.empty, back := [], parser := T.parser, reply := T.reply }
section
variable {W H : Int} {T : TS}
theorem Lim.flags (h : Lim W H T) {T' : TS} (e1 : T'.grid = T.grid) (e2 : T'.other = T.other) (e3 : T'.cursor = T.cursor) (e4 : T'.saved = T.saved) (e5 : T'.away = T.away) (e6 : T'.top = T.top) (e7 : T'.bot = T.bot) (e8 : T'.back = T.back) (e9 : T'.reply = T.reply) : Lim W H T' :=
 ⟨h.wb, h.hb, by rw [e1]; exact h.g1, by rw [e2]; exact h.g2, by rw [e3]; exact h.cu, by rw [e4]; exact h.sa, by rw [e5]; exact h.aw, by rw [e6, e7]; exact h.tb, by rw [e8]; exact h.bk, by rw [e9]; exact h.rp⟩
theorem lim_start (T : TS) (w h : Int) (hr : T.reply.size ≤ 400) : Lim (sideI w) (sideI h) (startT T w h) := by
 have h1 : 1 ≤ sideI w ∧ sideI w ≤ 60 := by unfold sideI; omega
 have h2 : 1 ≤ sideI h ∧ sideI h ≤ 60 := by unfold sideI; omega
 have hc : (0 ≤ cur0.x ∧ cur0.x < sideI w) ∧ 0 ≤ cur0.y ∧ cur0.y < sideI h := ⟨⟨by decide, by show (0 : Int) < _; omega⟩, by decide, by show (0 : Int) < _; omega⟩
 exact ⟨h1, h2, ⟨rfl, rfl⟩, ⟨rfl, rfl⟩, hc, hc, hc, ⟨by show (0 : Int) ≤ 0; omega, by show (0 : Int) < sideI h; omega, by show sideI h ≤ sideI h; omega⟩, by show ([] : List (List Cel)).length ≤ 20; simp, hr⟩
end
end Go.Proofs.YtclnfbmmaofpjaaDoor.X




namespace Go.Proofs.YtclnfbmmaofpjaaDoor.X
open Go Go.RowKit Go.Proofs.YtclnfbmmaofpjaaDoor
def TS.valsG (t : TS) (v0 v1 bk ps : Value) : List Value := v0 :: v1 :: (t.vals 0 0 bk ps).drop 2
def startK (T : TS) (G : Gr) (b : Int) (k : Nat) : TS :=
 {grid := G, other := G, cursor := cur0, saved := cur0, away := cur0, top := 0, bot := b, tabs := tabs0 k, wrap := true, origin := false, insert := false, hidden := false, draw0 := false, draw1 := false, shift := false, alt := false, title := ByteArray.empty, back := [], parser := T.parser, reply := T.reply }
def start0 (T : TS) (G : Gr) : TS :=
 {grid := G, other := G, cursor := cur0, saved := cur0, away := cur0, top := 0, bot := 0, tabs := fun _ => false, wrap := true, origin := false, insert := false, hidden := false, draw0 := false, draw1 := false, shift := false, alt := false, title := ByteArray.empty, back := [], parser := T.parser, reply := T.reply }
theorem tabs0_0 : tabs0 0 = fun _ => false := by
 funext i
 unfold tabs0
 exact decide_eq_false (by omega)
theorem tabs0_next (k : Nat) : tabs0 (k + 1) = fun i => if i = (8 + 8 * ((k : Nat) : Int)).toNat then true else tabs0 k i := by
 funext i
 unfold tabs0
 by_cases h : i = (8 + 8 * ((k : Nat) : Int)).toNat
 ·rw [if_pos h]; exact decide_eq_true (by omega)
 ·rw [if_neg h]
  by_cases h2 : i % 8 = 0 ∧ 8 ≤ i ∧ i < 8 + 8 * k
  ·rw [decide_eq_true h2]; exact decide_eq_true (by omega)
  ·rw [decide_eq_false h2]; exact decide_eq_false (by omega)
theorem lim_startK (T : TS) (p1 p2 b : Int) (k : Nat) (hr : T.reply.size ≤ 400) (hb : b = sideI p2) : Lim (sideI p1) (sideI p2) (startK T (newG p1 p2) b k) := by
 subst hb
 exact (lim_start T p1 p2 hr).flags rfl rfl rfl rfl rfl rfl rfl rfl rfl
def PsAt (w : World) (t : Nat) (pa : Option Addr) (pn pc : Nat) (l : List Int) (FP : Nat → Prop) : Prop :=
 (Rd w pa (l.map (Value.int .i64)) ∧ l.length = pn ∧ (pa = none → pc = 0) ∧ ∀ ad, pa = some ad → FP ad.block) ∧ (∃ po : Option Nat, pa = po.map at0) ∧ ∀ b, FP b → b < w.heap.size ∧ gTop ≤ b ∧ b ≠ t
theorem start_in {w w1 w2 : World} {t g o : Nat} {pa : Option Addr} {pn pc : Nat} {T T0 : TS} {F1 F2 FP F : Nat → Prop} {G : Gr} (hP : PsAt w t pa pn pc T.parser.params FP) (ht : t < w.heap.size) (ht7 : gTop ≤ t) (hp : T0.parser.params = T.parser.params) (hk : T0.back = []) (hg : T0.grid = G) (ho : T0.other = G)
  (c1 : Ch (fun j => j = t) w w1) (s1 : ∀ b, F1 b → w.heap.size ≤ b ∧ b < w2.heap.size) (s2 : ∀ b, F2 b → w2.heap.size ≤ b) (c12 : w.heap.size ≤ w2.heap.size)
  (h1 : GridAt w1 g G F1) (h2 : GridAt w1 o G F2) (hb : Blk w1 t (T0.vals g o (.slice none 0 0) (.slice pa pn pc)) tTerm) (hF : F = fun b => b = t ∨ FP b ∨ (w.heap.size ≤ b ∧ b < w1.heap.size)) :
  TermIn w1 t g o none 0 0 pa pn pc T0 F F1 F2 (fun _ => False) FP := by
 obtain ⟨hP, hz, hf⟩ := hP
 subst hF
 exact
 {blk := hb
  g1 := by rw [hg]; exact h1
  g2 := by rw [ho]; exact h2
  bk := ⟨[], ⟨Rd.nil _ _, rfl, (fun x hx => by cases hx), (fun x hx => by cases hx), (fun ad e => by cases e), (fun b hb => hb.elim), fun b hb => hb.elim⟩, hk.symm⟩
  bcap := ⟨Nat.le_refl _, fun _ => rfl⟩
  ps := by rw [hp]; exact ⟨hP.1.ch c1 fun ad e e2 => (hf _ (hP.2.2.2 ad e)).2.2 e2, hP.2⟩
  pz := hz
  bz := .inl rfl
  t1 := fun h => by have := (s1 t h).1; omega
  t2 := fun h => by have := s2 t h; omega
  tB := fun h => h
  tP := fun h => (hf t h).2.2 rfl
  a12 := fun b x y => by have := s1 b x; have := s2 b y; omega
  a1B := fun b _ h => h
  a2B := fun b _ h => h
  a1P := fun b x y => by have := s1 b x; have := hf b y; omega
  a2P := fun b x y => by have := s2 b x; have := hf b y; omega
  inF := ⟨.inl rfl, fun b h => .inr (.inr ⟨(s1 b h).1, h1.lt b h⟩), fun b h => .inr (.inr ⟨by have := s2 b h; omega, h2.lt b h⟩), fun b h => h.elim, fun b h => .inr (.inl h)⟩
  lt := fun b h => h.elim (fun h => h ▸ hb.lt) fun h => h.elim (fun h => by have := hf b h; have := c1.size; omega) fun h => h.2
  hi := fun b h => h.elim (fun h => h ▸ ht7) fun h => h.elim (fun h => (hf b h).2.1) fun h => by omega }
end Go.Proofs.YtclnfbmmaofpjaaDoor.X
namespace Go.Proofs.YtclnfbmmaofpjaaDoor.X
open Go Go.RowKit Go.Proofs.YtclnfbmmaofpjaaDoor
set_option maxHeartbeats 4000000 in
theorem start_any {w : World} {t : Nat} {v0 v1 bk : Value} {pa : Option Addr} {pn pc : Nat} {T : TS} {FP : Nat → Prop} (hB0 : Blk w t (T.valsG v0 v1 bk (.slice pa pn pc)) tTerm) (hP : PsAt w t pa pn pc T.parser.params FP) (ht7 : gTop ≤ t) (hT : LT w) (hr : T.reply.size ≤ 400) (p1 p2 : Int) : Calls Tryd.prog 34 [pX t, iX p1, iX p2].toArray w fun e w' =>
    e = .returned (.tuple #[]) ∧ TermAt w' t (startT T p1 p2) (fun b => b = t ∨ FP b ∨ (w.heap.size ≤ b ∧ b < w'.heap.size)) ∧ Ch (fun b => b = t ∨ FP b) w w' := by
  have ht := hB0.lt
  have hs1 : 1 ≤ sideI p1 ∧ sideI p1 ≤ 60 := by unfold sideI; omega
  have hs2 : 1 ≤ sideI p2 ∧ sideI p2 ≤ 60 := by unfold sideI; omega
  refine yA Tryd.func34 rfl ?_
  refine ys ?_
  refine yDC [17] fun w10 hH11 hc12 => ?_
  have hS13 := Ch.trans (Ch.refl (fun j => j = t) w) hc12 eZ
  have ht15 := hB0.ch hc12 id
  have hT16 := lt_ch hc12 hT (fun _ h => h.elim)
  refine ydC [0, 1, 2, 4, 5, 7, 8, 9, 10, 11, 12, 13, 14] [] (fun u hu => (.a (cellsC_ch hu (ht15.cs 98 9) id) (.l (cell_ch hu (ht15.c 107) id) .z))) ?_
  refine yH 3 (yC (new_any p1 p2 _ hT16.tb (by have := ht; have := Ch.size hS13; omega)) ?_)
  rintro _ w22 ⟨g17, F18, rfl, hG19, hlo20, hc21⟩
  refine ⟨_, rfl, ?_⟩
  have hlo20w : ∀ b, F18 b → w.heap.size ≤ b := fun b hb => Nat.le_trans (Ch.size hS13) (hlo20 b hb)
  have hS23 := Ch.trans hS13 hc21 eZ
  have ht25 := ht15.ch hc21 id
  have hT26 := lt_ch hc21 hT16 (fun _ h => h.elim)
  refine x_heldC hc21 ?_
  have hG1lt := hG19.lt
  have hszc2 := Ch.size hS23
  refine yH 6 (yC (new_any p1 p2 _ hT26.tb (by have := ht; have := Ch.size hS23; omega)) ?_)
  rintro _ w32 ⟨g27, F28, rfl, hG29, hlo30, hc31⟩
  refine ⟨_, rfl, ?_⟩
  have hlo30w : ∀ b, F28 b → w.heap.size ≤ b := fun b hb => Nat.le_trans (Ch.size hS23) (hlo30 b hb)
  have hS33 := Ch.trans hS23 hc31 eZ
  have ht35 := ht25.ch hc31 id
  have hG37 := hG19.ch hc31 iZ
  refine x_heldC hc31 ?_
  refine ydC [15, 16] [] (fun u hu => .z) ?_
  refine yK 17 (e_store 0 [pX g17, pX g27, iX 0, iX 0, .bool false, .bool false, .bool false, .bool false, iX 0, iX 0, iX 0, iX 0, .bool false, .bool false, .bool false, .bool false, iX 0, iX 0, iX 0, iX 0, .bool false, .bool false, .bool false, .bool false, iX 0, iX 0, iX 0, iX 0, .bool false, .bool false, .bool false, .bool false, .bool false, .bool false, .bool false, .bool false, .bool false, .bool false, .bool false, .bool false, .bool false, .bool false, .bool false, .bool false, .bool false, .bool false, .bool false, .bool false, .bool false, .bool false, .bool false, .bool false, .bool false, .bool false, .bool false, .bool false, .bool false, .bool false, .bool false, .bool false, .bool false, .bool false, .bool false, .bool false, .bool false, .bool false, .bool false, .bool false, .bool false, .bool false, .bool false, .bool false, .bool false, .bool false, .bool false, .bool false, .bool false, .bool false, .bool false, .bool false, .bool false, .bool false, .bool false, .bool false, .bool false, .bool false, .bool false, .bool false, .bool true, .bool false, .bool false, .bool false, .bool false, .bool false, .bool false, .bool false, .string ByteArray.empty, .slice none 0 0, iX T.parser.state, uX T.parser.utf.b0, uX T.parser.utf.b1, uX T.parser.utf.b2, iX T.parser.utf.n, .string T.parser.marks, .slice pa pn pc, .string T.parser.text, iX T.parser.within, .string T.reply] none (by kernel_rfl) ht35 (of_ble (by kernel_rfl)) ?_)
  intro w38 hB39 hc40
  replace hB39 : Blk w38 t (TS.vals (start0 T (newG p1 p2)) g17 g27 (.slice none 0 0) (.slice pa pn pc)) tTerm := Blk.to hB39 (by kernel_rfl)
  have hS41 := Ch.trans hS33 hc40 (fun i hi (h : i = t) => h)
  have hG43 := hG37.ch hc40 (fun b hb (h : b = t) => by have := hlo20w b hb; omega)
  have hG44 := hG29.ch hc40 (fun b hb (h : b = t) => by have := hlo30w b hb; omega)
  obtain ⟨F, hFd⟩ : ∃ F : Nat → Prop, F = fun b => b = t ∨ FP b ∨ (w.heap.size ≤ b ∧ b < w38.heap.size) := ⟨_, rfl⟩
  have hs12 : ∀ b, F18 b → w.heap.size ≤ b ∧ b < w22.heap.size := fun b hb => ⟨hlo20w b hb, hG1lt b hb⟩
  have hI : TermIn w38 t g17 g27 none 0 0 pa pn pc (start0 T (newG p1 p2)) F F18 F28 (fun _ => False) FP := start_in (T := T) (w2 := w22) hP ht ht7 rfl rfl rfl rfl hS41 hs12 hlo30 hszc2 hG43 hG44 hB39 hFd
  have hFt : F t := hI.inF.1
  have hA0 : TermAt w38 t (start0 T (newG p1 p2)) F := ⟨_, _, _, _, _, _, _, _, _, _, _, _, hI⟩
  have hpre := hS41
  have hlt1 := hI.blk.lt
  obtain ⟨W, hW⟩ : ∃ W, W = sideI p1 := ⟨_, rfl⟩
  obtain ⟨H, hH⟩ : ∃ H, H = sideI p2 := ⟨_, rfl⟩
  obtain ⟨gv45, hgd45⟩ := hI.g1.head
  have htg45 : Df t g17 := fun e => hI.t1 (e ▸ hI.g1.inF)
  refine x_killed ?_
  refine yDe (nS ?_)
  refine ysr ?_
  refine yp 10 [] (.l (hB39.c 0) (.l (hgd45.c 1) .z)) ?_
  refine yo (yS hB39 fun w46 hB47 hc48 => ?_)
  have hS50 := Ch.trans (Ch.refl (fun j => j = t) w38) hc48 (fun i hi (h : i = t) => h)
  refine ye ?_
  refine ysr ?_
  refine yp 1 [] .z ?_
  refine ye ?_
  refine x_block ?_
  have hI53 := hI.scalar (T' := ({ (start0 T (newG p1 p2)) with bot := (newG p1 p2).h } : TS)) hS50 (Blk.to hB47 (by kernel_rfl)) rfl rfl rfl rfl
  have hX54 := hI.cht hS50
  have hA55 := hI53.pk1 hI hX54
  refine ykeep [0, 6] (f' := [(0, pX t), (6, iX 8)]) ?_
  refine x_loop (σ := Nat) (fun k => [(0, pX t), (6, iX (8 + 8 * ((k : Nat) : Int)))]) (fun k u => k ≤ 7 ∧ (TermAt u t (startK T (newG p1 p2) H k) (more F w38 u) ∧ Ch F w38 u)) (fun k => 7 - k) 0 rfl ?_ ?_
  · exact ⟨(by omega), (TermAt.eq' hA55 (by subst hH; show startK T (newG p1 p2) (sideI p2) 0 = _; unfold startK; rw [tabs0_0]; rfl)), hX54⟩
  · intro k w56 hI57 K58 hL59
    obtain ⟨hk, hN60, hX61⟩ := hI57
    have hL65 : Lim W H (startK T (newG p1 p2) H k) := (hW ▸ hH ▸ lim_startK T p1 p2 (sideI p2) k hr rfl)
    generalize hE65 : (startK T (newG p1 p2) H k) = T65 at hN60 hL65
    have hM65 := hL65
    have hla65 := hM65.all
    obtain ⟨g65, o65, ba65, bn65, bc65, pa65, pn65, pc65, F165, F265, FB65, FP65, hI64⟩ := hN60
    obtain ⟨gv65, hgd66⟩ := hI64.g1.head
    have htg67 : Df t g65 := fun e => hI64.t1 (e ▸ hI64.g1.inF)
    refine ys ?_
    refine ysr ?_
    refine yp 2 [] .z ?_
    refine ye ?_
    refine yc (rL (8 + 8 * ((k : Nat) : Int)) 60) (fun hC68 => ?_) fun hC68 => ?_
    · refine yk ?_
      refine ys ?_
      refine x_block ?_
      refine x_region ?_
      refine yp 5 [] (.i (8 + 8 * ((k : Nat) : Int)) (60) .z) ?_
      refine yo (e_store (28 + ((8 + 8 * ((k : Nat) : Int)) : Int).toNat * 1) [.bool true] none (by kernel_rfl) hI64.blk (by rw [tvals_len]; simp only [List.length_cons, List.length_nil]; omega) ?_)
      intro w69 hB70 hc71
      replace hB70 : Blk w69 t (TS.vals ({ T65 with tabs := (fun i => if i = ((8 + 8 * ((k : Nat) : Int)) : Int).toNat then true else T65.tabs i) } : TS) g65 o65 (.slice ba65 bn65 bc65) (.slice pa65 pn65 pc65)) tTerm := Blk.to hB70 (tabs_put T65 _ _ _ _ _ (by omega) _)
      have hS72 := Ch.trans (Ch.refl (fun j => j = t) w56) hc71 (fun i hi (h : i = t) => h)
      refine yE (nB (nS ?_))
      refine x_region ?_
      refine yp 3 [] (.q6 ((8 + 8 * ((k : Nat) : Int)) + 8) .z) ?_
      have hI75 := hI64.scalar (T' := ({ T65 with tabs := (fun i => if i = ((8 + 8 * ((k : Nat) : Int)) : Int).toNat then true else T65.tabs i) } : TS)) hS72 hB70 rfl rfl rfl rfl
      have hX76 := Ch.on hX61 hS72 hFt
      have hA77 := hI75.pk2 hS72 hI hX76
      refine yE (fun a ha => hL59 (k + 1) _ ⟨(by omega), (TermAt.eq' hA77 (by subst hE65; show startK T (newG p1 p2) H (k + 1) = _; unfold startK; rw [tabs0_next])), hX76⟩ (by show 7 - (k + 1) < 7 - k; omega) a (by rw [show (8 + 8 * ((k + 1 : Nat) : Int)) = (8 + 8 * ((k : Nat) : Int)) + 8 by omega]; exact ha.kp [0, 6]))
    · have hk7 : k = 7 := by omega
      refine x_exit (eS (then_exit (block_exit (yR0' ?_))))
      have hX78 := Ch.on hX61 (Ch.refl (fun j => j = t) w56) hFt
      have hA79 := hI64.pk2 (Ch.refl (fun j => j = t) w56) hI hX78
      subst hE65
      subst hk7 hH hW
      refine ⟨rfl, TermAt.mono hA79 (fun b hb => ?_) (fun b hb => ?_), ?_⟩
      · rcases hb with hb | hb
        · rw [hFd] at hb
          exact hb.imp id fun h => h.imp id fun h => ⟨h.1, by have := Ch.size hX78; omega⟩
        · exact .inr (.inr ⟨by have := Ch.size hpre; omega, hb.2⟩)
      · have hz := Ch.size hX78
        have hz2 := Ch.size hpre
        rcases hb with rfl | hb | hb
        · exact ⟨by omega, ht7⟩
        · have := hP.2.2 b hb; exact ⟨by omega, this.2.1⟩
        · exact ⟨hb.2, by omega⟩
      · refine Ch.trans (hpre.mono fun i _ h => .inl h) hX78 fun i hi h => ?_
        rw [hFd] at h
        exact h.imp id fun h => h.elim id fun h => by omega
end Go.Proofs.YtclnfbmmaofpjaaDoor.X


namespace Go.Proofs.YtclnfbmmaofpjaaDoor.X
open Go Go.RowKit Go.Proofs.YtclnfbmmaofpjaaDoor
theorem plim_at (s : Int) : (atP s).lim := ⟨u0_ok, (by decide : (0 : Nat) ≤ 2), (by decide : (0 : Nat) ≤ 40), (by decide : (0 : Nat) ≤ 8), fun x hx => by cases hx⟩
end Go.Proofs.YtclnfbmmaofpjaaDoor.X

namespace Go.Proofs.YtclnfbmmaofpjaaDoor.X
open Go Go.RowKit Go.Proofs.YtclnfbmmaofpjaaDoor
def zeroT : TS := { grid := ⟨0, 0, []⟩, other := ⟨0, 0, []⟩, cursor := cur0, saved := cur0, away := cur0, top := 0, bot := 0, tabs := fun _ => false, wrap := false, origin := false, insert := false, hidden := false, draw0 := false, draw1 := false, shift := false, alt := false, title := ByteArray.empty, back := [], parser := ⟨0, ⟨0, 0, 0, 0⟩, ByteArray.empty, [], ByteArray.empty, 0⟩, reply := ByteArray.empty }
set_option maxHeartbeats 4000000 in
theorem tnew_any (p1 p2 : Int) (w : World) (hT : LT w) (h7 : gTop ≤ w.heap.size) : Calls Tryd.prog 10 [iX p1, iX p2].toArray w fun e w' => ∃ t, e = .returned (pX t) ∧ TermAt w' t (startT zeroT p1 p2) (fun b => w.heap.size ≤ b ∧ b < w'.heap.size) ∧ Ch (fun _ => False) w w' := by
 refine yA Tryd.func10 rfl <| ysr <| yp 1 [] .z <| ye <| ysr <| yp 1 [] .z <| yo (yN [.pointer none, .pointer none, iX 0, iX 0, .bool false, .bool false, .bool false, .bool false, iX 0, iX 0, iX 0, iX 0, .bool false, .bool false, .bool false, .bool false, iX 0, iX 0, iX 0, iX 0, .bool false, .bool false, .bool false, .bool false, iX 0, iX 0, iX 0, iX 0, .bool false, .bool false, .bool false, .bool false, .bool false, .bool false, .bool false, .bool false, .bool false, .bool false, .bool false, .bool false, .bool false, .bool false, .bool false, .bool false, .bool false, .bool false, .bool false, .bool false, .bool false, .bool false, .bool false, .bool false, .bool false, .bool false, .bool false, .bool false, .bool false, .bool false, .bool false, .bool false, .bool false, .bool false, .bool false, .bool false, .bool false, .bool false, .bool false, .bool false, .bool false, .bool false, .bool false, .bool false, .bool false, .bool false, .bool false, .bool false, .bool false, .bool false, .bool false, .bool false, .bool false, .bool false, .bool false, .bool false, .bool false, .bool false, .bool false, .bool false, .bool false, .bool false, .bool false, .bool false, .bool false, .bool false, .bool false, .bool false, .string ByteArray.empty, .slice none 0 0, iX 0, uX 0, uX 0, uX 0, iX 0, .string ByteArray.empty, .slice none 0 0, .string ByteArray.empty, iX 0, .string ByteArray.empty] 43 fun w10 b11 hb12 hz13 hB14 hc15 => ?_)
 have hlo16 : w.heap.size ≤ b11 := by rw [hb12]; exact Ch.size (Up.refl w.heap.size w)
 have hu17 := Up.step (Up.refl w.heap.size w) hc15 iZ
 refine yp 3 [] .z <| ye <| ysr <| yp 3 [] .z ?_
 have hBz : Blk w10 b11 (zeroT.valsG (.pointer none) (.pointer none) (.slice none 0 0) (.slice none 0 0)) tTerm := Blk.to hB14 (by kernel_rfl)
 have hszb := Ch.size hu17
 have hPz : PsAt w10 b11 none 0 0 zeroT.parser.params (fun _ => False) := ⟨⟨Rd.nil _ _, rfl, fun _ => rfl, fun ad e => by cases e⟩, ⟨none, rfl⟩, fun b h => h.elim⟩
 have hT20 := lt_ch (Up.ch hu17) hT (fun _ h => h.elim)
 refine yo (yQ (start_any hBz hPz (by omega) hT20 (by decide) p1 p2) ?_)
 rintro w21 ⟨hA18, hc19⟩
 refine ye <| ysr <| yp 2 [] .z <| ye <| x_ret (yR1 (pX b11) ?_)
 refine ⟨b11, rfl, TermAt.mono hA18 (fun b hb => ?_) (fun b hb => ⟨hb.2, by omega⟩), Ch.trans (Up.ch hu17) hc19 (fun i hi h => ?_)⟩
 ·have hz := Ch.size hc19
  rcases hb with rfl | hb | hb
  ·exact ⟨by omega, by have := hBz.lt; omega⟩
  ·exact hb.elim
  exact ⟨by omega, hb.2⟩
 rcases h with rfl | h
 ·omega
 exact h
end Go.Proofs.YtclnfbmmaofpjaaDoor.X
namespace Go.Proofs.YtclnfbmmaofpjaaDoor.X
open Go Go.RowKit Go.Proofs.YtclnfbmmaofpjaaDoor
theorem cel_and (a b : Cel) : (((a.rune : Int) == b.rune) && (((a.sty.bold == b.sty.bold) && ((a.sty.under == b.sty.under) && ((a.sty.turned == b.sty.turned) && (((a.sty.fore : Int) == b.sty.fore) && (((a.sty.back : Int) == b.sty.back) && true))))) && true)) = (a == b) := beq_cel a b
end Go.Proofs.YtclnfbmmaofpjaaDoor.X
namespace Go.Proofs.YtclnfbmmaofpjaaDoor.X
open Go Go.RowKit Go.Proofs.YtclnfbmmaofpjaaDoor
def Fine (T : TS) : Prop := (∃ W H, Lim W H T) ∧ T.parser.lim
theorem fine_start (p1 p2 : Int) : Fine (startT zeroT p1 p2) := ⟨⟨_, _, lim_start zeroT p1 p2 (by decide)⟩, plim_at 0⟩
structure Sys (w0 w : World) (bs : List (Nat × List Value × TypeId)) (ts : List (Nat × TS)) : Prop where
 ch : Ch (fun _ => False) w0 w
 lt : LT w
 top : gTop ≤ w0.heap.size
 blk : ∀ (i : Nat) x, bs[i]? = some x → Blk w x.1 x.2.1 x.2.2
 lo : ∀ (i : Nat) x, bs[i]? = some x → w0.heap.size ≤ x.1
 df : ∀ (i j : Nat) x y, bs[i]? = some x → bs[j]? = some y → i ≠ j → x.1 ≠ y.1
 tm : ∃ F : Nat → Nat → Prop, (∀ (i : Nat) x, ts[i]? = some x → TermAt w x.1 x.2 (F i) ∧ Fine x.2) ∧ (∀ i j, i ≠ j → ∀ b, F i b → ¬ F j b) ∧ (∀ i b, F i b → w0.heap.size ≤ b ∧ b < w.heap.size) ∧ ∀ (i j : Nat) x, bs[i]? = some x → ¬ F j x.1
section
variable {w0 w w' : World} {bs : List (Nat × List Value × TypeId)} {ts : List (Nat × TS)}
theorem Sys.same (h : Sys w0 w bs ts) (hc : Ch (fun _ => False) w w') : Sys w0 w' bs ts := by
 obtain ⟨F, h1, h2, h3, h4⟩ := h.tm
 exact ⟨h.ch.trans hc (fun _ _ h => h), lt_ch hc h.lt (fun _ h => h.elim), h.top, fun i x e => (h.blk i x e).ch hc (fun h => h), h.lo, h.df, F, fun i x e => ⟨(h1 i x e).1.ch hc (fun _ _ h => h), (h1 i x e).2⟩, h2, fun i b hb => ⟨(h3 i b hb).1, Nat.lt_of_lt_of_le (h3 i b hb).2 hc.size⟩, h4⟩
theorem Sys.box (h : Sys w0 w bs ts) (hc : Ch (fun _ => False) w w') {b : Nat} {vs : List Value} {ty : TypeId} (hb : Blk w' b vs ty) (hz : w.heap.size ≤ b) : Sys w0 w' (bs ++ [(b, vs, ty)]) ts := by
 have h' := h.same hc
 obtain ⟨F, h1, h2, h3, h4⟩ := h.tm
 obtain ⟨F', g1, g2, g3, g4⟩ := h'.tm
 have one : ∀ i x, (bs ++ [(b, vs, ty)])[i]? = some x → bs[i]? = some x ∨ (i = bs.length ∧ x = (b, vs, ty)) := fun i x e => by
  rcases Nat.lt_or_ge i bs.length with hi | hi
  ·rw [List.getElem?_append_left hi] at e; exact .inl e
  ·rw [List.getElem?_append_right hi] at e
   rcases Nat.eq_zero_or_pos (i - bs.length) with h0 | h0
   ·rw [h0] at e; exact .inr ⟨by omega, (Option.some.inj e).symm⟩
   ·rw [List.getElem?_eq_none (by simp only [List.length_cons, List.length_nil]; omega)] at e; cases e
 refine ⟨h'.ch, h'.lt, h'.top, fun i x e => ?_, fun i x e => ?_, fun i j x y e e' hne => ?_, F, fun i x e => ⟨(h1 i x e).1.ch hc (fun _ _ h => h), (h1 i x e).2⟩, h2, fun i b hb => ⟨(h3 i b hb).1, Nat.lt_of_lt_of_le (h3 i b hb).2 hc.size⟩, fun i j x e => ?_⟩
 ·rcases one i x e with e | ⟨_, rfl⟩
  ·exact h'.blk i x e
  ·exact hb
 ·rcases one i x e with e | ⟨_, rfl⟩
  ·exact h.lo i x e
  ·have := h.ch.size; dsimp only; omega
 ·rcases one i x e with e1 | ⟨h1, rfl⟩
  ·rcases one j y e' with e2 | ⟨h2, rfl⟩
   ·exact h.df i j x y e1 e2 hne
   ·have := (h.blk i x e1).lt; dsimp only; omega
  ·rcases one j y e' with e2 | ⟨h2, rfl⟩
   ·have := (h.blk j y e2).lt; dsimp only; omega
   ·omega
 ·rcases one i x e with e | ⟨_, rfl⟩
  ·exact h4 i j x e
  ·exact fun hf => by have := (h3 j b hf).2; omega
theorem Sys.set (h : Sys w0 w bs ts) (i : Nat) {b : Nat} {vs vs' : List Value} {ty : TypeId} (hi : bs[i]? = some (b, vs, ty)) (hc : Ch (fun j => j = b) w w') (hb : Blk w' b vs' ty) : Sys w0 w' (bs.set i (b, vs', ty)) ts := by
 obtain ⟨F, h1, h2, h3, h4⟩ := h.tm
 have hlo := h.lo i _ hi
 have hlen : i < bs.length := (List.getElem?_eq_some_iff.1 hi).1
 have key : ∀ j x, (bs.set i (b, vs', ty))[j]? = some x → (j = i ∧ x = (b, vs', ty)) ∨ (j ≠ i ∧ bs[j]? = some x) := fun j x e => by
  by_cases hj : j = i
  ·subst hj; rw [List.getElem?_set_self hlen] at e; exact .inl ⟨rfl, (Option.some.inj e).symm⟩
  ·rw [List.getElem?_set_ne (fun h => hj h.symm)] at e; exact .inr ⟨hj, e⟩
 have nF : ∀ j, ¬ F j b := fun j => h4 i j _ hi
 refine ⟨h.ch.trans hc (fun k hk e => by dsimp only at hlo; omega), lt_ch hc h.lt (fun k e => by have := h.top; dsimp only at hlo; omega), h.top, fun j x e => ?_, fun j x e => ?_, fun j k x y e e' hne => ?_, F, fun j x e => ⟨(h1 j x e).1.ch hc (fun k hk e' => nF j (e' ▸ hk)), (h1 j x e).2⟩, h2, fun j k hk => ⟨(h3 j k hk).1, Nat.lt_of_lt_of_le (h3 j k hk).2 hc.size⟩, fun j k x e => ?_⟩
 ·rcases key j x e with ⟨_, rfl⟩ | ⟨hj, e⟩
  ·exact hb
  ·exact (h.blk j x e).ch hc (h.df j i x _ e hi hj)
 ·rcases key j x e with ⟨_, rfl⟩ | ⟨hj, e⟩
  ·exact hlo
  ·exact h.lo j x e
 ·rcases key j x e with ⟨h5, rfl⟩ | ⟨hj, e⟩
  ·rcases key k y e' with ⟨h6, rfl⟩ | ⟨hk, e'⟩
   ·omega
   ·exact h.df i k (b, vs, ty) y hi e' (by omega)
  ·rcases key k y e' with ⟨h6, rfl⟩ | ⟨hk, e'⟩
   ·exact h.df j i x (b, vs, ty) e hi hj
   ·exact h.df j k x y e e' hne
 ·rcases key j x e with ⟨_, rfl⟩ | ⟨hj, e⟩
  ·exact nF k
  ·exact h4 j k x e
theorem Sys.pre {bs' : List (Nat × List Value × TypeId)} (h : Sys w0 w (bs ++ bs') ts) : Sys w0 w bs ts := by
 obtain ⟨F, h1, h2, h3, h4⟩ := h.tm
 have key : ∀ (i : Nat) x, bs[i]? = some x → (bs ++ bs')[i]? = some x := fun i x e => by rw [List.getElem?_append_left (List.getElem?_eq_some_iff.1 e).1]; exact e
 exact ⟨h.ch, h.lt, h.top, fun i x e => h.blk i x (key i x e), fun i x e => h.lo i x (key i x e), fun i j x y e e' => h.df i j x y (key i x e) (key j y e'), F, h1, h2, h3, fun i j x e => h4 i j x (key i x e)⟩
theorem Sys.new (h : Sys w0 w bs ts) (p1 p2 : Int) : Calls Tryd.prog 10 [.int .i64 p1, .int .i64 p2].toArray w fun e w' => ∃ t, e = .returned (.pointer (some ⟨t, 0, none⟩)) ∧ Sys w0 w' bs (ts ++ [(t, startT zeroT p1 p2)]) ∧ Ch (fun _ => False) w w' := by
 refine (tnew_any p1 p2 w h.lt (Nat.le_trans h.top h.ch.size)).mono fun e w' ⟨t, he, hA, hc⟩ => ⟨t, he, ?_, hc⟩
 obtain ⟨F, h1, h2, h3, h4⟩ := h.tm
 have h' := h.same hc
 have hz := hc.size
 have hz0 := h.ch.size
 have ht : TermAt w' t (startT zeroT p1 p2) (fun b => w.heap.size ≤ b ∧ b < w'.heap.size) := hA
 refine ⟨h'.ch, h'.lt, h'.top, h'.blk, h'.lo, h'.df, fun i b => if i = ts.length then w.heap.size ≤ b ∧ b < w'.heap.size else i < ts.length ∧ F i b, fun i x e => ?_, fun i j hij b hb hb' => ?_, fun i b hb => ?_, fun i j x e hb => ?_⟩
 ·rcases Nat.lt_or_ge i ts.length with hi | hi
  ·rw [List.getElem?_append_left hi] at e
   refine ⟨?_, (h1 i x e).2⟩
   have e2 : (fun b => if i = ts.length then w.heap.size ≤ b ∧ b < w'.heap.size else i < ts.length ∧ F i b) = F i := by
    funext b; rw [if_neg (by omega)]; exact propext ⟨fun h => h.2, fun h => ⟨hi, h⟩⟩
   show TermAt w' x.1 x.2 (fun b => if i = ts.length then w.heap.size ≤ b ∧ b < w'.heap.size else i < ts.length ∧ F i b)
   rw [e2]
   exact (h1 i x e).1.ch hc (fun _ _ h => h)
  ·rw [List.getElem?_append_right hi] at e
   rcases Nat.eq_zero_or_pos (i - ts.length) with h0 | h0
   ·rw [h0] at e
    obtain rfl := (Option.some.inj e).symm
    obtain rfl : i = ts.length := by omega
    simp only [if_true]
    exact ⟨ht, fine_start p1 p2⟩
   ·rw [List.getElem?_eq_none (by simp only [List.length_cons, List.length_nil]; omega)] at e; cases e
 ·dsimp only at hb hb'
  split at hb
  ·split at hb'
   ·omega
   ·have := (h3 j b hb'.2).2; omega
  ·split at hb'
   ·have := (h3 i b hb.2).2; omega
   ·exact h2 i j hij b hb.2 hb'.2
 ·dsimp only at hb
  split at hb
  ·omega
  ·have := h3 i b hb.2; omega
 ·dsimp only at hb
  split at hb
  ·have := (h.blk i x e).lt; omega
  ·exact h4 i j x e hb.2
theorem Sys.step (h : Sys w0 w bs ts) {i t : Nat} {T T' : TS} (hi : ts[i]? = some (t, T)) {k : FuncId} {args : Array Value} {v : Value}
  (hk : ∀ F, TermAt w t T F → LT w → Fine T → Calls Tryd.prog k args w fun e w' => e = .returned v ∧ TermAt w' t T' (more F w w') ∧ Ch F w w') (hf : Fine T → Fine T') :
  Calls Tryd.prog k args w fun e w' => e = .returned v ∧ Sys w0 w' bs (ts.set i (t, T')) := by
 obtain ⟨F, h1, h2, h3, h4⟩ := h.tm
 have hlen : i < ts.length := (List.getElem?_eq_some_iff.1 hi).1
 refine (hk (F i) (h1 i _ hi).1 h.lt (h1 i _ hi).2).mono fun e w' ⟨he, hA, hc⟩ => ⟨he, ?_⟩
 have hz := hc.size
 refine ⟨Ch.trans h.ch hc (fun b hb hb' => ?_), lt_ch hc h.lt (fun b hb => by have := h3 i b hb; have := h.top; omega), h.top, fun j x e => (h.blk j x e).ch hc (h4 j i x e), h.lo, h.df, fun j b => if j = i then more (F i) w w' b else F j b, fun j x e => ?_, fun j k hjk b hb hb' => ?_, fun j b hb => ?_, fun j k x e hb => ?_⟩
 ·have := (h3 i b hb').1; omega
 ·by_cases hj : j = i
  ·subst hj
   rw [List.getElem?_set_self hlen] at e
   obtain rfl := (Option.some.inj e).symm
   simp only [if_true]
   exact ⟨hA, hf (h1 j _ hi).2⟩
  ·rw [List.getElem?_set_ne (fun h => hj h.symm)] at e
   simp only [if_neg hj]
   exact ⟨(h1 j x e).1.ch hc (fun b hb => h2 j i hj b hb), (h1 j x e).2⟩
 ·dsimp only at hb hb'
  split at hb
  ·rename_i hji
   subst hji
   rw [if_neg (fun h => hjk h.symm)] at hb'
   rcases hb with hb | hb
   ·exact h2 j k hjk b hb hb'
   ·have := (h3 k b hb').2; omega
  ·split at hb'
   ·rename_i hji hki
    subst hki
    rcases hb' with hb' | hb'
    ·exact h2 j k hjk b hb hb'
    ·have := (h3 j b hb).2; omega
   ·exact h2 j k hjk b hb hb'
 ·dsimp only at hb
  have hz0 := h.ch.size
  split at hb
  ·rcases hb with hb | hb
   ·have := h3 i b hb; omega
   ·omega
  ·have := h3 j b hb; omega
 ·dsimp only at hb
  split at hb
  ·rcases hb with hb | hb
   ·exact h4 j i x e hb
   ·have := (h.blk j x e).lt; omega
  ·exact h4 j k x e hb
theorem Sys.at (h : Sys w0 w bs ts) {i t : Nat} {T : TS} (hi : ts[i]? = some (t, T)) : ∃ F, TermAt w t T F := by
 obtain ⟨F, h1, _⟩ := h.tm
 exact ⟨_, (h1 i _ hi).1⟩
theorem Sys.fine (h : Sys w0 w bs ts) {i t : Nat} {T : TS} (hi : ts[i]? = some (t, T)) : Fine T := by
 obtain ⟨F, h1, _⟩ := h.tm
 exact (h1 i _ hi).2
theorem Sys.cell (h : Sys w0 w bs ts) {i t : Nat} {T : TS} (hi : ts[i]? = some (t, T)) (c : Nat) {v : Value} (hv : ∀ g o bk ps, (T.vals g o bk ps)[c]? = some v) : w.cell? ⟨t, c, none⟩ = some v := by
 obtain ⟨F, g, o, ba, bn, bc, pa, pn, pc, F1, F2, FB, FP, hI⟩ := h.at hi
 exact (hI.blk.cell c).trans (hv _ _ _ _)
theorem Sys.grid (h : Sys w0 w bs ts) {i t : Nat} {T : TS} (hi : ts[i]? = some (t, T)) : ∃ g F, w.cell? ⟨t, 0, none⟩ = some (.pointer (some ⟨g, 0, none⟩)) ∧ GridAt w g T.grid F := by
 obtain ⟨F, g, o, ba, bn, bc, pa, pn, pc, F1, F2, FB, FP, hI⟩ := h.at hi
 exact ⟨g, F1, (hI.blk.cell 0).trans rfl, hI.g1⟩
theorem Sys.other (h : Sys w0 w bs ts) {i t : Nat} {T : TS} (hi : ts[i]? = some (t, T)) : ∃ g F, w.cell? ⟨t, 1, none⟩ = some (.pointer (some ⟨g, 0, none⟩)) ∧ GridAt w g T.other F := by
 obtain ⟨F, g, o, ba, bn, bc, pa, pn, pc, F1, F2, FB, FP, hI⟩ := h.at hi
 exact ⟨o, F2, (hI.blk.cell 1).trans rfl, hI.g2⟩
theorem Sys.outs (h : Sys w0 w bs ts) {i t : Nat} {T : TS} (hi : ts[i]? = some (t, T)) : ∃ ba bn bc rows FB, w.cell? ⟨t, 97, none⟩ = some (.slice ba bn bc) ∧ bn = T.back.length ∧ LinesAt w ba bn rows FB ∧ rows.map Row.l = T.back ∧ (ba = none ∨ ∃ b off, ba = some ⟨b, off, none⟩) := by
 obtain ⟨F, g, o, ba, bn, bc, pa, pn, pc, F1, F2, FB, FP, hI⟩ := h.at hi
 obtain ⟨rows, hL, hm⟩ := hI.bk
 exact ⟨ba, bn, bc, rows, FB, (hI.blk.cell 97).trans (by kernel_rfl), by rw [← hm, List.length_map, hL.len], hL, hm, hI.bz⟩
theorem Fine.back {T : TS} (h : Fine T) : T.back.length ≤ 1000 := by obtain ⟨⟨W, H, h⟩, _⟩ := h; exact Nat.le_trans h.bk (by decide)
theorem Fine.params {T : TS} (h : Fine T) : T.parser.params.length ≤ 1000 := Nat.le_trans h.2.n (by decide)
end
end Go.Proofs.YtclnfbmmaofpjaaDoor.X

namespace Go.Proofs.YtclnfbmmaofpjaaDoor.X
open Go Go.RowKit Go.Proofs.YtclnfbmmaofpjaaDoor
def PS.gr (p : PS) : Prop := p.state = 0 → p = { atP 0 with utf := p.utf }
end Go.Proofs.YtclnfbmmaofpjaaDoor.X

namespace Go.Proofs.YtclnfbmmaofpjaaDoor.X
open Go Go.RowKit Go.Proofs.YtclnfbmmaofpjaaDoor
structure Kp (T U : TS) : Prop where
 alt : U.alt = true
 other : U.other = T.other
 away : U.away = T.away
 saved : U.saved = T.saved
 top : U.top = T.top
 bot : U.bot = T.bot
 title : U.title = T.title
 back : U.back = T.back
theorem Kp.refl {T : TS} (h : T.alt = true) : Kp T T := ⟨h, rfl, rfl, rfl, rfl, rfl, rfl, rfl⟩
theorem Kp.trans {T U V : TS} (h : Kp T U) (k : Kp U V) : Kp T V := ⟨k.alt, k.other.trans h.other, k.away.trans h.away, k.saved.trans h.saved, k.top.trans h.top, k.bot.trans h.bot, k.title.trans h.title, k.back.trans h.back⟩
end Go.Proofs.YtclnfbmmaofpjaaDoor.X


namespace Go.Proofs.YtclnfbmmaofpjaaDoor.X
open Go Go.RowKit Go.Proofs.YtclnfbmmaofpjaaDoor
structure Stp where
 text : ByteArray
 w : Int
 h : Int
def stp0 : Stp := ⟨ByteArray.empty, 0, 0⟩
def Stp.vals (x : Stp) : List Value := [.string x.text, .int .i64 x.w, .int .i64 x.h]
def flatS : List Stp → List Value
 | [] => []
 | x :: l => x.vals ++ flatS l
def gs (l : List Stp) (k : Nat) : Stp := l.getD k stp0
end Go.Proofs.YtclnfbmmaofpjaaDoor.X
namespace Go.Proofs.YtclnfbmmaofpjaaDoor.X
open Go Go.RowKit Go.Proofs.YtclnfbmmaofpjaaDoor
def wholeB (l : List Cel) : Bool := (List.range l.length).all fun i => if (gc l (i : Int)).rune = 0 then pairedB l ((i : Int) - 1) else celB (gc l (i : Int)) && (!wideB (gc l (i : Int)).rune || pairedB l (i : Int))
def celO (c : Cel) : Prop := styleB c.sty = true ∧ (c.rune = 0 ∨ rightB c.rune = true)
def okS (l : List Cel) : Prop := ∀ c ∈ l, celO c
def okC (l : List Cel) : Prop := okS l ∧ wholeB l = true
theorem gc_get {l : List Cel} {i : Nat} (h : i < l.length) : gc l (i : Int) = l[i] := by simp [gc, List.getD, h]
theorem gc_mem {l : List Cel} {i : Nat} (h : i < l.length) : gc l (i : Int) ∈ l := by rw [gc_get h]; exact List.getElem_mem h
theorem wholeB_iff {l : List Cel} : wholeB l = true ↔ ∀ i : Nat, i < l.length → ((gc l (i : Int)).rune = 0 → pairedB l ((i : Int) - 1) = true) ∧ ((gc l (i : Int)).rune ≠ 0 → celB (gc l (i : Int)) = true ∧ (wideB (gc l (i : Int)).rune = true → pairedB l (i : Int) = true)) := by
 unfold wholeB
 rw [List.all_eq_true]
 refine ⟨fun h i hi => ?_, fun h i hi => ?_⟩
 ·have := h i (List.mem_range.2 hi)
  split at this
  ·rename_i h0; exact ⟨fun _ => this, fun h => absurd h0 h⟩
  ·rename_i h0
   rw [Bool.and_eq_true, Bool.or_eq_true, Bool.not_eq_true'] at this
   exact ⟨fun h => absurd h h0, fun _ => ⟨this.1, fun hw => this.2.elim (fun h => by rw [h] at hw; cases hw) id⟩⟩
 ·have := h i (List.mem_range.1 hi)
  split
  ·rename_i h0; exact this.1 h0
  ·rename_i h0
   rw [Bool.and_eq_true, Bool.or_eq_true, Bool.not_eq_true']
   refine ⟨(this.2 h0).1, ?_⟩
   cases hw : wideB (gc l (i : Int)).rune with
   | false => exact .inl rfl
   | true => exact .inr ((this.2 h0).2 hw)
def okG (G : Gr) : Prop := ∀ l ∈ G.lines, okC l
end Go.Proofs.YtclnfbmmaofpjaaDoor.X
namespace Go.Proofs.YtclnfbmmaofpjaaDoor.X
open Go Go.RowKit Go.Proofs.YtclnfbmmaofpjaaDoor
structure okD (G : Gr) : Prop where
 ok : okG G
 len : G.lines.length = G.h.toNat
 wid : ∀ l ∈ G.lines, l.length = G.w.toNat
theorem okD.line {G : Gr} (h : okD G) {y : Int} (hy : 0 ≤ y ∧ y < G.h) : (gl G y).length = G.w.toNat := by
 have hl := h.len
 have hy' : y.toNat < G.lines.length := by omega
 unfold gl
 rw [List.getD_eq_getElem?_getD, List.getElem?_eq_getElem hy']
 exact h.wid _ (List.getElem_mem hy')
theorem okD.set {G : Gr} (h : okD G) (y : Int) {l : List Cel} (ho : okG (setG G y l)) (hl : l.length = G.w.toNat) : okD (setG G y l) :=
 ⟨ho, by show (G.lines.set y.toNat l).length = _; rw [List.length_set]; exact h.len, fun m hm => by
  rcases List.mem_or_eq_of_mem_set hm with hm | rfl
  ·exact h.wid m hm
  ·exact hl⟩
def okB (l : List Cel) : Prop := okC l ∧ l ≠ [] ∧ l.length ≤ 60
structure Okt (q : Bool) (W H : Int) (T : TS) : Prop where
 lim : Lim W H T
 g : okD T.grid
 o : okD T.other
 b : ∀ l ∈ T.back, okB l
 cs : styleB T.cursor.sty = true
 cl : q = true → T.cursor.late = true → T.cursor.x = W - 1
 ss : styleB T.saved.sty = true
 sl : T.saved.late = true → T.saved.x = W - 1
 ay : styleB T.away.sty = true
 al : T.away.late = true → T.away.x = W - 1
 ti : T.title.size ≤ 40
section
variable {q : Bool} {W H : Int} {T : TS}
theorem Okt.cur (h : Okt q W H T) {p : Bool} {c : Cur} (hc : (0 ≤ c.x ∧ c.x < W) ∧ 0 ≤ c.y ∧ c.y < H) (hs : styleB c.sty = true) (hl : p = true → c.late = true → c.x = W - 1) : Okt p W H { T with cursor := c } := { h with lim := h.lim.cursor hc, cs := hs, cl := hl }
theorem Okt.grid (h : Okt q W H T) {G : Gr} (hG : G.w = T.grid.w ∧ G.h = T.grid.h) (hd : okD G) : Okt q W H { T with grid := G } := { h with lim := h.lim.grid hG, g := hd }
theorem Okt.flags (h : Okt q W H T) {T' : TS} (hl : Lim W H T') (e1 : T'.grid = T.grid) (e2 : T'.other = T.other) (e3 : T'.cursor = T.cursor) (e4 : T'.saved = T.saved) (e5 : T'.away = T.away) (e8 : T'.back = T.back) (e9 : T'.title = T.title) : Okt q W H T' :=
 ⟨hl, by rw [e1]; exact h.g, by rw [e2]; exact h.o, by rw [e8]; exact h.b, by rw [e3]; exact h.cs, by rw [e3]; exact h.cl, by rw [e4]; exact h.ss, by rw [e4]; exact h.sl, by rw [e5]; exact h.ay, by rw [e5]; exact h.al, by rw [e9]; exact h.ti⟩
end
end Go.Proofs.YtclnfbmmaofpjaaDoor.X
namespace Go.Proofs.YtclnfbmmaofpjaaDoor.X
open Go Go.RowKit Go.Proofs.YtclnfbmmaofpjaaDoor
def byts (l : List Int) : Prop := ∀ x ∈ l, 0 ≤ x ∧ x ≤ 255
def putF : Nat → Nat → List Int
 | 0, n => [(n : Int)]
 | f + 1, n => if n < 128 then [(n : Int)] else ((n % 128 + 128 : Nat) : Int) :: putF f (n / 128)
abbrev putN (n : Nat) : List Int := putF 9 n
def takeF : Nat → Nat → List Int → Nat × Nat
 | _, _, [] => (0, 0)
 | i, n, c :: r =>
  if (i = 9 ∧ 1 < c) ∨ 9 < i then (0, 0)
  else if c < 128 then (if c = 0 ∧ 0 < i then (0, 0) else (n + c.toNat % 128 * 128 ^ i, i + 1))
  else takeF (i + 1) (n + c.toNat % 128 * 128 ^ i) r
abbrev takeN (l : List Int) : Nat × Nat := takeF 0 0 l
theorem putF_small {f n : Nat} (h : n < 128) : putF f n = [(n : Int)] := by
 cases f with
 | zero => rfl
 | succ f => rw [putF, if_pos h]
theorem putF_big {f n : Nat} (h : ¬ n < 128) : putF (f + 1) n = ((n % 128 + 128 : Nat) : Int) :: putF f (n / 128) := by rw [putF, if_neg h]
theorem mul_pow1 (m i : Nat) : m * 128 ^ (i + 1) = 128 * m * 128 ^ i := by
 rw [Nat.pow_succ, Nat.mul_comm 128 m, Nat.mul_assoc, Nat.mul_comm (128 ^ i)]
theorem takeF_some : ∀ (ys : List Int) (i acc n k : Nat), byts ys → i ≤ 9 → takeF i acc ys = (n, k) → k = 0 ∨
  ∃ m zs, n = acc + m * 128 ^ i ∧ ys = putF (9 - i) m ++ zs ∧ k = i + (putF (9 - i) m).length ∧ (0 < i → 0 < m) ∧ m < 2 ^ (64 - 7 * i) := by
 intro ys
 induction ys with
 | nil =>
  intro i acc n k _ _ h
  rw [takeF] at h
  exact .inl (Prod.mk.inj h).2.symm
 | cons c r ih =>
  intro i acc n k hb hi h
  have hc := hb c (List.mem_cons_self ..)
  rw [takeF] at h
  split at h
  ·exact .inl (Prod.mk.inj h).2.symm
  ·rename_i h1
   split at h
   ·rename_i h2
    split at h
    ·exact .inl (Prod.mk.inj h).2.symm
    ·rename_i h3
     obtain ⟨rfl, rfl⟩ := Prod.mk.inj h
     have hs : c.toNat < 128 := by omega
     refine .inr ⟨c.toNat, r, by rw [Nat.mod_eq_of_lt hs], ?_, ?_, fun h0 => by omega, ?_⟩
     ·rw [putF_small hs]; simp; omega
     ·rw [putF_small hs]; rfl
     ·rcases Nat.lt_or_ge i 9 with h9 | h9
      ·have : 2 ^ 8 ≤ 2 ^ (64 - 7 * i) := Nat.pow_le_pow_right (by decide) (by omega)
       omega
      ·obtain rfl : i = 9 := by omega
       show c.toNat < 2
       omega
   ·rename_i h2
    have h9 : i + 1 ≤ 9 := by omega
    rcases ih (i + 1) _ n k (fun x hx => hb x (List.mem_cons_of_mem _ hx)) h9 h with h0 | ⟨m, zs, e1, e2, e3, e4, e5⟩
    ·exact .inl h0
    ·have h4 := e4 (Nat.succ_pos i)
     have hm : ¬ c.toNat % 128 + 128 * m < 128 := by omega
     have hf : 9 - i = (9 - (i + 1)) + 1 := by omega
     have hd : (c.toNat % 128 + 128 * m) / 128 = m := by omega
     have hr : (c.toNat % 128 + 128 * m) % 128 + 128 = c.toNat := by omega
     refine .inr ⟨c.toNat % 128 + 128 * m, zs, ?_, ?_, ?_, fun _ => by omega, ?_⟩
     ·rw [e1, mul_pow1, Nat.add_mul]; omega
     ·rw [hf, putF_big hm, hd, hr, e2]
      simp; omega
     ·rw [hf, putF_big hm, hd, e3, List.length_cons]; omega
     ·have : 2 ^ (64 - 7 * i) = 128 * 2 ^ (64 - 7 * (i + 1)) := by
       rw [show 64 - 7 * i = (64 - 7 * (i + 1)) + 7 by omega, Nat.pow_add]; omega
      rw [this]; omega
theorem takeN_some {ys : List Int} {n k : Nat} (hb : byts ys) (h : takeN ys = (n, k)) : k = 0 ∨ (ys = putN n ++ ys.drop k ∧ k ≤ ys.length ∧ n < 2 ^ 64) := by
 rcases takeF_some ys 0 0 n k hb (by decide) h with h0 | ⟨m, zs, e1, e2, e3, _, e5⟩
 ·exact .inl h0
 ·right
  have e : n = m := by rw [e1]; simp
  subst e
  rw [Nat.zero_add] at e3
  refine ⟨?_, ?_, e5⟩
  ·rw [e3]
   conv => rhs; rw [e2]
   rw [List.drop_left' rfl]
   exact e2
  ·rw [e3, e2, List.length_append]; exact Nat.le_add_right _ _
theorem takeN_le {ys : List Int} (hb : byts ys) : (takeN ys).2 ≤ ys.length ∧ (takeN ys).1 < 2 ^ 64 := by
 rcases takeN_some hb (rfl : takeN ys = ((takeN ys).1, (takeN ys).2)) with h | h
 ·refine ⟨by rw [h]; exact Nat.zero_le _, ?_⟩
  have : ∀ (ys : List Int) (i acc : Nat), (takeF i acc ys).2 = 0 → (takeF i acc ys).1 = 0 := by
   intro ys
   induction ys with
   | nil => intro i acc _; rfl
   | cons c r ih =>
    intro i acc h
    rw [takeF] at h ⊢
    split
    ·rfl
    ·rename_i h1
     rw [if_neg h1] at h
     split
     ·rename_i h2
      rw [if_pos h2] at h
      split
      ·rfl
      ·rename_i h3
       rw [if_neg h3] at h
       cases h
     ·rename_i h2
      rw [if_neg h2] at h
      exact ih _ _ h
  rw [this ys 0 0 h]; decide
 ·exact h.2
abbrev RS := Option (List Int)
def numR (lim : Int) : RS → Int × RS
 | none => (0, none)
 | some ys => if (takeN ys).2 = 0 ∨ 9223372036854775807 < (takeN ys).1 ∨ (0 < lim ∧ lim ≤ ((takeN ys).1 : Int)) then (0, none) else (((takeN ys).1 : Int), some (ys.drop (takeN ys).2))
def textR (most : Int) (s : RS) : ByteArray × RS :=
 match numR (if 0 < most then most + 1 else 1) s with
 | (_, none) => (E0, none)
 | (n, some ys) => if (ys.length : Int) < n then (E0, none) else (bytesOf (ys.take n.toNat), some (ys.drop n.toNat))
def bytI (s : ByteArray) : List Int := s.data.toList.map fun b => (b.toNat : Int)
def strI (s : ByteArray) : List Int := putN s.size ++ bytI s
theorem bytI_len (s : ByteArray) : (bytI s).length = s.size := by simp [bytI]
theorem bytI_byts (s : ByteArray) : byts (bytI s) := fun x hx => by
 obtain ⟨b, _, rfl⟩ := List.mem_map.1 hx
 have := b.toNat_lt
 omega
theorem bytesOf_data (l : List Int) : (bytesOf l).data.toList = l.map fun n => UInt8.ofNat n.toNat := by
 have h : ∀ (l : List Int) (r : ByteArray), (l.foldl (fun r n => r.push (UInt8.ofNat n.toNat)) r).data.toList = r.data.toList ++ l.map fun n => UInt8.ofNat n.toNat := by
  intro l
  induction l with
  | nil => intro r; simp
  | cons c l ih => intro r; rw [List.foldl_cons, ih]; simp [ByteArray.push]
 have := h l ByteArray.empty
 simpa [bytesOf] using this
theorem bytI_of {l : List Int} (h : byts l) : bytI (bytesOf l) = l := by
 unfold bytI
 rw [bytesOf_data, List.map_map]
 refine (List.map_congr_left fun x hx => ?_).trans (List.map_id _)
 have := h x hx
 show (((UInt8.ofNat x.toNat).toNat : Nat) : Int) = x
 rw [UInt8.toNat_ofNat_of_lt' (show x.toNat < UInt8.size by show x.toNat < 256; omega)]
 omega
theorem bytesOf_size (l : List Int) : (bytesOf l).size = l.length := by
 have := congrArg List.length (bytesOf_data l)
 simpa using this
theorem byts_drop {l : List Int} (h : byts l) (k : Nat) : byts (l.drop k) := fun x hx => h x (List.mem_of_mem_drop hx)
theorem byts_take {l : List Int} (h : byts l) (k : Nat) : byts (l.take k) := fun x hx => h x (List.mem_of_mem_take hx)
def rsB (s : RS) : Prop := ∀ ys, s = some ys → byts ys
theorem numR_some {lim : Int} {s : RS} {n : Int} {zs : List Int} (hs : rsB s) (h : numR lim s = (n, some zs)) : ∃ ys, s = some ys ∧ ys = putN n.toNat ++ zs ∧ 0 ≤ n ∧ n ≤ 9223372036854775807 ∧ (0 < lim → n < lim) := by
 cases s with
 | none => cases h
 | some ys =>
  refine ⟨ys, rfl, ?_⟩
  rw [numR] at h
  split at h
  ·cases h
  ·rename_i h0
   obtain ⟨rfl, e⟩ := Prod.mk.inj h
   obtain rfl := Option.some.inj e
   rcases takeN_some (hs ys rfl) (rfl : takeN ys = ((takeN ys).1, (takeN ys).2)) with h1 | ⟨h1, h2, h3⟩
   ·exact absurd (.inl h1) h0
   ·exact ⟨by rw [Int.toNat_natCast]; exact h1, by omega, by omega, fun hl => by omega⟩
theorem numR_byts {lim : Int} {s : RS} (hs : rsB s) : rsB (numR lim s).2 := by
 cases s with
 | none => exact hs
 | some ys =>
  rw [numR]
  split
  ·intro ys h; cases h
  ·intro zs h
   obtain rfl := Option.some.inj h
   exact byts_drop (hs ys rfl) _
theorem numR_bd {lim : Int} {s : RS} : 0 ≤ (numR lim s).1 ∧ (numR lim s).1 ≤ 9223372036854775807 ∧ (0 < lim → (numR lim s).1 < lim) := by
 cases s with
 | none => exact ⟨Int.le_refl 0, (by decide : (0 : Int) ≤ 9223372036854775807), fun h => h⟩
 | some ys =>
  rw [numR]
  split
  ·exact ⟨Int.le_refl 0, (by decide : (0 : Int) ≤ 9223372036854775807), fun h => h⟩
  ·exact ⟨by omega, by omega, fun h => by omega⟩
theorem textR_some {most : Int} {s : RS} {x : ByteArray} {zs : List Int} (hs : rsB s) (h : textR most s = (x, some zs)) (h0 : 0 < most) : ∃ ys, s = some ys ∧ ys = strI x ++ zs ∧ (x.size : Int) ≤ most := by
 unfold textR at h
 rw [if_pos h0] at h
 split at h
 ·cases h
 ·rename_i n ys e
  split at h
  ·cases h
  ·rename_i h1
   obtain ⟨rfl, e2⟩ := Prod.mk.inj h
   obtain rfl := Option.some.inj e2
   obtain ⟨us, rfl, e3, h3, h4, h5⟩ := numR_some hs e
   have hb : byts ys := by
    have := hs us rfl
    rw [e3] at this
    exact fun x hx => this x (List.mem_append_right _ hx)
   have hz : (bytesOf (ys.take n.toNat)).size = n.toNat := by rw [bytesOf_size, List.length_take]; omega
   refine ⟨us, rfl, ?_, by rw [hz]; have := h5 (by omega); omega⟩
   unfold strI
   rw [hz, bytI_of (byts_take hb _), List.append_assoc, List.take_append_drop]
   exact e3
theorem textR_byts {most : Int} {s : RS} (hs : rsB s) : rsB (textR most s).2 := by
 unfold textR
 split
 ·intro ys h; cases h
 ·rename_i n ys e
  split
  ·intro ys h; cases h
  ·intro zs h
   obtain rfl := Option.some.inj h
   have := numR_byts (lim := if 0 < most then most + 1 else 1) hs
   rw [e] at this
   exact byts_drop (this ys rfl) _
end Go.Proofs.YtclnfbmmaofpjaaDoor.X
namespace Go.Proofs.YtclnfbmmaofpjaaDoor.X
open Go Go.RowKit Go.Proofs.YtclnfbmmaofpjaaDoor
theorem or64 {a b k : Nat} (ha : a < 2 ^ k) (hb : ∃ c, b = c * 2 ^ k) (hs : a + b < 2 ^ 64) : bitsv .or .u64 (a : Int) (b : Int) = ((a + b : Nat) : Int) := by
 obtain ⟨c, rfl⟩ := hb
 have e : (BitVec.ofInt 64 (a : Int) ||| BitVec.ofInt 64 ((c * 2 ^ k : Nat) : Int)).toNat = a + c * 2 ^ k := by
  rw [BitVec.ofInt_natCast, BitVec.ofInt_natCast, BitVec.toNat_or, BitVec.toNat_ofNat, BitVec.toNat_ofNat, Nat.mod_eq_of_lt (by omega), Nat.mod_eq_of_lt (by omega), Nat.or_comm, ← Nat.shiftLeft_eq, ← Nat.shiftLeft_add_eq_or_of_lt ha, Nat.shiftLeft_eq]
  omega
 show IntKind.wrap .u64 ((BitVec.ofInt 64 (a : Int) ||| BitVec.ofInt 64 ((c * 2 ^ k : Nat) : Int)).toNat : Int) = _
 rw [e]
 exact wrap_in ⟨by omega, by omega⟩
theorem wrap64 {n : Nat} (h : n < 2 ^ 64) : IntKind.wrap .u64 (n : Int) = (n : Int) := wrap_in ⟨by omega, by omega⟩
theorem pow128 (i : Nat) : 2 ^ (7 * i) = 128 ^ i := by rw [Nat.pow_mul]
theorem pow128_le {i : Nat} (h : i ≤ 9) : 128 ^ i ≤ 128 ^ 9 := Nat.pow_le_pow_right (by decide) h
abbrev orT (n c : Int) (i : Nat) : Int := bitsv .or .u64 n (IntKind.wrap .u64 (IntKind.wrap .u64 (bitsv .and .u8 c 127) * 2 ^ min (7 * ((i : Nat) : Int) : Int).toNat (IntKind.bits .u64)))
theorem and127 : ∀ c, c < 256 → bitsv .and .u8 (c : Nat) 127 = ((c % 128 : Nat) : Int) := by decide +kernel
theorem orT_eq {n i : Nat} {c : Int} (hc : 0 ≤ c ∧ c ≤ 255) (hi : i ≤ 9) (h9 : i = 9 → c ≤ 1) (hn : n < 128 ^ i) : orT (n : Int) c i = ((n + c.toNat % 128 * 128 ^ i : Nat) : Int) := by
 have e1 : bitsv .and .u8 c 127 = ((c.toNat % 128 : Nat) : Int) := by
  have := and127 c.toNat (by omega)
  rwa [Int.toNat_of_nonneg hc.1] at this
 have hp := pow128_le hi
 have hb : c.toNat % 128 * 128 ^ i ≤ 128 ^ 9 := by
  rcases Nat.lt_or_ge i 9 with h | h
  ·have h8 : 128 ^ i ≤ 128 ^ 8 := Nat.pow_le_pow_right (by decide) (by omega)
   calc c.toNat % 128 * 128 ^ i ≤ 128 * 128 ^ 8 := Nat.mul_le_mul (by omega) h8
    _ = 128 ^ 9 := by decide
  ·have := h9 (by omega)
   calc c.toNat % 128 * 128 ^ i ≤ 1 * 128 ^ 9 := Nat.mul_le_mul (by omega) hp
    _ = 128 ^ 9 := by decide
 have e2 : (2 : Int) ^ min (7 * ((i : Nat) : Int) : Int).toNat (IntKind.bits .u64) = ((128 ^ i : Nat) : Int) := by
  rw [show min (7 * ((i : Nat) : Int) : Int).toNat (IntKind.bits .u64) = 7 * i by show min _ 64 = _; omega, ← pow128]
  norm_cast
 have h64 : (2 : Nat) ^ 64 = 2 * 128 ^ 9 := by decide
 unfold orT
 rw [e1, wrap64 (by omega), e2, ← Int.natCast_mul, wrap64 (by omega)]
 refine or64 (k := 7 * i) (by rw [pow128]; exact hn) ⟨c.toNat % 128, by rw [pow128]⟩ (by omega)
def takeG : Nat → Int → List Int → Int × Int
 | _, _, [] => (0, 0)
 | i, n, c :: r =>
  if (i = 9 ∧ 1 < c) ∨ 9 < i then (0, 0)
  else if c < 128 then (if c = 0 ∧ 0 < i then (0, 0) else (orT n c i, ((i : Nat) : Int) + 1))
  else takeG (i + 1) (orT n c i) r
theorem takeG_eq : ∀ (ys : List Int) (i n : Nat), byts ys → n < 128 ^ i → takeG i (n : Int) ys = (((takeF i n ys).1 : Int), ((takeF i n ys).2 : Int)) := by
 intro ys
 induction ys with
 | nil => intro i n _ _; rfl
 | cons c r ih =>
  intro i n hb hn
  have hc := hb c (List.mem_cons_self ..)
  rw [takeG, takeF]
  by_cases h1 : (i = 9 ∧ 1 < c) ∨ 9 < i
  ·rw [if_pos h1, if_pos h1]; rfl
  ·rw [if_neg h1, if_neg h1, orT_eq hc (by omega) (by omega) hn]
   by_cases h2 : c < 128
   ·rw [if_pos h2, if_pos h2]
    by_cases h3 : c = 0 ∧ 0 < i
    ·rw [if_pos h3, if_pos h3]; rfl
    ·rw [if_neg h3, if_neg h3]; simp
   ·rw [if_neg h2, if_neg h2]
    refine ih (i + 1) _ (fun x hx => hb x (List.mem_cons_of_mem _ hx)) ?_
    have : c.toNat % 128 * 128 ^ i ≤ 127 * 128 ^ i := Nat.mul_le_mul_right _ (by omega)
    rw [Nat.pow_succ]; omega
theorem takeG_N {ys : List Int} (h : byts ys) : takeG 0 0 ys = (((takeN ys).1 : Int), ((takeN ys).2 : Int)) := takeG_eq ys 0 0 h (by decide)
abbrev shr7 (n : Int) : Int := Int.fdiv n (2 ^ min (7 : Int).toNat (IntKind.bits .u64))
abbrev low7 (n : Int) : Int := bitsv .or .u8 (IntKind.wrap .u8 n) 128
theorem shr7_eq (n : Nat) : shr7 (n : Int) = ((n / 128 : Nat) : Int) := by
 show Int.fdiv (n : Int) 128 = _
 rw [Int.fdiv_eq_ediv_of_nonneg _ (by decide)]; omega
theorem or128 : ∀ c, c < 256 → bitsv .or .u8 (c : Nat) 128 = ((c % 128 + 128 : Nat) : Int) := by decide +kernel
theorem wrap8 (n : Nat) : IntKind.wrap .u8 (n : Int) = ((n % 256 : Nat) : Int) := by
 simp [IntKind.wrap, IntKind.bits, IntKind.signed]
theorem low7_eq (n : Nat) : low7 (n : Int) = ((n % 128 + 128 : Nat) : Int) := by
 unfold low7
 rw [wrap8, or128 _ (Nat.mod_lt _ (by decide)), Nat.mod_mod_of_dvd _ (by decide)]
def flagsF (f : Nat → Bool) : Nat → Nat
 | 0 => 0
 | k + 1 => flagsF f k + if f k = true then 2 ^ k else 0
def lb (l : List Bool) (i : Nat) : Bool := l.getD i false
def flagsL (l : List Bool) : Nat := flagsF (lb l) l.length
theorem flagsF_lt (f : Nat → Bool) : ∀ k, flagsF f k < 2 ^ k
 | 0 => Nat.one_pos
 | k + 1 => by
  have := flagsF_lt f k
  rw [flagsF, Nat.pow_succ]
  split <;> omega
theorem flagsF_congr {f g : Nat → Bool} : ∀ {k : Nat}, (∀ i, i < k → f i = g i) → flagsF f k = flagsF g k
 | 0, _ => rfl
 | k + 1, h => by rw [flagsF, flagsF, h k (Nat.lt_succ_self k), flagsF_congr fun i hi => h i (Nat.lt_succ_of_lt hi)]
abbrev orF (n : Int) (i : Nat) : Int := bitsv .or .u64 n (IntKind.wrap .u64 (1 * 2 ^ min ((i : Nat) : Int).toNat (IntKind.bits .u64)))
theorem orF_eq {n i : Nat} (hi : i < 64) (hn : n < 2 ^ i) : orF (n : Int) i = ((n + 2 ^ i : Nat) : Int) := by
 have hp : 2 ^ i ≤ 2 ^ 63 := Nat.pow_le_pow_right (by decide) (by omega)
 have e2 : (2 : Int) ^ min ((i : Nat) : Int).toNat (IntKind.bits .u64) = ((2 ^ i : Nat) : Int) := by
  rw [show min ((i : Nat) : Int).toNat (IntKind.bits .u64) = i by show min _ 64 = _; omega]
  norm_cast
 unfold orF
 rw [e2, Int.one_mul, wrap64 (by omega)]
 exact or64 (k := i) hn ⟨1, by rw [Nat.one_mul]⟩ (by omega)
def bitB (n i : Nat) : Bool := n / 2 ^ i % 2 == 1
theorem flagsF_bit (n : Nat) : ∀ k, flagsF (bitB n) k = n % 2 ^ k
 | 0 => by rw [flagsF]; omega
 | k + 1 => by
  rw [flagsF, flagsF_bit n k, Nat.pow_succ, Nat.mod_mul]
  unfold bitB
  have := Nat.mod_two_eq_zero_or_one (n / 2 ^ k)
  rcases this with h | h <;> rw [h] <;> simp
theorem and1_eq (k : IntKind) (hk : k = .i64 ∨ k = .u64) (n : Nat) (h : n < 2 ^ 63) : bitsv .and k (n : Int) 1 = ((n % 2 : Nat) : Int) := by
 have e : (BitVec.ofInt 64 (n : Int) &&& BitVec.ofInt 64 1).toNat = n % 2 := by
  rw [BitVec.ofInt_natCast, BitVec.toNat_and, BitVec.toNat_ofNat, Nat.mod_eq_of_lt (by omega)]
  exact Nat.and_one_is_mod n
 rcases hk with rfl | rfl
 ·show IntKind.wrap .i64 ((BitVec.ofInt 64 (n : Int) &&& BitVec.ofInt 64 1).toNat : Int) = _
  rw [e]
  exact wrap_in ⟨by omega, by omega⟩
 ·show IntKind.wrap .u64 ((BitVec.ofInt 64 (n : Int) &&& BitVec.ofInt 64 1).toNat : Int) = _
  rw [e]
  exact wrap_in ⟨by omega, by omega⟩
theorem bit_eq (k : IntKind) (hk : k = .i64 ∨ k = .u64) {n i : Nat} (h : n < 2 ^ 63) (hi : i < 64) : ((bitsv .and k (Int.fdiv (n : Int) (2 ^ min ((i : Nat) : Int).toNat (IntKind.bits k))) 1 : Int) == 1) = bitB n i := by
 have e : Int.fdiv (n : Int) (2 ^ min ((i : Nat) : Int).toNat (IntKind.bits k)) = ((n / 2 ^ i : Nat) : Int) := by
  have e2 : (2 : Int) ^ min ((i : Nat) : Int).toNat (IntKind.bits k) = ((2 ^ i : Nat) : Int) := by
   rw [show min ((i : Nat) : Int).toNat (IntKind.bits k) = i by rcases hk with rfl | rfl <;> (show min _ 64 = _; omega)]
   norm_cast
  rw [e2, Int.fdiv_eq_ediv_of_nonneg _ (Int.natCast_nonneg _)]
  norm_cast
 rw [e, and1_eq k hk _ (Nat.lt_of_le_of_lt (Nat.div_le_self _ _) h)]
 unfold bitB
 have := Nat.mod_two_eq_zero_or_one (n / 2 ^ i)
 rcases this with h | h <;> rw [h] <;> rfl
def bitsS (s : Sty) : Nat := s.fore.toNat + 16 * s.back.toNat + (if s.bold = true then 256 else 0) + (if s.under = true then 512 else 0) + if s.turned = true then 1024 else 0
def styOf (n : Nat) : Sty := ⟨n / 256 % 2 == 1, n / 512 % 2 == 1, n / 1024 % 2 == 1, ((n % 16 : Nat) : Int), ((n / 16 % 16 : Nat) : Int)⟩
theorem bitsS_styOf : ∀ n, n < 2048 → bitsS (styOf n) = n := by decide +kernel
theorem bitsS_lt {s : Sty} (h : styleB s = true) : bitsS s < 2048 := by
 simp only [styleB, Bool.and_eq_true, decide_eq_true_eq] at h
 unfold bitsS
 split <;> split <;> split <;> omega
def styR (s : RS) : Sty × Bool × RS := if ((numR 2048 s).2.isSome && styleB (styOf (numR 2048 s).1.toNat)) = true then (styOf (numR 2048 s).1.toNat, true, (numR 2048 s).2) else (sty0, false, (numR 2048 s).2)
theorem styR_some {s : RS} {x : Sty} {s' : RS} (hs : rsB s) (h : styR s = (x, true, s')) : ∃ ys zs, s = some ys ∧ s' = some zs ∧ ys = putN (bitsS x) ++ zs ∧ styleB x = true := by
 unfold styR at h
 split at h
 ·rename_i h1
  simp only [Prod.mk.injEq, true_and] at h
  obtain ⟨rfl, rfl⟩ := h
  rw [Bool.and_eq_true] at h1
  obtain ⟨h1, h2⟩ := h1
  obtain ⟨zs, hz⟩ := Option.isSome_iff_exists.1 h1
  obtain ⟨ys, e1, e2, e3, e4, e5⟩ := numR_some hs (Prod.ext rfl hz)
  have h7 : (numR 2048 s).1.toNat < 2048 := by have h8 : (numR 2048 s).1 < 2048 := e5 (by decide); omega
  exact ⟨ys, zs, e1, hz, by rw [bitsS_styOf _ h7]; exact e2, h2⟩
 ·simp at h
theorem styR_byts {s : RS} (hs : rsB s) : rsB (styR s).2.2 := by
 unfold styR
 split <;> exact numR_byts hs
end Go.Proofs.YtclnfbmmaofpjaaDoor.X
namespace Go.Proofs.YtclnfbmmaofpjaaDoor.X
open Go Go.RowKit Go.Proofs.YtclnfbmmaofpjaaDoor
def cellI (n : Nat) (c : Cel) : List Int := putN n ++ (putN c.rune.toNat ++ putN (bitsS c.sty))
def consR (c : Cel) : List (Nat × Cel) → List (Nat × Cel)
 | [] => [(1, c)]
 | (n, d) :: t => if d = c then (n + 1, d) :: t else (1, c) :: (n, d) :: t
def runsL : List Cel → List (Nat × Cel)
 | [] => []
 | c :: r => consR c (runsL r)
def lineI (l : List Cel) : List Int := (runsL l).flatMap fun p => cellI p.1 p.2
theorem consR_ne (c : Cel) (t : List (Nat × Cel)) : consR c t ≠ [] := by
 unfold consR
 split
 ·exact List.cons_ne_nil _ _
 ·split <;> exact List.cons_ne_nil _ _
theorem runsL_ne {l : List Cel} (h : l ≠ []) : runsL l ≠ [] := by
 cases l with
 | nil => exact absurd rfl h
 | cons c r => exact consR_ne _ _
theorem runsL_head : ∀ {l : List Cel} {n : Nat} {d : Cel} {t : List (Nat × Cel)}, runsL l = (n, d) :: t → l.head? = some d
 | [], _, _, _, h => by cases h
 | c :: r, n, d, t, h => by
  unfold runsL consR at h
  split at h
  ·simp only [List.cons.injEq, Prod.mk.injEq] at h
   rw [← h.1.2]; rfl
  ·split at h
   ·rename_i e
    simp only [List.cons.injEq, Prod.mk.injEq] at h
    rw [← h.1.2, e]; rfl
   ·simp only [List.cons.injEq, Prod.mk.injEq] at h
    rw [← h.1.2]; rfl
theorem runsL_rep (c : Cel) (r : List Cel) (h : r.head? ≠ some c) : ∀ n, runsL (List.replicate (n + 1) c ++ r) = (n + 1, c) :: runsL r
 | 0 => by
  show consR c (runsL r) = _
  unfold consR
  split
  ·rename_i e; rw [e]
  ·rename_i n d t e
   rw [if_neg (fun hd => h (by rw [runsL_head e, hd])), e]
 | n + 1 => by
  rw [List.replicate_succ]
  show consR c (runsL (List.replicate (n + 1) c ++ r)) = _
  rw [runsL_rep c r h n, consR, if_pos rfl]
theorem lineI_rep {c : Cel} {r : List Cel} (h : r.head? ≠ some c) (n : Nat) : lineI (List.replicate (n + 1) c ++ r) = cellI (n + 1) c ++ lineI r := by
 unfold lineI
 rw [runsL_rep c r h n]; rfl
theorem runsL_snoc {c : Cel} {n : Nat} : ∀ {l : List Cel}, l.getLast? ≠ some c → runsL (l ++ List.replicate (n + 1) c) = runsL l ++ [(n + 1, c)]
 | [], _ => by
  have := runsL_rep c [] (by simp) n
  rw [List.append_nil] at this
  exact this
 | d :: r, h => by
  show consR d (runsL (r ++ List.replicate (n + 1) c)) = consR d (runsL r) ++ _
  cases r with
  | nil =>
   have hd : ¬ c = d := fun e => h (by rw [e]; rfl)
   have := runsL_rep c [] (by simp) n
   rw [List.append_nil] at this
   rw [List.nil_append, this]
   show (if c = d then _ else _) = _
   rw [if_neg hd]; rfl
  | cons e r =>
   have h2 : (e :: r).getLast? ≠ some c := by rw [List.getLast?_cons_cons] at h; exact h
   rw [runsL_snoc h2]
   have h3 := runsL_ne (List.cons_ne_nil e r)
   match hq : runsL (e :: r), h3 with
   | (k, q) :: t, _ =>
    show (if q = d then (k + 1, q) :: (t ++ _) else (1, d) :: (k, q) :: (t ++ _)) = (if q = d then (k + 1, q) :: t else (1, d) :: (k, q) :: t) ++ _
    split <;> rfl
theorem lineI_snoc {c : Cel} {n : Nat} {l : List Cel} (h : l.getLast? ≠ some c) (hn : 0 < n) : lineI (l ++ List.replicate n c) = lineI l ++ cellI n c := by
 obtain ⟨n, rfl⟩ : ∃ m, n = m + 1 := ⟨n - 1, by omega⟩
 unfold lineI
 rw [runsL_snoc h, List.flatMap_append]; simp
def cOk (c : Cel) : Prop := styleB c.sty = true ∧ 0 ≤ c.rune ∧ c.rune < 1114112
def lineS (W : Int) (out : List Cel) (s : RS) : Option (List Cel) × RS :=
 if (styR (numR 1114112 (numR (W - (out.length : Int) + 1) s).2).2).2.1 = false ∨ (numR (W - (out.length : Int) + 1) s).1 = 0 ∨ out.getLast? = some ⟨(numR 1114112 (numR (W - (out.length : Int) + 1) s).2).1, (styR (numR 1114112 (numR (W - (out.length : Int) + 1) s).2).2).1⟩ then (none, (styR (numR 1114112 (numR (W - (out.length : Int) + 1) s).2).2).2.2)
 else (some (out ++ List.replicate (numR (W - (out.length : Int) + 1) s).1.toNat ⟨(numR 1114112 (numR (W - (out.length : Int) + 1) s).2).1, (styR (numR 1114112 (numR (W - (out.length : Int) + 1) s).2).2).1⟩), (styR (numR 1114112 (numR (W - (out.length : Int) + 1) s).2).2).2.2)
theorem lineS_eq {W : Int} {out : List Cel} {s s1 s2 s3 : RS} {n r : Int} {t : Sty} {ok : Bool} (h1 : numR (W - (out.length : Int) + 1) s = (n, s1)) (h2 : numR 1114112 s1 = (r, s2)) (h3 : styR s2 = (t, ok, s3)) :
  lineS W out s = if ok = false ∨ n = 0 ∨ out.getLast? = some ⟨r, t⟩ then (none, s3) else (some (out ++ List.replicate n.toNat ⟨r, t⟩), s3) := by
 unfold lineS
 rw [h1]
 dsimp only
 rw [h2]
 dsimp only
 rw [h3]
def lineF : Nat → Int → List Cel → RS → Option (List Cel) × RS
 | 0, _, out, s => (some out, s)
 | f + 1, W, out, s => if W ≤ (out.length : Int) then (some out, s) else match lineS W out s with
  | (none, s') => (none, s')
  | (some o, s') => lineF f W o s'
def lineR (W : Int) (s : RS) : List Cel × Bool × RS := match lineF W.toNat W [] s with
 | (none, s') => ([], false, s')
 | (some o, s') => if wholeB o = true then (o, true, s') else ([], false, s')
theorem lineF_done {f : Nat} {W : Int} {out : List Cel} {s : RS} (h : W ≤ (out.length : Int)) : lineF f W out s = (some out, s) := by
 cases f with
 | zero => rfl
 | succ f => rw [lineF, if_pos h]
theorem lineF_bad {f : Nat} {W : Int} {out : List Cel} {s s' : RS} (h : ¬ W ≤ (out.length : Int)) (hf : W.toNat - out.length ≤ f) (hs : lineS W out s = (none, s')) : lineF f W out s = (none, s') := by
 cases f with
 | zero => omega
 | succ f => rw [lineF, if_neg h, hs]
theorem lineF_go {f : Nat} {W : Int} {out o : List Cel} {s s' : RS} (h : ¬ W ≤ (out.length : Int)) (hf : W.toNat - out.length ≤ f) (hs : lineS W out s = (some o, s')) : ∃ f', f = f' + 1 ∧ lineF f W out s = lineF f' W o s' := by
 cases f with
 | zero => omega
 | succ f => exact ⟨f, rfl, by rw [lineF, if_neg h, hs]⟩
theorem lineS_byts {W : Int} {out : List Cel} {s : RS} (hs : rsB s) : rsB (lineS W out s).2 := by
 unfold lineS
 split <;> exact styR_byts (numR_byts (numR_byts hs))
theorem lineF_byts : ∀ (f : Nat) {W : Int} {out : List Cel} {s : RS}, rsB s → rsB (lineF f W out s).2
 | 0, _, _, _, h => h
 | f + 1, W, out, s, h => by
  rw [lineF]
  split
  ·exact h
  ·have := lineS_byts (W := W) (out := out) h
   split
   ·rename_i e; rw [e] at this; exact this
   ·rename_i e; rw [e] at this; exact lineF_byts f this
theorem lineR_byts {W : Int} {s : RS} (hs : rsB s) : rsB (lineR W s).2.2 := by
 have := lineF_byts W.toNat (W := W) (out := []) hs
 unfold lineR
 split
 ·rename_i e; rw [e] at this; exact this
 ·rename_i e
  rw [e] at this
  split <;> exact this
theorem lineF_some : ∀ (f : Nat) (W : Int) (out o : List Cel) (ys : List Int) (s' : RS), byts ys → (out.length : Int) ≤ W → (∀ c ∈ out, cOk c) → W.toNat - out.length ≤ f → lineF f W out (some ys) = (some o, s') →
  ∃ zs, s' = some zs ∧ lineI out ++ ys = lineI o ++ zs ∧ (o.length : Int) = W ∧ ∀ c ∈ o, cOk c := by
 intro f
 induction f with
 | zero =>
  intro W out o ys s' hb hl hc hf h
  simp only [lineF, Prod.mk.injEq, Option.some.injEq] at h
  obtain ⟨rfl, rfl⟩ := h
  exact ⟨ys, rfl, rfl, by omega, hc⟩
 | succ f ih =>
  intro W out o ys s' hb hl hc hf h
  rw [lineF] at h
  split at h
  ·simp only [Prod.mk.injEq, Option.some.injEq] at h
   obtain ⟨rfl, rfl⟩ := h
   exact ⟨ys, rfl, rfl, by omega, hc⟩
  ·rename_i hW
   obtain ⟨n, s1, h1⟩ : ∃ n s1, numR (W - (out.length : Int) + 1) (some ys) = (n, s1) := ⟨_, _, rfl⟩
   obtain ⟨r, s2, h2⟩ : ∃ n s2, numR 1114112 s1 = (n, s2) := ⟨_, _, rfl⟩
   obtain ⟨t, ok, s3, h3⟩ : ∃ t ok s3, styR s2 = (t, ok, s3) := ⟨_, _, _, rfl⟩
   rw [lineS_eq h1 h2 h3] at h
   split at h
   ·rename_i e
    split at e
    ·cases h
    ·cases e
   ·rename_i o2 s3' e
    split at e
    ·cases e
    ·rename_i hn
     simp only [Prod.mk.injEq, Option.some.injEq] at e
     obtain ⟨rfl, rfl⟩ := e
     simp only [not_or] at hn
     obtain ⟨n1, n2, n3⟩ := hn
     have hok : ok = true := by cases ok <;> simp_all
     subst hok
     have hs0 : rsB (some ys) := fun x hx => by cases hx; exact hb
     have b1 := numR_byts (lim := W - (out.length : Int) + 1) hs0
     rw [h1] at b1
     have b2 := numR_byts (lim := 1114112) b1
     rw [h2] at b2
     obtain ⟨y3, z3, e3, e3', e3'', hst⟩ := styR_some b2 h3
     subst e3 e3'
     obtain ⟨y2, e2, e2', p2, p2', p2''⟩ := numR_some b1 h2
     subst e2
     obtain ⟨y1, e1, e1', p1, p1', p1''⟩ := numR_some hs0 h1
     obtain rfl := Option.some.inj e1
     have hn0 : 0 < n.toNat := by omega
     have hlim := p1'' (by omega)
     have hb3 : byts z3 := by
      have := b2 y3 rfl
      rw [e3''] at this
      exact fun x hx => this x (List.mem_append_right _ hx)
     obtain ⟨zs, q1, q2, q3, q4⟩ := ih W _ o z3 s' hb3 (by rw [List.length_append, List.length_replicate]; omega) (fun c hc' => by
      rcases List.mem_append.1 hc' with h | h
      ·exact hc c h
      ·rw [(List.mem_replicate.1 h).2]; exact ⟨hst, p2, by have := p2'' (by decide); exact this⟩) (by rw [List.length_append, List.length_replicate]; omega) h
     refine ⟨zs, q1, ?_, q3, q4⟩
     rw [← q2, lineI_snoc n3 hn0, e1', e2', e3'']
     unfold cellI
     simp only [List.append_assoc]
theorem lineR_some {W : Int} {s : RS} {o : List Cel} {s' : RS} (hs : rsB s) (hW : 0 < W) (h : lineR W s = (o, true, s')) : ∃ ys zs, s = some ys ∧ s' = some zs ∧ ys = lineI o ++ zs ∧ (o.length : Int) = W ∧ wholeB o = true ∧ ∀ c ∈ o, cOk c := by
 unfold lineR at h
 cases s with
 | none =>
  obtain ⟨f, hf⟩ : ∃ f, W.toNat = f + 1 := ⟨W.toNat - 1, by omega⟩
  rw [hf, lineF, if_neg (by simpa using hW)] at h
  have : lineS W [] none = (none, none) := by
   rw [lineS_eq (n := 0) (s1 := none) (r := 0) (s2 := none) (t := sty0) (ok := false) (s3 := none) rfl rfl rfl, if_pos (.inl rfl)]
  rw [this] at h
  simp at h
 | some ys =>
  split at h
  ·simp at h
  ·rename_i o2 s2 e
   split at h
   ·rename_i hw
    simp only [Prod.mk.injEq, true_and] at h
    obtain ⟨rfl, rfl⟩ := h
    obtain ⟨zs, q1, q2, q3, q4⟩ := lineF_some W.toNat W [] o2 ys s2 (hs ys rfl) (by simp; omega) (fun c hc => by cases hc) (by simp) e
    exact ⟨ys, zs, rfl, q1, q2, q3, hw, q4⟩
   ·simp at h
def linesF (W : Int) : Nat → List (List Cel) → RS → Bool → List (List Cel) × RS × Bool
 | 0, out, s, f => (out, s, f)
 | k + 1, out, s, f => if (f && (lineR W s).2.1) = true then linesF W k (out ++ [(lineR W s).1]) (lineR W s).2.2 true else ([], (lineR W s).2.2, false)
theorem linesF_byts {W : Int} : ∀ (k : Nat) {out : List (List Cel)} {s : RS} {f : Bool}, rsB s → rsB (linesF W k out s f).2.1
 | 0, _, _, _, h => h
 | k + 1, out, s, f, h => by
  rw [linesF]
  split
  ·exact linesF_byts k (lineR_byts h)
  ·exact lineR_byts h
theorem linesF_some {W : Int} (hW : 0 < W) : ∀ (k : Nat) {out L : List (List Cel)} {s s' : RS} {f : Bool}, rsB s → s.isSome = true ∨ 0 < k → linesF W k out s f = (L, s', true) →
  ∃ M ys zs, f = true ∧ L = out ++ M ∧ s = some ys ∧ s' = some zs ∧ ys = M.flatMap lineI ++ zs ∧ M.length = k ∧ ∀ l ∈ M, (l.length : Int) = W ∧ wholeB l = true ∧ ∀ c ∈ l, cOk c
 | 0, out, L, s, s', f, hs, h0, h => by
  simp only [linesF, Prod.mk.injEq] at h
  obtain ⟨rfl, rfl, rfl⟩ := h
  obtain ⟨ys, rfl⟩ := Option.isSome_iff_exists.1 (h0.resolve_right (by decide))
  exact ⟨[], ys, ys, rfl, (List.append_nil _).symm, rfl, rfl, rfl, rfl, fun l hl => by cases hl⟩
 | k + 1, out, L, s, s', f, hs, h0, h => by
  obtain ⟨l1, ok1, s1, hL⟩ : ∃ a b c, lineR W s = (a, b, c) := ⟨_, _, _, rfl⟩
  have hb := lineR_byts (W := W) hs
  rw [linesF, hL] at h
  rw [hL] at hb
  dsimp only at h hb
  split at h
  ·rename_i hf
   rw [Bool.and_eq_true] at hf
   obtain ⟨hf, rfl⟩ := hf
   obtain ⟨ys, zs, e1, rfl, e3, e4, e5, e6⟩ := lineR_some hs hW hL
   obtain ⟨M, ys2, zs2, _, q1, q2, q3, q4, q5, q6⟩ := linesF_some hW k hb (.inl rfl) h
   obtain rfl := Option.some.inj q2
   exact ⟨l1 :: M, ys, zs2, hf, by rw [q1]; simp, e1, q3, by rw [e3, q4]; simp, by simp [q5], fun l hl => by
    rcases List.mem_cons.1 hl with rfl | hl
    ·exact ⟨e4, e5, e6⟩
    ·exact q6 l hl⟩
  ·simp at h
def backF : Nat → List (List Cel) → RS → Bool → List (List Cel) × RS × Bool
 | 0, out, s, f => (out, s, f)
 | k + 1, out, s, f => if ((linesF (numR 61 s).1 1 [] (numR 61 s).2 f).2.2 && decide (0 < (numR 61 s).1)) = true then backF k (out ++ (linesF (numR 61 s).1 1 [] (numR 61 s).2 f).1) (linesF (numR 61 s).1 1 [] (numR 61 s).2 f).2.1 true else ([], (linesF (numR 61 s).1 1 [] (numR 61 s).2 f).2.1, false)
def backR (s : RS) (f : Bool) : List (List Cel) × RS × Bool := backF (numR 21 s).1.toNat [] (numR 21 s).2 f
def backI (B : List (List Cel)) : List Int := B.flatMap fun l => putN l.length ++ lineI l
theorem backF_byts : ∀ (k : Nat) {out : List (List Cel)} {s : RS} {f : Bool}, rsB s → rsB (backF k out s f).2.1
 | 0, _, _, _, h => h
 | k + 1, out, s, f, h => by
  rw [backF]
  split
  ·exact backF_byts k (linesF_byts 1 (numR_byts h))
  ·exact linesF_byts 1 (numR_byts h)
theorem backF_some : ∀ (k : Nat) {out L : List (List Cel)} {s s' : RS} {f : Bool}, rsB s → s.isSome = true ∨ 0 < k → backF k out s f = (L, s', true) →
  ∃ M ys zs, f = true ∧ L = out ++ M ∧ s = some ys ∧ s' = some zs ∧ ys = backI M ++ zs ∧ M.length = k ∧ ∀ l ∈ M, 0 < l.length ∧ l.length ≤ 60 ∧ wholeB l = true ∧ ∀ c ∈ l, cOk c
 | 0, out, L, s, s', f, hs, h0, h => by
  simp only [backF, Prod.mk.injEq] at h
  obtain ⟨rfl, rfl, rfl⟩ := h
  obtain ⟨ys, rfl⟩ := Option.isSome_iff_exists.1 (h0.resolve_right (by decide))
  exact ⟨[], ys, ys, rfl, (List.append_nil _).symm, rfl, rfl, rfl, rfl, fun l hl => by cases hl⟩
 | k + 1, out, L, s, s', f, hs, h0, h => by
  obtain ⟨n, s1, hN⟩ : ∃ a b, numR 61 s = (a, b) := ⟨_, _, rfl⟩
  have hb := numR_byts (lim := 61) hs
  rw [backF, hN] at h
  rw [hN] at hb
  dsimp only at h hb
  obtain ⟨L1, s2, f2, hL⟩ : ∃ a b c, linesF n 1 [] s1 f = (a, b, c) := ⟨_, _, _, rfl⟩
  have hb2 := linesF_byts (W := n) 1 (out := []) (f := f) hb
  rw [hL] at h hb2
  dsimp only at h hb2
  split at h
  ·rename_i hf
   rw [Bool.and_eq_true, decide_eq_true_eq] at hf
   obtain ⟨rfl, hw⟩ := hf
   obtain ⟨M1, y1, z1, f1, q1, rfl, rfl, q4, q5, q6⟩ := linesF_some hw 1 hb (.inr (by decide)) hL
   obtain ⟨ys, e1, e2, e3, e4, e5⟩ := numR_some hs hN
   obtain ⟨l, rfl⟩ : ∃ l, M1 = [l] := by
    match M1, q5 with
    | [l], _ => exact ⟨l, rfl⟩
   have hl := q6 l (List.mem_singleton.2 rfl)
   have e6 := e5 (by decide)
   obtain ⟨M, y2, z2, _, p1, p2, p3, p4, p5, p6⟩ := backF_some k hb2 (.inl rfl) h
   obtain rfl := Option.some.inj p2
   refine ⟨l :: M, ys, z2, f1, by rw [p1, q1]; simp, e1, p3, ?_, by simp [p5], fun m hm => ?_⟩
   ·rw [e2, q4, p4]
    unfold backI
    rw [show n.toNat = l.length by have := hl.1; omega]
    simp
   ·rcases List.mem_cons.1 hm with rfl | hm
    ·exact ⟨by have := hl.1; omega, by have := hl.1; omega, hl.2⟩
    ·exact p6 m hm
  ·simp at h
theorem backR_some {s s' : RS} {L : List (List Cel)} {f : Bool} (hs : rsB s) (h : backR s f = (L, s', true)) (hz : s'.isSome = true) : ∃ ys zs, f = true ∧ s = some ys ∧ s' = some zs ∧ ys = putN L.length ++ (backI L ++ zs) ∧ L.length ≤ 20 ∧ ∀ l ∈ L, 0 < l.length ∧ l.length ≤ 60 ∧ wholeB l = true ∧ ∀ c ∈ l, cOk c := by
 obtain ⟨n, s1, hN⟩ : ∃ a b, numR 21 s = (a, b) := ⟨_, _, rfl⟩
 have hb := numR_byts (lim := 21) hs
 unfold backR at h
 rw [hN] at h hb
 dsimp only at h hb
 have h0 : s1.isSome = true ∨ 0 < n.toNat := by
  rcases Nat.eq_zero_or_pos n.toNat with h1 | h1
  ·rw [h1] at h
   simp only [backF, Prod.mk.injEq] at h
   rw [h.2.1]; exact .inl hz
  ·exact .inr h1
 obtain ⟨M, y1, z1, f1, q1, rfl, q3, q4, q5, q6⟩ := backF_some _ hb h0 h
 obtain ⟨ys, e1, e2, e3, e4, e5⟩ := numR_some hs hN
 have e6 := e5 (by decide)
 rw [List.nil_append] at q1
 subst q1
 exact ⟨ys, z1, f1, e1, q3, by rw [e2, q4, q5], by omega, q6⟩
end Go.Proofs.YtclnfbmmaofpjaaDoor.X
namespace Go.Proofs.YtclnfbmmaofpjaaDoor.X
open Go Go.RowKit Go.Proofs.YtclnfbmmaofpjaaDoor
theorem mkU_pend {l : List Int} (h : l.length ≤ 3) : (mkU l).pend = l := by
 unfold mkU US.pend
 simp only [Int.toNat_natCast]
 match l, h with
 | [], _ => rfl
 | [a], _ => rfl
 | [a, b], _ => rfl
 | [a, b, c], _ => rfl
end Go.Proofs.YtclnfbmmaofpjaaDoor.X
namespace Go.Proofs.YtclnfbmmaofpjaaDoor.X
open Go Go.RowKit Go.Proofs.YtclnfbmmaofpjaaDoor
def curI (c : Cur) : List Int := putN c.x.toNat ++ (putN c.y.toNat ++ (putN (flagsL [c.late]) ++ putN (bitsS c.sty)))
def curR (W H : Int) (s : RS) : Cur × Bool × RS :=
  (⟨(numR W s).1, (numR H (numR W s).2).1, (numR 2 (numR H (numR W s).2).2).1 == 1, (styR (numR 2 (numR H (numR W s).2).2).2).1⟩,
   (styR (numR 2 (numR H (numR W s).2).2).2).2.1 && (!((numR 2 (numR H (numR W s).2).2).1 == 1) || (numR W s).1 == W - 1), (styR (numR 2 (numR H (numR W s).2).2).2).2.2)
theorem curR_eq {W H : Int} {s s1 s2 s3 s4 : RS} {x y l : Int} {t : Sty} {ok : Bool} (h1 : numR W s = (x, s1)) (h2 : numR H s1 = (y, s2)) (h3 : numR 2 s2 = (l, s3)) (h4 : styR s3 = (t, ok, s4)) :
    curR W H s = (⟨x, y, l == 1, t⟩, ok && (!(l == 1) || x == W - 1), s4) := by
  unfold curR
  rw [h1]
  dsimp only
  rw [h2]
  dsimp only
  rw [h3]
  dsimp only
  rw [h4]
structure CurOk (W H : Int) (c : Cur) : Prop where
  x : 0 ≤ c.x ∧ c.x < W
  y : 0 ≤ c.y ∧ c.y < H
  l : c.late = true → c.x = W - 1
  s : styleB c.sty = true
theorem curR_byts {W H : Int} {s : RS} (hs : rsB s) : rsB (curR W H s).2.2 := styR_byts (numR_byts (numR_byts (numR_byts hs)))
theorem curR_some {W H : Int} {s s' : RS} {c : Cur} (hs : rsB s) (hW : 0 < W) (hH : 0 < H) (h : curR W H s = (c, true, s')) : ∃ ys zs, s = some ys ∧ s' = some zs ∧ ys = curI c ++ zs ∧ CurOk W H c := by
  obtain ⟨x, s1, h1⟩ : ∃ n s1, numR W s = (n, s1) := ⟨_, _, rfl⟩
  obtain ⟨y, s2, h2⟩ : ∃ n s', numR H s1 = (n, s') := ⟨_, _, rfl⟩
  obtain ⟨l, s3, h3⟩ : ∃ n s', numR 2 s2 = (n, s') := ⟨_, _, rfl⟩
  obtain ⟨t, ok, s4, h4⟩ : ∃ n o s', styR s3 = (n, o, s') := ⟨_, _, _, rfl⟩
  rw [curR_eq h1 h2 h3 h4] at h
  simp only [Prod.mk.injEq, Bool.and_eq_true, Bool.or_eq_true, Bool.not_eq_true'] at h
  obtain ⟨rfl, ⟨rfl, hl⟩, rfl⟩ := h
  have b1 := numR_byts (lim := W) hs; rw [h1] at b1
  have b2 := numR_byts (lim := H) b1; rw [h2] at b2
  have b3 := numR_byts (lim := 2) b2; rw [h3] at b3
  obtain ⟨y4, z4, e4, e4', e4'', hst⟩ := styR_some b3 h4
  subst e4 e4'
  obtain ⟨y3, e3, e3', p3, p3', p3''⟩ := numR_some b2 h3
  subst e3
  obtain ⟨y2, e2, e2', p2, p2', p2''⟩ := numR_some b1 h2
  subst e2
  obtain ⟨y1, e1, e1', p1, p1', p1''⟩ := numR_some hs h1
  have q3 := p3'' (by decide)
  refine ⟨y1, z4, e1, rfl, ?_, ⟨⟨p1, p1'' hW⟩, ⟨p2, p2'' hH⟩, fun hh => ?_, hst⟩⟩
  · unfold curI
    have : flagsL [l == 1] = l.toNat := by
      have : l = 0 ∨ l = 1 := by omega
      rcases this with rfl | rfl <;> rfl
    dsimp only
    rw [this, e1', e2', e3', e4'']
    simp only [List.append_assoc]
  · dsimp only at hh
    rcases hl with hl | hl
    · rw [hl] at hh; cases hh
    · exact beq_iff_eq.1 hl
def lowB (c : Int) : Bool := decide (32 ≤ c) && decide (c < 48)
def wideMB (c : Int) : Bool := lowB c || (decide (60 ≤ c) && decide (c ≤ 63))
def zb (s : ByteArray) : Bool := s.toList == ByteArray.empty.toList
def utB (u : US) : Bool := decide (0 ≤ u.n) && decide (u.n ≤ 3) && ([u.b0, u.b1, u.b2].drop u.n.toNat).all (· == 0) && (u.n == 0 || !fullB u.pend)
def bareB (u : US) : Bool := u.b0 == 0 && u.b1 == 0 && u.b2 == 0 && u.n == 0
def unmB (p : PS) : Bool := zb p.marks && p.params.length == 0
def marksB (lo : Nat) (f : Int → Bool) (m : ByteArray) : Bool := decide (lo ≤ m.size) && decide (m.size ≤ 2) && (List.range m.size).all fun i => f (bt m (i : Int))
def numsB (l : List Int) : Bool := l.all (fun n => decide (0 ≤ n) && decide (n ≤ 9999)) && decide (l.length ≤ 8)
def textB (x : ByteArray) : Bool := ((List.range x.size).all fun i => decide (32 ≤ bt x (i : Int))) && decide (x.size ≤ 40)
def prightB (p : PS) : Bool :=
  if (p.state ≠ 7 ∧ p.within ≠ 0) ∨ (p.state ≠ 0 ∧ bareB p.utf = false) then false
  else if p.state = 0 then utB p.utf && unmB p && zb p.text
  else if p.state = 1 then unmB p && zb p.text
  else if p.state = 2 then marksB 1 lowB p.marks && p.params.length == 0 && zb p.text
  else if p.state = 3 ∨ p.state = 4 then marksB 0 wideMB p.marks && numsB p.params && zb p.text
  else if p.state = 7 then (if p.within ≠ 5 ∧ p.within ≠ 6 then false else unmB p && textB p.text)
  else if p.state = 5 ∨ p.state = 6 then unmB p && textB p.text
  else false
def parsI (p : PS) : List Int := putN p.state.toNat ++ (putN p.within.toNat ++ (strI (bytesOf p.utf.pend) ++ (strI p.marks ++ (putN p.params.length ++ (p.params.flatMap (fun n => putN n.toNat) ++ strI p.text)))))
def numsF : Nat → List Int → RS → List Int × RS
  | 0, l, s => (l, s)
  | k + 1, l, s => numsF k (l ++ [(numR 10000 s).1]) (numR 10000 s).2
theorem numsF_byts : ∀ (k : Nat) {l : List Int} {s : RS}, rsB s → rsB (numsF k l s).2
  | 0, _, _, h => h
  | k + 1, l, s, h => numsF_byts k (numR_byts h)
theorem numsF_some : ∀ (k : Nat) {l L : List Int} {s : RS} {zs : List Int}, rsB s → numsF k l s = (L, some zs) → ∃ M ys, L = l ++ M ∧ s = some ys ∧ ys = M.flatMap (fun n => putN n.toNat) ++ zs ∧ M.length = k ∧ ∀ n ∈ M, 0 ≤ n ∧ n ≤ 9999
  | 0, l, L, s, zs, hs, h => by
    simp only [numsF, Prod.mk.injEq] at h
    obtain ⟨rfl, rfl⟩ := h
    exact ⟨[], zs, (List.append_nil _).symm, rfl, rfl, rfl, fun n hn => by cases hn⟩
  | k + 1, l, L, s, zs, hs, h => by
    obtain ⟨n, s1, hN⟩ : ∃ a b, numR 10000 s = (a, b) := ⟨_, _, rfl⟩
    have hb := numR_byts (lim := 10000) hs
    rw [numsF, hN] at h
    rw [hN] at hb
    dsimp only at h hb
    obtain ⟨M, ys, q1, rfl, q3, q4, q5⟩ := numsF_some k hb h
    obtain ⟨us, e1, e2, e3, e4, e5⟩ := numR_some hs hN
    have e6 := e5 (by decide)
    refine ⟨n :: M, us, by rw [q1]; simp, e1, by rw [e2, q3]; simp, by simp [q4], fun x hx => ?_⟩
    rcases List.mem_cons.1 hx with rfl | hx
    · exact ⟨e3, by omega⟩
    · exact q5 x hx
def parsR (s : RS) (f : Bool) : PS × RS × Bool :=
  let st := numR 8 s
  let wi := numR 8 st.2
  let u := textR 3 wi.2
  let m := textR 2 u.2
  let n := numR 9 m.2
  let q := numsF n.1.toNat [] n.2
  let x := textR 40 q.2
  (⟨st.1, mkU (bytI u.1), m.1, q.1, x.1, wi.1⟩, x.2, f && prightB ⟨st.1, mkU (bytI u.1), m.1, q.1, x.1, wi.1⟩)
theorem parsR_eq {s s1 s2 s3 s4 s5 s6 s7 : RS} {f : Bool} {st wi n : Int} {u m x : ByteArray} {q : List Int} (h1 : numR 8 s = (st, s1)) (h2 : numR 8 s1 = (wi, s2)) (h3 : textR 3 s2 = (u, s3)) (h4 : textR 2 s3 = (m, s4)) (h5 : numR 9 s4 = (n, s5)) (h6 : numsF n.toNat [] s5 = (q, s6)) (h7 : textR 40 s6 = (x, s7)) :
    parsR s f = (⟨st, mkU (bytI u), m, q, x, wi⟩, s7, f && prightB ⟨st, mkU (bytI u), m, q, x, wi⟩) := by
  unfold parsR
  rw [h1]
  dsimp only
  rw [h2]
  dsimp only
  rw [h3]
  dsimp only
  rw [h4]
  dsimp only
  rw [h5]
  dsimp only
  rw [h6]
  dsimp only
  rw [h7]
structure ParsOk (p : PS) : Prop where
  st : 0 ≤ p.state ∧ p.state < 8
  wi : 0 ≤ p.within ∧ p.within < 8
  u : p.utf.ok
  un : (p.utf.n).toNat = p.utf.pend.length ∧ p.utf.pend.length ≤ 3
  m : p.marks.size ≤ 2
  n : p.params.length ≤ 8
  b : ∀ x ∈ p.params, 0 ≤ x ∧ x ≤ 9999
  t : p.text.size ≤ 40
  r : prightB p = true
theorem parsR_some {s : RS} {f : Bool} {p : PS} {zs : List Int} (hs : rsB s) (h : parsR s f = (p, some zs, true)) : ∃ ys, s = some ys ∧ ys = parsI p ++ zs ∧ f = true ∧ ParsOk p := by
  obtain ⟨st, s1, h1⟩ : ∃ n s1, numR 8 s = (n, s1) := ⟨_, _, rfl⟩
  obtain ⟨wi, s2, h2⟩ : ∃ n s', numR 8 s1 = (n, s') := ⟨_, _, rfl⟩
  obtain ⟨u, s3, h3⟩ : ∃ n s', textR 3 s2 = (n, s') := ⟨_, _, rfl⟩
  obtain ⟨m, s4, h4⟩ : ∃ n s', textR 2 s3 = (n, s') := ⟨_, _, rfl⟩
  obtain ⟨n, s5, h5⟩ : ∃ n s', numR 9 s4 = (n, s') := ⟨_, _, rfl⟩
  obtain ⟨q, s6, h6⟩ : ∃ q s', numsF n.toNat [] s5 = (q, s') := ⟨_, _, rfl⟩
  obtain ⟨x, s7, h7⟩ : ∃ n s', textR 40 s6 = (n, s') := ⟨_, _, rfl⟩
  rw [parsR_eq h1 h2 h3 h4 h5 h6 h7] at h
  simp only [Prod.mk.injEq, Bool.and_eq_true] at h
  obtain ⟨rfl, rfl, rfl, hr⟩ := h
  have b1 := numR_byts (lim := 8) hs; rw [h1] at b1
  have b2 := numR_byts (lim := 8) b1; rw [h2] at b2
  have b3 := textR_byts (most := 3) b2; rw [h3] at b3
  have b4 := textR_byts (most := 2) b3; rw [h4] at b4
  have b5 := numR_byts (lim := 9) b4; rw [h5] at b5
  have b6 := numsF_byts n.toNat (l := []) b5; rw [h6] at b6
  obtain ⟨y7, e7, e7', p7⟩ := textR_some b6 h7 (by decide)
  subst e7
  obtain ⟨M, y6, e6, e6', e6'', p6, p6'⟩ := numsF_some _ b5 h6
  rw [List.nil_append] at e6
  subst e6 e6'
  obtain ⟨y5, e5, e5', p5, _, p5'⟩ := numR_some b4 h5
  subst e5
  obtain ⟨y4, e4, e4', p4⟩ := textR_some b3 h4 (by decide)
  subst e4
  obtain ⟨y3, e3, e3', p3⟩ := textR_some b2 h3 (by decide)
  subst e3
  obtain ⟨y2, e2, e2', p2, _, p2'⟩ := numR_some b1 h2
  subst e2
  obtain ⟨y1, e1, e1', p1, _, p1'⟩ := numR_some hs h1
  have hl3 : (bytI u).length ≤ 3 := by rw [bytI_len]; omega
  have hpe := mkU_pend hl3
  have hub : bytesOf (bytI u) = u := by
    have : (bytesOf (bytI u)).data.toList = u.data.toList := by
      rw [bytesOf_data]
      unfold bytI
      rw [List.map_map]
      refine (List.map_congr_left fun b _ => ?_).trans (List.map_id _)
      show UInt8.ofNat ((b.toNat : Int).toNat) = b
      rw [Int.toNat_natCast]; exact UInt8.ofNat_toNat
    cases hA : bytesOf (bytI u) with
    | mk a =>
      rw [hA] at this
      cases u with
      | mk b => exact congrArg ByteArray.mk (Array.toList_inj.1 this)
  have q5 := p5' (by decide)
  refine ⟨y1, e1, ?_, rfl, ⟨⟨p1, p1' (by decide)⟩, ⟨p2, p2' (by decide)⟩, mkU_ok (bytI_byts u) hl3, ?_, by dsimp only; omega, by dsimp only; omega, p6', by dsimp only; omega, hr⟩⟩
  · unfold parsI
    dsimp only
    rw [hpe, hub, e1', e2', e3', e4', e5', e6'', e7', ← p6]
    simp only [List.append_assoc]
  · dsimp only
    rw [hpe]
    exact ⟨by show (((bytI u).length : Nat) : Int).toNat = _; omega, hl3⟩
def modesL (T : TS) : List Bool := [T.wrap, T.origin, T.insert, T.hidden, T.alt, T.draw0, T.draw1, T.shift]
def encI (T : TS) : List Int := putN T.grid.w.toNat ++ (putN T.grid.h.toNat ++ (putN T.top.toNat ++ (putN T.bot.toNat ++ (putN (flagsL (modesL T)) ++ (putN (flagsF T.tabs 60) ++ (curI T.cursor ++ (curI T.saved ++ (curI T.away ++
  (T.grid.lines.flatMap lineI ++ (T.other.lines.flatMap lineI ++ (putN T.back.length ++ (backI T.back ++ (strI T.title ++ (strI T.reply ++ parsI T.parser))))))))))))))
def tabsK (tb k : Nat) (i : Nat) : Bool := if i < k then bitB tb i else tabs0 7 i
def headT (w h top bot n tb : Int) : TS := { startT zeroT w h with top := top, bot := bot, wrap := bitB n.toNat 0, origin := bitB n.toNat 1, insert := bitB n.toNat 2, hidden := bitB n.toNat 3, alt := bitB n.toNat 4, draw0 := bitB n.toNat 5, draw1 := bitB n.toNat 6, shift := bitB n.toNat 7, tabs := tabsK tb.toNat 60 }
def tailR (T : TS) (W H : Int) (s : RS) : Option TS :=
  let a := curR W H s
  let b := curR W H a.2.2
  let c := curR W H b.2.2
  let d := linesF W H.toNat [] c.2.2 ((a.2.1 && b.2.1) && c.2.1)
  let e := linesF W H.toNat [] d.2.1 d.2.2
  let k := backR e.2.1 e.2.2
  let t := textR 40 k.2.1
  let r := textR 400 t.2
  let p := parsR r.2 k.2.2
  if p.2.2 = true ∧ p.2.1 = some [] then some { T with cursor := a.1, saved := b.1, away := c.1, grid := ⟨W, H, d.1⟩, other := ⟨W, H, e.1⟩, back := k.1, title := t.1, reply := r.1, parser := p.1 } else none
def headR (s : RS) : Option TS × RS :=
  let w := numR 61 s
  let h := numR 61 w.2
  let a := numR (h.1 + 1) h.2
  let b := numR (h.1 + 1) a.2
  let n := numR 256 b.2
  let t := numR 1152921504606846976 n.2
  if t.2.isSome = false ∨ w.1 < 1 ∨ h.1 < 1 ∨ b.1 ≤ a.1 then (none, t.2) else (some (headT w.1 h.1 a.1 b.1 n.1 t.1), t.2)
theorem headR_eq {s s1 s2 s3 s4 s5 s6 : RS} {w v a b n t : Int} (h1 : numR 61 s = (w, s1)) (h2 : numR 61 s1 = (v, s2)) (h3 : numR (v + 1) s2 = (a, s3)) (h4 : numR (v + 1) s3 = (b, s4)) (h5 : numR 256 s4 = (n, s5)) (h6 : numR 1152921504606846976 s5 = (t, s6)) :
    headR s = if s6.isSome = false ∨ w < 1 ∨ v < 1 ∨ b ≤ a then (none, s6) else (some (headT w v a b n t), s6) := by
  unfold headR
  rw [h1]
  dsimp only
  rw [h2]
  dsimp only
  rw [h3]
  dsimp only
  rw [h4]
  dsimp only
  rw [h5]
  dsimp only
  rw [h6]
def decT (s : RS) : Option TS := match headR s with
  | (none, _) => none
  | (some T, s1) => tailR T T.grid.w T.grid.h s1
structure DecOk (T : TS) : Prop where
  w : 1 ≤ T.grid.w ∧ T.grid.w ≤ 60
  h : 1 ≤ T.grid.h ∧ T.grid.h ≤ 60
  o : T.other.w = T.grid.w ∧ T.other.h = T.grid.h
  t : 0 ≤ T.top ∧ T.top < T.bot ∧ T.bot ≤ T.grid.h
  c : CurOk T.grid.w T.grid.h T.cursor
  s : CurOk T.grid.w T.grid.h T.saved
  a : CurOk T.grid.w T.grid.h T.away
  g : T.grid.lines.length = T.grid.h.toNat ∧ ∀ l ∈ T.grid.lines, (l.length : Int) = T.grid.w ∧ wholeB l = true ∧ ∀ c ∈ l, cOk c
  g2 : T.other.lines.length = T.grid.h.toNat ∧ ∀ l ∈ T.other.lines, (l.length : Int) = T.grid.w ∧ wholeB l = true ∧ ∀ c ∈ l, cOk c
  k : T.back.length ≤ 20 ∧ ∀ l ∈ T.back, 0 < l.length ∧ l.length ≤ 60 ∧ wholeB l = true ∧ ∀ c ∈ l, cOk c
  ti : T.title.size ≤ 40
  r : T.reply.size ≤ 400
  p : ParsOk T.parser
theorem tailR_some {T T' : TS} {W H : Int} {s : RS} (hs : rsB s) (hW : 1 ≤ W ∧ W ≤ 60) (hH : 1 ≤ H ∧ H ≤ 60) (ht : 0 ≤ T.top ∧ T.top < T.bot ∧ T.bot ≤ H) (h : tailR T W H s = some T') : ∃ ys, s = some ys ∧
    ys = curI T'.cursor ++ (curI T'.saved ++ (curI T'.away ++ (T'.grid.lines.flatMap lineI ++ (T'.other.lines.flatMap lineI ++ (putN T'.back.length ++ (backI T'.back ++ (strI T'.title ++ (strI T'.reply ++ parsI T'.parser)))))))) ∧ DecOk T' ∧ T'.grid.w = W ∧ T'.grid.h = H ∧ T'.top = T.top ∧ T'.bot = T.bot ∧ modesL T' = modesL T ∧ T'.tabs = T.tabs := by
  obtain ⟨a, ha, s1, h1⟩ : ∃ a o s1, curR W H s = (a, o, s1) := ⟨_, _, _, rfl⟩
  obtain ⟨b, hb, s2, h2⟩ : ∃ a o s', curR W H s1 = (a, o, s') := ⟨_, _, _, rfl⟩
  obtain ⟨c, hc, s3, h3⟩ : ∃ a o s', curR W H s2 = (a, o, s') := ⟨_, _, _, rfl⟩
  obtain ⟨d, s4, f4, h4⟩ : ∃ d s' f, linesF W H.toNat [] s3 ((ha && hb) && hc) = (d, s', f) := ⟨_, _, _, rfl⟩
  obtain ⟨e, s5, f5, h5⟩ : ∃ d s' f, linesF W H.toNat [] s4 f4 = (d, s', f) := ⟨_, _, _, rfl⟩
  obtain ⟨k, s6, f6, h6⟩ : ∃ d s' f, backR s5 f5 = (d, s', f) := ⟨_, _, _, rfl⟩
  obtain ⟨t, s7, h7⟩ : ∃ d s', textR 40 s6 = (d, s') := ⟨_, _, rfl⟩
  obtain ⟨r, s8, h8⟩ : ∃ d s', textR 400 s7 = (d, s') := ⟨_, _, rfl⟩
  obtain ⟨p, s9, f9, h9⟩ : ∃ d s' f, parsR s8 f6 = (d, s', f) := ⟨_, _, _, rfl⟩
  unfold tailR at h
  rw [h1] at h
  dsimp only at h
  rw [h2] at h
  dsimp only at h
  rw [h3] at h
  dsimp only at h
  rw [h4] at h
  dsimp only at h
  rw [h5] at h
  dsimp only at h
  rw [h6] at h
  dsimp only at h
  rw [h7] at h
  dsimp only at h
  rw [h8] at h
  dsimp only at h
  rw [h9] at h
  dsimp only at h
  split at h
  · rename_i hz
    obtain ⟨rfl, rfl⟩ := hz
    obtain rfl := Option.some.inj h
    have b1 := curR_byts (W := W) (H := H) hs; rw [h1] at b1
    have b2 := curR_byts (W := W) (H := H) b1; rw [h2] at b2
    have b3 := curR_byts (W := W) (H := H) b2; rw [h3] at b3
    have b4 := linesF_byts (W := W) H.toNat (out := []) (f := (ha && hb) && hc) b3; rw [h4] at b4
    have b5 := linesF_byts (W := W) H.toNat (out := []) (f := f4) b4; rw [h5] at b5
    have b6 : rsB s6 := by have := backF_byts (numR 21 s5).1.toNat (out := []) (f := f5) (numR_byts (lim := 21) b5); have e : backF (numR 21 s5).1.toNat [] (numR 21 s5).2 f5 = (k, s6, f6) := h6; rw [e] at this; exact this
    have b7 := textR_byts (most := 40) b6; rw [h7] at b7
    have b8 := textR_byts (most := 400) b7; rw [h8] at b8
    obtain ⟨y9, e9, e9', rfl, hp⟩ := parsR_some b8 h9
    subst e9
    obtain ⟨y8, e8, e8', hr⟩ := textR_some b7 h8 (by decide)
    subst e8
    obtain ⟨y7, e7, e7', hti⟩ := textR_some b6 h7 (by decide)
    subst e7
    obtain ⟨y6, z6, f6', e6, e6', e6'', hk1, hk2⟩ := backR_some b5 h6 rfl
    subst f6' e6
    obtain rfl := Option.some.inj e6'
    obtain ⟨M2, y5, z5, f5', q2, e5, e5', e5'', hg2, hg2'⟩ := linesF_some (by omega) _ b4 (.inr (by omega)) h5
    rw [List.nil_append] at q2
    subst q2 f5' e5
    obtain rfl := Option.some.inj e5'
    obtain ⟨M1, y4, z4, f4', q1, e4, e4', e4'', hg1, hg1'⟩ := linesF_some (by omega) _ b3 (.inr (by omega)) h4
    rw [List.nil_append] at q1
    subst q1 e4
    obtain rfl := Option.some.inj e4'
    rw [Bool.and_eq_true, Bool.and_eq_true] at f4'
    obtain ⟨⟨rfl, rfl⟩, rfl⟩ := f4'
    obtain ⟨y3, z3, e3, e3', e3'', hc3⟩ := curR_some b2 (by omega) (by omega) h3
    subst e3
    obtain rfl := Option.some.inj e3'
    obtain ⟨y2, z2, e2, e2', e2'', hc2⟩ := curR_some b1 (by omega) (by omega) h2
    subst e2
    obtain rfl := Option.some.inj e2'
    obtain ⟨y1, z1, e1, e1', e1'', hc1⟩ := curR_some hs (by omega) (by omega) h1
    obtain rfl := Option.some.inj e1'
    refine ⟨y1, e1, ?_, ⟨hW, hH, ⟨rfl, rfl⟩, ht, hc1, hc2, hc3, ⟨hg1, hg1'⟩, ⟨hg2, hg2'⟩, ⟨hk1, hk2⟩, by dsimp only; omega, by dsimp only; omega, hp⟩, rfl, rfl, rfl, rfl, rfl, rfl⟩
    dsimp only
    rw [e1'', e2'', e3'', e4'', e5'', e6'', e7', e8', e9', List.append_nil]
  · cases h
theorem decT_some {s : RS} {T : TS} (hs : rsB s) (h : decT s = some T) : ∃ ys, s = some ys ∧ ys = encI T ∧ DecOk T := by
  obtain ⟨w, s1, h1⟩ : ∃ d s', numR 61 s = (d, s') := ⟨_, _, rfl⟩
  obtain ⟨v, s2, h2⟩ : ∃ d s', numR 61 s1 = (d, s') := ⟨_, _, rfl⟩
  obtain ⟨a, s3, h3⟩ : ∃ d s', numR (v + 1) s2 = (d, s') := ⟨_, _, rfl⟩
  obtain ⟨b, s4, h4⟩ : ∃ d s', numR (v + 1) s3 = (d, s') := ⟨_, _, rfl⟩
  obtain ⟨n, s5, h5⟩ : ∃ d s', numR 256 s4 = (d, s') := ⟨_, _, rfl⟩
  obtain ⟨t, s6, h6⟩ : ∃ d s', numR 1152921504606846976 s5 = (d, s') := ⟨_, _, rfl⟩
  unfold decT at h
  rw [headR_eq h1 h2 h3 h4 h5 h6] at h
  split at h
  · cases h
  · rename_i T0 s7 e0
    split at e0
    · cases e0
    rename_i hc
    simp only [Prod.mk.injEq, Option.some.injEq] at e0
    obtain ⟨rfl, rfl⟩ := e0
    simp only [not_or] at hc
    obtain ⟨c1, c2, c3, c4⟩ := hc
    have b1 := numR_byts (lim := 61) hs; rw [h1] at b1
    have b2 := numR_byts (lim := 61) b1; rw [h2] at b2
    have b3 := numR_byts (lim := v + 1) b2; rw [h3] at b3
    have b4 := numR_byts (lim := v + 1) b3; rw [h4] at b4
    have b5 := numR_byts (lim := 256) b4; rw [h5] at b5
    have b6 := numR_byts (lim := 1152921504606846976) b5; rw [h6] at b6
    have w1 := numR_bd (lim := 61) (s := s); rw [h1] at w1
    have v1 := numR_bd (lim := 61) (s := s1); rw [h2] at v1
    have w2 := w1.2.2 (by decide)
    have v2 := v1.2.2 (by decide)
    dsimp only at w1 v1 w2 v2
    have a1 := numR_bd (lim := v + 1) (s := s2); rw [h3] at a1
    have bb1 := numR_bd (lim := v + 1) (s := s3); rw [h4] at bb1
    have a2 := a1.2.2 (by omega)
    have bb2 := bb1.2.2 (by omega)
    dsimp only at a1 bb1 a2 bb2
    have hsw : (headT w v a b n t).grid.w = w := by show sideI w = w; unfold sideI; omega
    have hsv : (headT w v a b n t).grid.h = v := by show sideI v = v; unfold sideI; omega
    rw [hsw, hsv] at h
    obtain ⟨y6, e6, e6', hd, r1, r2, r3, r4, r5, r6⟩ := tailR_some b6 (by omega) (by omega) (by show 0 ≤ a ∧ a < b ∧ b ≤ v; omega) h
    subst e6
    obtain ⟨y5, e5, e5', p5, _, p5'⟩ := numR_some b5 h6
    subst e5
    obtain ⟨y4, e4, e4', p4, _, p4'⟩ := numR_some b4 h5
    subst e4
    obtain ⟨y3, e3, e3', _⟩ := numR_some b3 h4
    subst e3
    obtain ⟨y2, e2, e2', _⟩ := numR_some b2 h3
    subst e2
    obtain ⟨y1, e1, e1', _⟩ := numR_some b1 h2
    subst e1
    obtain ⟨y0, e0, e0', _⟩ := numR_some hs h1
    refine ⟨y0, e0, ?_, hd⟩
    have q4 := p4' (by decide)
    have q5 := p5' (by decide)
    have m1 : flagsL (modesL T) = n.toNat := by
      rw [r5]
      have : flagsL (modesL (headT w v a b n t)) = flagsF (bitB n.toNat) 8 := flagsF_congr fun i hi => by
        have : i = 0 ∨ i = 1 ∨ i = 2 ∨ i = 3 ∨ i = 4 ∨ i = 5 ∨ i = 6 ∨ i = 7 := by have : i < 8 := hi; omega
        rcases this with rfl | rfl | rfl | rfl | rfl | rfl | rfl | rfl <;> rfl
      rw [this, flagsF_bit]
      exact Nat.mod_eq_of_lt (by omega)
    have m2 : flagsF T.tabs 60 = t.toNat := by
      rw [r6]
      have : flagsF (headT w v a b n t).tabs 60 = flagsF (bitB t.toNat) 60 := flagsF_congr fun i hi => by show (if i < 60 then _ else _) = _; rw [if_pos hi]
      rw [this, flagsF_bit]
      exact Nat.mod_eq_of_lt (by omega)
    unfold encI
    rw [m1, m2, r1, r2, r3, r4, e0', e1', e2', e3', e4', e5', e6']
    rfl
end Go.Proofs.YtclnfbmmaofpjaaDoor.X
namespace Go.Proofs.YtclnfbmmaofpjaaDoor.X
open Go Go.RowKit Go.Proofs.YtclnfbmmaofpjaaDoor
section
variable {P : Program} {N : Nat} {ops : Array Oper} {Q : Exit → Act → World → Prop} {f : Fr} {k : Nat} {K : Act → World → Prop} {w : World}
def callTAt (P : Program) (N : Nat) (ops : Array Oper) (f : Fr) (k : Nat) : Option (FuncId × List Value × Option Tmp) :=
 match opAt N ops f k with
 | some (.call ⟨.value x, args, _⟩, d) => match ev f x with
  | some (.func (.func g) ⟨[]⟩ ⟨[]⟩) => if callable P g then (evs f args.toList).map fun vs => (g, vs, d) else none
  | _ => none
 | _ => none
theorem e_callT {g : FuncId} {vs : List Value} {R : Ending → World → Prop} (d : Option Tmp) (h : callTAt P N ops f k = some (g, vs, d)) (hc : Calls P g vs.toArray w R)
  (hK : ∀ e w', R e w' → ∃ v, e = .returned v ∧ ∀ a', Has N (pushd d v f) a' → K a' w') : ∀ a, Has N f a → wpOp P ops Q k K a w := by
 unfold callTAt at h
 split at h
 ·rename_i x args tys d' ho
  split at h
  ·rename_i g' hx
   split at h
   ·rename_i hg
    simp only [Option.map_eq_some_iff, Prod.mk.injEq] at h
    obtain ⟨vs', hv, rfl, rfl, rfl⟩ := h
    intro a ha
    refine opAt_wp ho ha fun o' hop hd hdk => ?_
    unfold callable at hg
    cases hf : P.funcs[g']? with
    | none => rw [hf] at hg; cases hg
    | some fn =>
     rw [hf] at hg
     simp only [Bool.and_eq_true, bne_iff_ne] at hg
     have : (execOp a.eval o').run P w = .ok (.enter g' vs'.toArray) w := by
      have e := evs_array ha hv
      have e2 := ev_eval ha hx
      have hn : fn.body.isNone = false := by cases hb : fn.body <;> simp_all
      simp [execOp, hop, resolve, e, e2, Deferred.ofValue, invoke, callFunc, hf, hg.1]
      intro h; rw [h] at hn; cases hn
     simp only [Oper.wp, this, Oper.upon]
     rw [hd]
     refine Calls.mono hc fun e w' he => ?_
     obtain ⟨v, rfl, h⟩ := hK e w' he
     exact h _ (ha.pushd hdk v)
   ·cases h
  ·cases h
 ·cases h
theorem yQT {g : FuncId} {vs : List Value} {v : Value} {A : World → Prop} (hc : Calls P g vs.toArray w fun e w' => e = .returned v ∧ A w') (hK : ∀ w', A w' → ∀ a', Has N (pushd (dO ops k) v f) a' → K a' w')
  (h : callTAt P N ops f k = some (g, vs, dO ops k) := by kernel_rfl) : ∀ a, Has N f a → wpOp P ops Q k K a w := e_callT _ h hc fun _ w' h => ⟨v, h.1, hK w' h.2⟩
def bytV (s : ByteArray) : List Value := s.data.toList.map fun b => Value.int .u8 b.toNat
theorem bytV_len (s : ByteArray) : (bytV s).length = s.size := by simp [bytV]
theorem bytV_get (s : ByteArray) {i : Nat} (h : i < s.size) : (bytV s)[i]? = some (.int .u8 (bt s (i : Int))) := by
 unfold bytV bt
 rw [List.getElem?_map, List.getElem?_eq_getElem (by simpa using h)]
 simp only [Option.map_some, Int.toNat_natCast]
 rw [dif_pos h]
 rfl
def byteAt (P : Program) (N : Nat) (ops : Array Oper) (f : Fr) (k : Nat) : Option (ByteArray × Option Tmp) :=
 match opAt N ops f k with
 | some (.convert s t x, d) => match P.underlying s, P.underlying t, ev f x with
  | some .string, some (.slice e), some (.string u) => match P.underlying e with
   | some (.int .u8) => some (u, d)
   | _ => none
  | _, _, _ => none
 | _ => none
theorem e_tobytes (u : ByteArray) (d : Option Tmp) (h : byteAt P N ops f k = some (u, d))
  (hK : ∀ w' b cap, b = w.heap.size → w'.heap.size = w.heap.size + 1 → Rd w' (some ⟨b, 0, none⟩) (bytV u) → Ch (fun _ => False) w w' → ∀ a', Has N (pushd d (.slice (some ⟨b, 0, none⟩) u.size cap) f) a' → K a' w') : ∀ a, Has N f a → wpOp P ops Q k K a w := by
 intro a ha
 unfold byteAt at h
 split at h
 ·rename_i s t x d' ho
  split at h
  ·rename_i e v hs ht hx
   split at h
   ·rename_i he
    simp only [Option.some.injEq, Prod.mk.injEq] at h
    obtain ⟨rfl, rfl⟩ := h
    refine opAt_wp ho ha fun o' hop hd hdk => ?_
    have hc := run_bytes_of_string (P := P) w s t e v hs ht he
    have : (execOp a.eval o').run P w = .ok (.value (.slice (some ⟨w.heap.size, 0, none⟩) v.size (grownCap w v.size 0 e))) (w.drew.alloc (.cells (bytesRow v (grownCap w v.size 0 e)) e ((bytesRow v (grownCap w v.size 0 e)).size, (bytesRow v (grownCap w v.size 0 e)).size + 1))) := by
     simp [execOp, hop, ev_eval ha hx, hc]
    simp only [Oper.wp, this, Oper.upon]
    rw [hd]
    refine hK _ w.heap.size _ rfl (by show (w.heap.push _).size = _; simp) ?_ ((Ch.drew _ _).trans (Ch.alloc _ _ _) (fun _ _ h => h)) _ (ha.pushd hdk _)
    refine ⟨(fun ea => by cases ea), fun ad ea j y hj => ?_⟩
    obtain rfl := Option.some.inj ea
    have hl := (List.getElem?_eq_some_iff.1 hj).1
    rw [bytV_len] at hl
    rw [add_pl, Nat.zero_add]
    have hb := heap_alloc_new w.drew (.cells (bytesRow v (grownCap w v.size 0 e)) e ((bytesRow v (grownCap w v.size 0 e)).size, (bytesRow v (grownCap w v.size 0 e)).size + 1))
    have hd0 : w.drew.heap = w.heap := rfl
    rw [hd0] at hb
    simp only [World.cell?, hb]
    unfold bytesRow
    rw [Array.getElem?_append_left (by simpa using hl), ← hj]
    unfold bytV
    simp
   ·cases h
  ·cases h
 ·cases h
end
end Go.Proofs.YtclnfbmmaofpjaaDoor.X
namespace Go.Proofs.YtclnfbmmaofpjaaDoor.X
open Go Go.RowKit Go.Proofs.YtclnfbmmaofpjaaDoor
section
variable {P : Program} {N : Nat} {ops : Array Oper} {Q : Exit → Act → World → Prop} {f : Fr} {k : Nat} {K : Act → World → Prop} {w : World}
def zeroB (z : Value) : Bool := match z with
 | .int .u8 n => n == 0
 | _ => false
theorem zeroB_eq {z : Value} (h : zeroB z = true) : z = .int .u8 0 := by
 unfold zeroB at h
 split at h
 ·rw [beq_iff_eq.1 h]
 ·cases h
def appSAt (P : Program) (N : Nat) (ops : Array Oper) (f : Fr) (k : Nat) : Option (TypeId × Value × ByteArray × Option Tmp) :=
 match opAt N ops f k with
 | some (.call ⟨.builtin .append, args, tys⟩, d) => match tys.toList, evs f args.toList with
  | [t, t'], some [u, .string x] => match P.underlying t, P.underlying t' with
   | some (.slice e), some .string => match szOf P e, (P.info? e).bind (·.zero), (P.info? e).map (·.bytes) with
    | some sz, some z, some bs => if sz = 1 ∧ zeroB z = true ∧ bs = 1 then some (e, u, x, d) else none
    | _, _, _ => none
   | _, _ => none
  | _, _ => none
 | _ => none
structure App (w w' : World) (o o' : Option Nat) : Prop where
 ch : Ch (fun b => o = some b) w w'
 ne : o' = o ∨ ∃ g, o' = some g ∧ w.heap.size ≤ g
theorem App.refl (w : World) (o : Option Nat) : App w w o o := ⟨Ch.refl _ _, .inl rfl⟩
theorem App.trans {w w1 w2 : World} {o o1 o2 : Option Nat} (h : App w w1 o o1) (k : App w1 w2 o1 o2) : App w w2 o o2 := by
 refine ⟨h.ch.trans k.ch fun i hi e => ?_, ?_⟩
 ·rcases h.ne with rfl | ⟨g, rfl, hg⟩
  ·exact e
  ·have := Option.some.inj e; omega
 ·have hs := h.ch.size
  rcases k.ne with rfl | ⟨g, rfl, hg⟩
  ·exact h.ne
  ·exact .inr ⟨g, rfl, by omega⟩
theorem App.step {w w1 w2 : World} {o o1 : Option Nat} {B : Nat → Prop} (h : App w w1 o o1) (k : Ch B w1 w2) (hB : ∀ i, i < w.heap.size → ¬ B i) : App w w2 o o1 := by
 have hs := h.ch.size
 exact ⟨h.ch.trans k fun i hi e => absurd e (hB i hi), h.ne⟩
theorem App.apart {w w' : World} {o o' : Option Nat} (h : App w w' o o') {y : Nat} (hy : y < w.heap.size) (hn : ∀ b, o = some b → ¬ b = y) : ∀ b, o' = some b → ¬ b = y := fun b e => by
 rcases h.ne with rfl | ⟨g, rfl, hg⟩
 ·exact hn b e
 ·have := Option.some.inj e; omega
theorem App.not {w w' : World} {o o' : Option Nat} (_h : App w w' o o') {y : Nat} (hn : ∀ b, o = some b → ¬ b = y) : ¬ o = some y := fun e => hn y e rfl
theorem run_appS {e : TypeId} {o : Option Nat} {n cap : Nat} {xs : List Value} {x : ByteArray} {t u ty : TypeId} {i : TypeInfo} (ht : P.underlying t = some (.slice e)) (hu : P.underlying u = some .string) (hi : P.info? e = some i) (hz : i.zero = some (.int .u8 0)) (hsz : i.size = 1) (hby : i.bytes = 1)
  (ho : Own w e 1 o n cap xs) (hb : n + x.size ≤ maxLen ∧ n + x.size ≤ 140737488355328) :
  ∃ o' cap' w', (Builtin.append_ #[t, u] ty #[.slice (o.map at0) n cap, .string x]).run P w = .ok (.slice (o'.map at0) (n + x.size) cap') w' ∧ Own w' e 1 o' (n + x.size) cap' (xs ++ bytV x) ∧ App w w' o o' := by
 have hsm : n + x.size ≤ 9223372036854775807 := by have h := hb.2; omega
 have hbl : (bytV x).length = x.size := bytV_len x
 cases o with
 | none =>
  obtain ⟨rfl, rfl⟩ := ho.2.2.2.1 rfl
  have hx : xs = [] := List.eq_nil_of_length_eq_zero (by simpa using ho.1)
  subst hx
  obtain ⟨v', w', hrun, q1, q2, q3⟩ := Go.Lib.run_append_own_string (P := P) w w.heap.size t u ty e i ht hu hi hz hsz hby _ 0 [] (World.ownsRow_nil w w.heap.size e 1) x hb.1 hb.2 (Nat.le_refl _)
  have hch : Ch (fun b => (none : Option Nat) = some b) w w' := (Ch.grown q2).mono fun i _ hi => by cases hi
  rcases q1.2 with ⟨rfl, h0⟩ | ⟨g, cap', cur, rfl, hmg, hheap, hle, hmax, hsize, htake⟩
  ·refine ⟨none, 0, w', ?_, ⟨q1.1, by omega, Nat.zero_le _, fun _ => ⟨by omega, rfl⟩, fun _ e => by cases e⟩, ⟨hch, .inl rfl⟩⟩
   rw [h0]; exact hrun
  ·refine ⟨some g, cap', w', hrun, ⟨q1.1, hle, hmax, (fun e => by cases e), fun g' e' => ?_⟩, ⟨hch, .inr ⟨g, rfl, hmg⟩⟩⟩
   obtain rfl := Option.some.inj e'
   refine ⟨cur.toList.drop ((0 + x.size) * 1), ?_, ?_⟩
   ·rw [List.length_drop, Array.length_toList, hsize, Nat.sub_mul]
   ·show w'.heap[g]? = _
    have htk : cur.toList.take ((0 + x.size) * 1) = [] ++ bytV x := htake
    rw [hheap, ← htk, List.take_append_drop, Array.toArray_toList]
 | some g =>
  obtain ⟨r, hr, hblk⟩ := ho.2.2.2.2 g rfl
  have hxl : xs.length = n := by simpa using ho.1
  have hnc := ho.2.1
  by_cases hroom : n + x.size ≤ cap
  ·have hrl : r.length = cap - n := by simpa using hr
   have hrun := Go.Lib.run_append_room_string (P := P) w t u ty e i ht hu hi hsz g n cap (xs ++ r).toArray hblk x hroom (by simp; omega)
   refine ⟨some g, cap, _, hrun, ⟨?_, hroom, ho.2.2.1, (fun e => by cases e), fun g' e' => ?_⟩, ⟨⟨rfl, rfl, rfl, by simp, fun k hk hn => setRow_other w g k _ fun e => hn (by rw [e])⟩, .inl rfl⟩⟩
   ·rw [List.length_append, hbl, hxl, Nat.mul_one]
   ·obtain rfl := Option.some.inj e'
    refine ⟨r.drop x.size, by rw [List.length_drop, hrl]; omega, ?_⟩
    have h2 := setRow_heap w g _ (((xs ++ r).toArray.toList.take n ++ Go.Lib.strCells x ++ (xs ++ r).toArray.toList.drop (n + x.size)).toArray) e (0, 0) hblk
    refine h2.trans ?_
    have e1 : (xs ++ r).take n = xs := by rw [← hxl, List.take_left]
    have e2 : (xs ++ r).drop (n + x.size) = r.drop x.size := by rw [← hxl, List.drop_append]; simp
    show some (Obj.cells (((xs ++ r).take n ++ Go.Lib.strCells x ++ (xs ++ r).drop (n + x.size)).toArray) e (0, 0)) = _
    rw [e1, e2]; rfl
  ·have hrun := Go.Lib.run_append_grow_string (P := P) w t u ty e i (.int .u8 0) ht hu hi hz ⟨g, 0, none⟩ n cap xs (by rw [hsz]; exact ho.1) (ho.rd.2 _ rfl) x (by omega) (by omega) (by rw [hby]; exact growslice_fits (by omega) (by omega))
   have hge := grownCap_ge w (n + x.size) cap e
   have hcm : grownCap w (n + x.size) cap e ≤ maxLen := grownCap_le_maxLen w (n + x.size) cap e hb.1
   refine ⟨some w.heap.size, _, _, hrun, ⟨by rw [List.length_append, hbl, hxl, Nat.mul_one], hge, hcm, (fun e => by cases e), fun g' e' => ?_⟩, ⟨(Ch.drew _ _).trans (Ch.alloc _ _ _) (fun _ _ h => h), .inr ⟨_, rfl, Nat.le_refl _⟩⟩⟩
   obtain rfl := Option.some.inj e'
   refine ⟨(Builtin.zeroCells (Value.int .u8 0).cells (grownCap w (n + x.size) cap e - (n + x.size))).toList, ?_, ?_⟩
   ·rw [Array.length_toList, size_zeroCells]; rfl
   ·refine (heap_alloc_new w.drew _).trans ?_
    congr 2
    apply Array.ext'
    simp [Go.Lib.strCells, bytV]
theorem e_appS (e : TypeId) (o : Option Nat) (n cap : Nat) (xs : List Value) (x : ByteArray) (d : Option Tmp) (t : Nat) (ht : n + x.size = t)
  (h : appSAt P N ops f k = some (e, .slice (o.map at0) n cap, x, d))
  (ho : Own w e 1 o n cap xs) (hb : t ≤ maxLen ∧ t ≤ 140737488355328)
  (hK : ∀ w' o' cap', Own w' e 1 o' t cap' (xs ++ bytV x) → App w w' o o' → ∀ a', Has N (pushd d (.slice (o'.map at0) t cap') f) a' → K a' w') : ∀ a, Has N f a → wpOp P ops Q k K a w := by
 subst ht
 intro a ha
 unfold appSAt at h
 split at h
 ·rename_i args tys d' hop0
  split at h
  ·rename_i t t' u' x' ht hv
   split at h
   ·rename_i e' hu hu'
    split at h
    ·rename_i sz z bs hs hz hbs
     split at h
     ·rename_i hc
      obtain ⟨rfl, hz0, rfl⟩ := hc
      obtain rfl := zeroB_eq hz0
      simp only [Option.some.injEq, Prod.mk.injEq] at h
      obtain ⟨rfl, rfl, rfl, rfl⟩ := h
      obtain ⟨i, hi, hsz⟩ := szOf_info hs
      rw [hi] at hz hbs
      have htys : tys = #[t, t'] := by apply Array.toList_inj.1; simpa using ht
      refine opAt_wp hop0 ha fun o' hop hd hdk => ?_
      have he := evs_array ha hv
      obtain ⟨o2, cap', w', hrun, q1, q2⟩ := run_appS (P := P) (ty := o'.type) hu hu' hi (by simpa using hz) hsz (by simpa using hbs) ho hb
      have : (execOp a.eval o').run P w = .ok (.value (.slice (o2.map at0) (n + x'.size) cap')) w' := by
       rw [htys] at hop
       simp [execOp, hop, resolve, he, invoke, builtin, hrun]
      simp only [Oper.wp, this, Oper.upon]
      rw [hd]
      exact hK w' o2 cap' q1 q2 _ (ha.pushd hdk _)
     ·cases h
    ·cases h
   ·cases h
  ·cases h
 ·cases h
theorem App.of {w w' : World} {o o' : Option Nat} (hne : o' = o ∨ ∃ g, o' = some g ∧ w.heap.size ≤ g) (hc : Ch (fun b => o = some b) w w') : App w w' o o' := ⟨hc, hne⟩
theorem e_copyS (b o dl dc : Nat) (x : ByteArray) {cs : List Value} {T : TypeId} (d : Option Tmp)
  (h : copyAt P N ops f k = some (1, .slice (some ⟨b, o, none⟩) dl dc, .string x, d))
  (hb : Blk w b cs T) (hx : x.size ≤ dl) (hfit : o + x.size ≤ cs.length)
  (hK : ∀ w', Blk w' b (put cs o (bytV x)) T → Ch (fun k => k = b) w w' → ∀ a', Has N (pushd d (.int .i64 (x.size : Nat)) f) a' → K a' w') :
  ∀ a, Has N f a → wpOp P ops Q k K a w := by
 intro a ha
 have one : ∀ u ∈ bytV x, u.oneCell' = true := fun u hu => by
  unfold bytV at hu
  obtain ⟨c, _, rfl⟩ := List.mem_map.1 hu
  rfl
 have hbl := bytV_len x
 unfold copyAt at h
 split at h
 ·rename_i args tys d' ho
  split at h
  ·rename_i t t' u' v' ht hv
   split at h
   ·rename_i e hu
    split at h
    ·rename_i sz' hs
     simp only [Option.some.injEq, Prod.mk.injEq] at h
     obtain ⟨rfl, rfl, rfl, rfl⟩ := h
     obtain ⟨i, hi, hsz⟩ := szOf_info hs
     have htys : tys = #[t, t'] := by apply Array.toList_inj.1; simpa using ht
     refine opAt_wp ho ha fun o' hop hd hdk => ?_
     have he := evs_array ha hv
     have hmin : Nat.min x.size dl = x.size := Nat.min_eq_left hx
     have hload := Go.Lib.run_firstCells_string (P := P) w 1 x
     have hst := run_storeCells_at P b o T (bytV x) 0 cs.toArray w hb (by rw [hbl]; simpa using hfit) one
     have hrun : (Builtin.copy_ #[t, t'] o'.type #[.slice (some ⟨b, o, none⟩) dl dc, .string x]).run P w = .ok (.int .i64 (x.size : Nat)) (w.setRow b (put cs o (bytV x)).toArray) := by
      simp [Builtin.copy_, run_underlying hu, Builtin.lenOf, sizeOf, typeInfo, hi, hsz, hmin, hload, goInt]
      rw [show (storeCells ⟨b, o, none⟩ (Go.Lib.strCells x)).run P w = _ from hst]
      simp [put]
     have : (execOp a.eval o').run P w = .ok (.value (.int .i64 (x.size : Nat))) (w.setRow b (put cs o (bytV x)).toArray) := by
      rw [htys] at hop
      simp [execOp, hop, resolve, he, invoke, builtin, hrun]
     simp only [Oper.wp, this, Oper.upon]
     rw [hd]
     exact hK _ (hb.set _) (Ch.setRow _ _ _) _ (ha.pushd hdk _)
    ·cases h
   ·cases h
  ·cases h
 ·cases h
theorem e_copyS' (b o dl dc : Nat) (x : ByteArray) {cs : List Value} {T : TypeId} (d : Option Tmp) (t : Int) (ht : ((x.size : Nat) : Int) = t)
  (h : copyAt P N ops f k = some (1, .slice (some ⟨b, o, none⟩) dl dc, .string x, d))
  (hb : Blk w b cs T) (hx : x.size ≤ dl) (hfit : o + x.size ≤ cs.length)
  (hK : ∀ w', Blk w' b (put cs o (bytV x)) T → Ch (fun k => k = b) w w' → ∀ a', Has N (pushd d (.int .i64 t) f) a' → K a' w') :
  ∀ a, Has N f a → wpOp P ops Q k K a w := by
 subst ht
 exact e_copyS b o dl dc x d h hb hx hfit hK
end
end Go.Proofs.YtclnfbmmaofpjaaDoor.X
namespace Go.Proofs.YtclnfbmmaofpjaaDoor.X
open Go Go.RowKit Go.Proofs.YtclnfbmmaofpjaaDoor
abbrev tU8 : TypeId := 5
abbrev tRdr : TypeId := 84
abbrev u8s (l : List Int) : List Value := l.map (Value.int .u8)
abbrev u64s (l : List Int) : List Value := l.map (Value.int .u64)
def putsI (ns : List Int) : List Int := ns.flatMap fun x => putN x.toNat
theorem u8_cell {w : World} {b o : Nat} {l : List Int} (h : Rd w (some ⟨b, o, none⟩) (u8s l)) {k : Nat} (hk : k < l.length) : w.cell? ⟨b, o + ((k : Nat) : Int).toNat * 1, none⟩ = some (.int .u8 (l.getD k 0)) := by
 rw [Int.toNat_natCast, Nat.mul_one]
 refine rd_at h k _ ?_
 rw [List.getElem?_map, List.getElem?_eq_getElem hk]
 simp [List.getD, List.getElem?_eq_getElem hk]
theorem u64_cell {w : World} {b o : Nat} {l : List Int} (h : Rd w (some ⟨b, o, none⟩) (u64s l)) {k : Nat} (hk : k < l.length) : w.cell? ⟨b, o + ((k : Nat) : Int).toNat * 1, none⟩ = some (.int .u64 (l.getD k 0)) := by
 rw [Int.toNat_natCast, Nat.mul_one]
 refine rd_at h k _ ?_
 rw [List.getElem?_map, List.getElem?_eq_getElem hk]
 simp [List.getD, List.getElem?_eq_getElem hk]
theorem drop_at {l : List Int} {k : Nat} (hk : k < l.length) : l.drop k = l.getD k 0 :: l.drop (k + 1) := by
 rw [List.drop_eq_getElem_cons hk]
 simp [List.getD, List.getElem?_eq_getElem hk]
theorem take_at {l : List Int} {k : Nat} (hk : k < l.length) : l.take (k + 1) = l.take k ++ [l.getD k 0] := by
 rw [List.take_succ_eq_append_getElem hk]
 simp [List.getD, List.getElem?_eq_getElem hk]
theorem getD_mem {l : List Int} {k : Nat} (hk : k < l.length) : l.getD k 0 ∈ l := by
 simp [List.getD, List.getElem?_eq_getElem hk]
theorem putsI_snoc (l : List Int) (x : Int) : putsI (l ++ [x]) = putsI l ++ putN x.toNat := by simp [putsI]
structure RdrIn (w : World) (rv D : Nat) (a : Option Addr) (n cap : Nat) (ys : List Int) (bad : Bool) : Prop where
 blk : Blk w rv [.slice a n cap, .bool bad] tRdr
 rd : Rd w a (u8s ys)
 len : ys.length = n
 le : n ≤ cap
 z : (n = 0 ∧ cap = 0) ∨ ∃ o, a = some ⟨D, o, none⟩
 byt : byts ys
 ne : ¬ rv = D
 big : n ≤ 1000000
 dl : D < w.heap.size
def rsOf (bad : Bool) (ys : List Int) : RS := if bad = true then none else some ys
def RdrAt (w : World) (rv D : Nat) (s : RS) : Prop := ∃ a n cap ys bad, RdrIn w rv D a n cap ys bad ∧ s = rsOf bad ys
section
variable {w w' : World} {rv D : Nat} {a : Option Addr} {n cap : Nat} {ys : List Int} {bad : Bool} {s : RS} {B : Nat → Prop}
theorem RdrIn.rdch (h : RdrIn w rv D a n cap ys bad) (hc : Ch B w w') (h2 : ¬ B D) : Rd w' a (u8s ys) := by
 rcases h.z with ⟨h0, _⟩ | ⟨o, rfl⟩
 ·obtain rfl := List.eq_nil_of_length_eq_zero (h.len.trans h0)
  exact Rd.nil _ _
 ·exact h.rd.ch hc fun ad e => by cases e; exact h2
theorem RdrIn.some (h : RdrIn w rv D a n cap ys bad) (hn : n ≠ 0) : ∃ o, a = Option.some ⟨D, o, none⟩ := by
 rcases h.z with ⟨h, _⟩ | h
 ·exact absurd h hn
 ·exact h
theorem RdrIn.ch (h : RdrIn w rv D a n cap ys bad) (hc : Ch B w w') (h1 : ¬ B rv) (h2 : ¬ B D) : RdrIn w' rv D a n cap ys bad :=
 {h with
  blk := h.blk.ch hc h1
  rd := h.rdch hc h2
  dl := Nat.lt_of_lt_of_le h.dl hc.size }
def RdrX (w : World) (rv D : Nat) (s : RS) : Prop := ∃ a n cap ys bad, RdrIn w rv D a n cap ys bad ∧ s = rsOf bad ys ∧ (bad = true ∨ ∃ o, a = Option.some ⟨D, o, none⟩)
theorem RdrX.at (h : RdrX w rv D s) : RdrAt w rv D s := by
 obtain ⟨a, n, cap, ys, bad, h, e, _⟩ := h
 exact ⟨a, n, cap, ys, bad, h, e⟩
theorem RdrAt.ch (h : RdrAt w rv D s) (hc : Ch B w w') (h1 : ¬ B rv) (h2 : ¬ B D) : RdrAt w' rv D s := by
 obtain ⟨a, n, cap, ys, bad, h, e⟩ := h
 exact ⟨a, n, cap, ys, bad, h.ch hc h1 h2, e⟩
theorem RdrAt.lt (h : RdrAt w rv D s) : rv < w.heap.size := by
 obtain ⟨a, n, cap, ys, bad, h, e⟩ := h
 exact h.blk.lt
theorem RdrAt.dlt (h : RdrAt w rv D s) : D < w.heap.size := by
 obtain ⟨a, n, cap, ys, bad, h, e⟩ := h
 exact h.dl
theorem RdrAt.rs (h : RdrAt w rv D s) : rsB s := by
 obtain ⟨a, n, cap, ys, bad, h, rfl⟩ := h
 intro zs e
 unfold rsOf at e
 split at e
 ·cases e
 ·obtain rfl := Option.some.inj e
  exact h.byt
theorem RdrIn.spoil (h : RdrIn w rv D a n cap ys bad) (hc : Ch (fun j => j = rv) w w') (hb : Blk w' rv [.slice a n cap, .bool true] tRdr) : RdrX w' rv D none :=
 ⟨a, n, cap, ys, true, { h with
  blk := hb
  rd := h.rdch hc fun e => h.ne e.symm
  dl := Nat.lt_of_lt_of_le h.dl hc.size }, rfl, .inl rfl⟩
theorem RdrIn.drop {o : Nat} (h : RdrIn w rv D (Option.some ⟨D, o, none⟩) n cap ys false) (k : Nat) (hk : k ≤ n) (hc : Ch (fun j => j = rv) w w') (hb : Blk w' rv [.slice (Option.some ⟨D, if cap = k then o else o + k * 1, none⟩) (n - k) (cap - k), .bool false] tRdr) : RdrX w' rv D (Option.some (ys.drop k)) := by
 have hr := h.rdch hc fun e => h.ne e.symm
 refine ⟨_, n - k, cap - k, ys.drop k, false, ⟨hb, ⟨(fun e => by cases e), fun ad e j u hj => ?_⟩, by rw [List.length_drop, h.len], by have := h.le; omega, .inr ⟨_, rfl⟩, byts_drop h.byt k, h.ne, by have := h.big; omega, Nat.lt_of_lt_of_le h.dl hc.size⟩, rfl, .inr ⟨_, rfl⟩⟩
 cases e
 have hl := (List.getElem?_eq_some_iff.1 hj).1
 rw [List.length_map, List.length_drop, h.len] at hl
 have hle := h.le
 rw [if_neg (show ¬ cap = k by omega)]
 have := hr.2 ⟨D, o, none⟩ rfl (k + j) u (by
  rw [u8s, List.getElem?_map, List.getElem?_drop, ← List.getElem?_map] at hj
  exact hj)
 rw [add_pl] at this ⊢
 rw [show o + k * 1 + j = o + (k + j) by omega]
 exact this
end
theorem numR_bad {lim : Int} {ys : List Int} : numR lim (rsOf true ys) = (0, none) := rfl
theorem numR_no {lim : Int} {ys : List Int} {bad : Bool} (h : (takeN ys).2 = 0 ∨ 9223372036854775807 < (takeN ys).1 ∨ (0 < lim ∧ lim ≤ ((takeN ys).1 : Int))) : numR lim (rsOf bad ys) = (0, none) := by
 cases bad with
 | true => rfl
 | false => show (if _ then _ else _) = _; rw [if_pos h]
theorem numR_yes {lim : Int} {ys : List Int} (h0 : ¬ (takeN ys).2 = 0) (h1 : ¬ 9223372036854775807 < (takeN ys).1) (h2 : ¬ (0 < lim ∧ lim ≤ ((takeN ys).1 : Int))) : numR lim (rsOf false ys) = (((takeN ys).1 : Int), some (ys.drop (takeN ys).2)) := by
 show (if _ then _ else _) = _
 rw [if_neg (by rintro (h | h | h); exact h0 h; exact h1 h; exact h2 h)]
end Go.Proofs.YtclnfbmmaofpjaaDoor.X
namespace Go.Proofs.YtclnfbmmaofpjaaDoor.X
open Go Go.RowKit Go.Proofs.YtclnfbmmaofpjaaDoor
set_option maxHeartbeats 4000000 in
theorem take_any (a : Option Addr) (n cap : Nat) (us : List Int) (w : World) (hr : Rd w a (u8s us)) (hl : us.length = n) (hz : n = 0 ∨ ∃ b o, a = some ⟨b, o, none⟩) (hb : byts us) (hn : n ≤ 1000000) : Calls Tryd.prog 43 [.slice a n cap].toArray w fun e w' => e = .returned (.tuple #[.int .u64 ((takeN us).1 : Int), iX ((takeN us).2 : Int)]) ∧ Ch (fun _ => False) w w' := by
 refine yA Tryd.func43 rfl <| ysr <| yp 2 [] .z <| ye <| ysr <| yp 1 [] .z <| ye <| ys <| ysr <| yp 3 [] .z <| ye <| x_block <| ykeep [4, 7, 8, 9] (f' := [(4, .int .u64 0), (7, .slice a n cap), (8, iX ((n : Nat) : Int)), (9, iX 0)]) <| x_loop (σ := Nat × Int) (fun ⟨k, x⟩ => [(4, .int .u64 x), (7, .slice a n cap), (8, iX ((n : Nat) : Int)), (9, iX ((k : Nat) : Int))]) (fun ⟨k, x⟩ u => k ≤ n ∧ takeG 0 0 us = takeG k x (us.drop k) ∧ Ch (fun _ => False) w u) (fun ⟨k, x⟩ => n - k) (0, 0) rfl ?_ ?_
 ·exact ⟨Nat.zero_le _, rfl, Ch.refl _ _⟩
 intro p w10 hI11 K12 hL13
 obtain ⟨k, x⟩ := p
 obtain ⟨hk, hG, hc14⟩ := hI11
 have hu15 := Up.step (Up.refl w.heap.size w) hc14 iZ
 have hr16 := Rd.ch hr hc14 iZ
 refine ysr <| yp 1 [] .z <| ye <| ys <| yc (rL ((k : Nat) : Int) ((n : Nat) : Int)) (fun hC17 => ?_) fun hC17 => ?_
 ·obtain ⟨pb, po, rfl⟩ := hz.resolve_left (by omega)
  have hdr := drop_at (l := us) (k := k) (by omega)
  have hbd := hb _ (getD_mem (l := us) (k := k) (by omega))
  rw [hdr] at hG
  refine yk <| ys <| x_block <| ysr <| yp 5 [] (.i ((k : Nat) : Int) (n) (.l (o := (po + (((k : Nat) : Int)).toNat * 1)) (u8_cell hr16 (k := k) (by omega)) .z)) <| ye <| ys <| ysr <| yp 3 [] .z <| yw [16] (rE ((k : Nat) : Int) 9) (fun hC18 => ?_) fun hC18 => ?_
  ·have hf19 := hC18
   refine yp 7 [] .z <| yw [20] (rL 1 (us.getD k 0)) (fun hC20 => ?_) fun hC20 => ?_
   ·have hf21 := hC20
    refine yp 10 [] .z <| ye <| yct <| ysr <| yp 2 [] .z <| ye <| x_ret (rS (rB (rS (then_ret (rB (rS (yR2 [.int .u64 0, iX 0] .z ?_)))))))
    have hN := takeG_N hb
    rw [hG] at hN
    rw [takeG] at hN
    first
     | (exfalso; omega)
     | (rw [if_pos (by omega)] at hN; obtain ⟨h1, h2⟩ := Prod.mk.inj hN; exact ⟨by rw [← h1, ← h2], Up.ch hu15⟩)
     | (rw [if_neg (by omega), if_pos (by omega), if_pos (by omega)] at hN; obtain ⟨h1, h2⟩ := Prod.mk.inj hN; exact ⟨by rw [← h1, ← h2], Up.ch hu15⟩)
     | (rw [if_neg (by omega), if_pos (by omega), if_neg (by omega)] at hN; obtain ⟨h1, h2⟩ := Prod.mk.inj hN; exact ⟨by rw [← h1, ← h2], Up.ch hu15⟩)
   have hf22 := hC20
   refine yp 10 [] .z <| ye <| yc (rL 9 ((k : Nat) : Int)) (fun hC23 => ?_) fun hC23 => ?_
   ·have hf24 := hC23
    refine ysr <| yp 2 [] .z <| ye <| x_ret (rS (rB (rS (then_ret (rB (rS (yR2 [.int .u64 0, iX 0] .z ?_)))))))
    have hN := takeG_N hb
    rw [hG] at hN
    rw [takeG] at hN
    first
     | (exfalso; omega)
     | (rw [if_pos (by omega)] at hN; obtain ⟨h1, h2⟩ := Prod.mk.inj hN; exact ⟨by rw [← h1, ← h2], Up.ch hu15⟩)
     | (rw [if_neg (by omega), if_pos (by omega), if_pos (by omega)] at hN; obtain ⟨h1, h2⟩ := Prod.mk.inj hN; exact ⟨by rw [← h1, ← h2], Up.ch hu15⟩)
     | (rw [if_neg (by omega), if_pos (by omega), if_neg (by omega)] at hN; obtain ⟨h1, h2⟩ := Prod.mk.inj hN; exact ⟨by rw [← h1, ← h2], Up.ch hu15⟩)
   have hf25 := hC23
   refine yk <| ysr <| yp 9 [] (.q6 (7 * ((k : Nat) : Int)) (.p (q := 0 ≤ ((7 * ((k : Nat) : Int)) : Int)) (by omega) .z)) <| ye <| ysr <| yp 2 [] .z <| ye <| yc (rL (us.getD k 0) 128) (fun hC26 => ?_) fun hC26 => ?_
   ·have hf27 := hC26
    refine ys <| ysr <| yp 3 [] .z <| yw [36] (rE (us.getD k 0) 0) (fun hC28 => ?_) fun hC28 => ?_
    ·have hf29 := hC28
     refine yp 6 [] .z <| ye <| yc (rL 0 ((k : Nat) : Int)) (fun hC30 => ?_) fun hC30 => ?_
     ·have hf31 := hC30
      refine ysr <| yp 2 [] .z <| ye <| x_ret (rS (rB (rS (then_ret (rB (rS (yR2 [.int .u64 0, iX 0] .z ?_)))))))
      have hN := takeG_N hb
      rw [hG] at hN
      rw [takeG] at hN
      first
       | (exfalso; omega)
       | (rw [if_pos (by omega)] at hN; obtain ⟨h1, h2⟩ := Prod.mk.inj hN; exact ⟨by rw [← h1, ← h2], Up.ch hu15⟩)
       | (rw [if_neg (by omega), if_pos (by omega), if_pos (by omega)] at hN; obtain ⟨h1, h2⟩ := Prod.mk.inj hN; exact ⟨by rw [← h1, ← h2], Up.ch hu15⟩)
       | (rw [if_neg (by omega), if_pos (by omega), if_neg (by omega)] at hN; obtain ⟨h1, h2⟩ := Prod.mk.inj hN; exact ⟨by rw [← h1, ← h2], Up.ch hu15⟩)
     have hf32 := hC30
     refine yk <| ysr <| yp 5 [] (.q6 (((k : Nat) : Int) + 1) .z) <| ye <| x_ret (rB (rS (then_ret (rB (rS (yR2 [.int .u64 (bitsv .or .u64 x (IntKind.wrap .u64 ((IntKind.wrap .u64 (bitsv .and .u8 (us.getD k 0) 127)) * 2 ^ min ((7 * ((k : Nat) : Int)) : Int).toNat (IntKind.bits .u64)))), iX (((k : Nat) : Int) + 1)] .z ?_))))))
     have hN := takeG_N hb
     rw [hG] at hN
     rw [takeG] at hN
     first
      | (exfalso; omega)
      | (rw [if_pos (by omega)] at hN; obtain ⟨h1, h2⟩ := Prod.mk.inj hN; exact ⟨by rw [← h1, ← h2], Up.ch hu15⟩)
      | (rw [if_neg (by omega), if_pos (by omega), if_pos (by omega)] at hN; obtain ⟨h1, h2⟩ := Prod.mk.inj hN; exact ⟨by rw [← h1, ← h2], Up.ch hu15⟩)
      | (rw [if_neg (by omega), if_pos (by omega), if_neg (by omega)] at hN; obtain ⟨h1, h2⟩ := Prod.mk.inj hN; exact ⟨by rw [← h1, ← h2], Up.ch hu15⟩)
    have hf33 := hC28
    refine yp 6 [] .z <| ye <| ycf <| yk <| ysr <| yp 5 [] (.q6 (((k : Nat) : Int) + 1) .z) <| ye <| x_ret (rB (rS (then_ret (rB (rS (yR2 [.int .u64 (bitsv .or .u64 x (IntKind.wrap .u64 ((IntKind.wrap .u64 (bitsv .and .u8 (us.getD k 0) 127)) * 2 ^ min ((7 * ((k : Nat) : Int)) : Int).toNat (IntKind.bits .u64)))), iX (((k : Nat) : Int) + 1)] .z ?_))))))
    have hN := takeG_N hb
    rw [hG] at hN
    rw [takeG] at hN
    first
     | (exfalso; omega)
     | (rw [if_pos (by omega)] at hN; obtain ⟨h1, h2⟩ := Prod.mk.inj hN; exact ⟨by rw [← h1, ← h2], Up.ch hu15⟩)
     | (rw [if_neg (by omega), if_pos (by omega), if_pos (by omega)] at hN; obtain ⟨h1, h2⟩ := Prod.mk.inj hN; exact ⟨by rw [← h1, ← h2], Up.ch hu15⟩)
     | (rw [if_neg (by omega), if_pos (by omega), if_neg (by omega)] at hN; obtain ⟨h1, h2⟩ := Prod.mk.inj hN; exact ⟨by rw [← h1, ← h2], Up.ch hu15⟩)
   have hf34 := hC26
   refine x_skip (nB (nS ?_))
   refine x_region <| yp 2 [] (.q6 (((k : Nat) : Int) + 1) .z) <| yE (fun a ha => hL13 (k + 1, orT x (us.getD k 0) k) _ ⟨by omega, by rw [hG, takeG, if_neg (by omega), if_neg (by omega)], hc14⟩ (by show n - (k + 1) < n - k; omega) a (ha.kp [4, 7, 8, 9]))
  have hf35 := hC18
  refine yp 10 [] .z <| ye <| yc (rL 9 ((k : Nat) : Int)) (fun hC36 => ?_) fun hC36 => ?_
  ·have hf37 := hC36
   refine ysr <| yp 2 [] .z <| ye <| x_ret (rS (rB (rS (then_ret (rB (rS (yR2 [.int .u64 0, iX 0] .z ?_)))))))
   have hN := takeG_N hb
   rw [hG] at hN
   rw [takeG] at hN
   first
    | (exfalso; omega)
    | (rw [if_pos (by omega)] at hN; obtain ⟨h1, h2⟩ := Prod.mk.inj hN; exact ⟨by rw [← h1, ← h2], Up.ch hu15⟩)
    | (rw [if_neg (by omega), if_pos (by omega), if_pos (by omega)] at hN; obtain ⟨h1, h2⟩ := Prod.mk.inj hN; exact ⟨by rw [← h1, ← h2], Up.ch hu15⟩)
    | (rw [if_neg (by omega), if_pos (by omega), if_neg (by omega)] at hN; obtain ⟨h1, h2⟩ := Prod.mk.inj hN; exact ⟨by rw [← h1, ← h2], Up.ch hu15⟩)
  have hf38 := hC36
  refine yk <| ysr <| yp 9 [] (.q6 (7 * ((k : Nat) : Int)) (.p (q := 0 ≤ ((7 * ((k : Nat) : Int)) : Int)) (by omega) .z)) <| ye <| ysr <| yp 2 [] .z <| ye <| yc (rL (us.getD k 0) 128) (fun hC39 => ?_) fun hC39 => ?_
  ·have hf40 := hC39
   refine ys <| ysr <| yp 3 [] .z <| yw [36] (rE (us.getD k 0) 0) (fun hC41 => ?_) fun hC41 => ?_
   ·have hf42 := hC41
    refine yp 6 [] .z <| ye <| yc (rL 0 ((k : Nat) : Int)) (fun hC43 => ?_) fun hC43 => ?_
    ·have hf44 := hC43
     refine ysr <| yp 2 [] .z <| ye <| x_ret (rS (rB (rS (then_ret (rB (rS (yR2 [.int .u64 0, iX 0] .z ?_)))))))
     have hN := takeG_N hb
     rw [hG] at hN
     rw [takeG] at hN
     first
      | (exfalso; omega)
      | (rw [if_pos (by omega)] at hN; obtain ⟨h1, h2⟩ := Prod.mk.inj hN; exact ⟨by rw [← h1, ← h2], Up.ch hu15⟩)
      | (rw [if_neg (by omega), if_pos (by omega), if_pos (by omega)] at hN; obtain ⟨h1, h2⟩ := Prod.mk.inj hN; exact ⟨by rw [← h1, ← h2], Up.ch hu15⟩)
      | (rw [if_neg (by omega), if_pos (by omega), if_neg (by omega)] at hN; obtain ⟨h1, h2⟩ := Prod.mk.inj hN; exact ⟨by rw [← h1, ← h2], Up.ch hu15⟩)
    have hf45 := hC43
    refine yk <| ysr <| yp 5 [] (.q6 (((k : Nat) : Int) + 1) .z) <| ye <| x_ret (rB (rS (then_ret (rB (rS (yR2 [.int .u64 (bitsv .or .u64 x (IntKind.wrap .u64 ((IntKind.wrap .u64 (bitsv .and .u8 (us.getD k 0) 127)) * 2 ^ min ((7 * ((k : Nat) : Int)) : Int).toNat (IntKind.bits .u64)))), iX (((k : Nat) : Int) + 1)] .z ?_))))))
    have hN := takeG_N hb
    rw [hG] at hN
    rw [takeG] at hN
    first
     | (exfalso; omega)
     | (rw [if_pos (by omega)] at hN; obtain ⟨h1, h2⟩ := Prod.mk.inj hN; exact ⟨by rw [← h1, ← h2], Up.ch hu15⟩)
     | (rw [if_neg (by omega), if_pos (by omega), if_pos (by omega)] at hN; obtain ⟨h1, h2⟩ := Prod.mk.inj hN; exact ⟨by rw [← h1, ← h2], Up.ch hu15⟩)
     | (rw [if_neg (by omega), if_pos (by omega), if_neg (by omega)] at hN; obtain ⟨h1, h2⟩ := Prod.mk.inj hN; exact ⟨by rw [← h1, ← h2], Up.ch hu15⟩)
   have hf46 := hC41
   refine yp 6 [] .z <| ye <| ycf <| yk <| ysr <| yp 5 [] (.q6 (((k : Nat) : Int) + 1) .z) <| ye <| x_ret (rB (rS (then_ret (rB (rS (yR2 [.int .u64 (bitsv .or .u64 x (IntKind.wrap .u64 ((IntKind.wrap .u64 (bitsv .and .u8 (us.getD k 0) 127)) * 2 ^ min ((7 * ((k : Nat) : Int)) : Int).toNat (IntKind.bits .u64)))), iX (((k : Nat) : Int) + 1)] .z ?_))))))
   have hN := takeG_N hb
   rw [hG] at hN
   rw [takeG] at hN
   first
    | (exfalso; omega)
    | (rw [if_pos (by omega)] at hN; obtain ⟨h1, h2⟩ := Prod.mk.inj hN; exact ⟨by rw [← h1, ← h2], Up.ch hu15⟩)
    | (rw [if_neg (by omega), if_pos (by omega), if_pos (by omega)] at hN; obtain ⟨h1, h2⟩ := Prod.mk.inj hN; exact ⟨by rw [← h1, ← h2], Up.ch hu15⟩)
    | (rw [if_neg (by omega), if_pos (by omega), if_neg (by omega)] at hN; obtain ⟨h1, h2⟩ := Prod.mk.inj hN; exact ⟨by rw [← h1, ← h2], Up.ch hu15⟩)
  have hf47 := hC39
  refine x_skip (nB (nS ?_))
  refine x_region <| yp 2 [] (.q6 (((k : Nat) : Int) + 1) .z) <| yE (fun a ha => hL13 (k + 1, orT x (us.getD k 0) k) _ ⟨by omega, by rw [hG, takeG, if_neg (by omega), if_neg (by omega)], hc14⟩ (by show n - (k + 1) < n - k; omega) a (ha.kp [4, 7, 8, 9]))
 have hkn : k = n := by omega
 refine x_exit (eS (then_exit (block_exit (nS ?_))))
 refine ysr <| yp 2 [] .z <| ye <| x_ret (yR2 [.int .u64 0, iX 0] .z ?_)
 have hN := takeG_N hb
 rw [hG] at hN
 rw [hkn, List.drop_eq_nil_of_le (by omega), takeG] at hN
 obtain ⟨h1, h2⟩ := Prod.mk.inj hN; exact ⟨by rw [← h1, ← h2], Up.ch hu15⟩
set_option maxHeartbeats 4000000 in
theorem put_any (o : Option Nat) (n cap : Nat) (xs : List Int) (lb k : Nat) (ns : List Int) (w : World) (hO : Own w tU8 1 o n cap (u8s xs)) (hr : Rd w (some ⟨lb, 0, none⟩) (u64s ns)) (hk : ns.length = k) (hv : ∀ x ∈ ns, 0 ≤ x ∧ x ≤ 18446744073709551615) (hlb : lb < w.heap.size) (hne : ∀ b, o = some b → ¬ b = lb) (hz : n + 10 * k ≤ 1000000000) : Calls Tryd.prog 28 [.slice (o.map at0) n cap, .slice (some ⟨lb, 0, none⟩) k k].toArray w fun e w' =>
    ∃ o' n' cap', e = .returned (.slice (o'.map at0) n' cap') ∧ Own w' tU8 1 o' n' cap' (u8s (xs ++ putsI ns)) ∧ n' ≤ n + 10 * k ∧ App w w' o o' := by
  refine yA Tryd.func28 rfl ?_
  refine ysr ?_
  refine yp 1 [] .z ?_
  refine ye ?_
  refine ys ?_
  refine ysr ?_
  refine yp 3 [] .z ?_
  refine ye ?_
  refine x_block ?_
  refine ykeep [0, 7, 8, 9] (f' := [(0, .slice (o.map at0) n cap), (7, .slice (some ⟨lb, 0, none⟩) k k), (8, iX ((k : Nat) : Int)), (9, iX 0)]) ?_
  refine x_loop (σ := Nat × Option Nat × Nat × Nat) (fun ⟨j, o1, n1, c1⟩ => [(0, .slice (o1.map at0) n1 c1), (7, .slice (some ⟨lb, 0, none⟩) k k), (8, iX ((k : Nat) : Int)), (9, iX ((j : Nat) : Int))]) (fun ⟨j, o1, n1, c1⟩ u => j ≤ k ∧ Own u tU8 1 o1 n1 c1 (u8s (xs ++ putsI (ns.take j))) ∧ App w u o o1 ∧ n1 ≤ n + 10 * j) (fun ⟨j, o1, n1, c1⟩ => k - j) (0, o, n, cap) rfl ?_ ?_
  · exact ⟨Nat.zero_le _, by simpa [putsI] using hO, App.refl _ _, Nat.le_refl _⟩
  · intro p w10 hI11 K12 hL13
    obtain ⟨j, o1, n1, c1⟩ := p
    obtain ⟨hj, hO1, hA1, hn1⟩ := hI11
    have hr1 := Ch.rd hA1.ch hr (fun h => hne _ h rfl)
    have hlb1 := Nat.lt_of_lt_of_le hlb hA1.ch.size
    refine ysr ?_
    refine yp 1 [] .z ?_
    refine ye ?_
    refine ys ?_
    refine yc (rL ((j : Nat) : Int) ((k : Nat) : Int)) (fun hC14 => ?_) fun hC14 => ?_
    · have hf15 := hC14
      have hv1 := hv _ (getD_mem (l := ns) (k := j) (by omega))
      refine yk ?_
      refine ys ?_
      refine x_block ?_
      refine ysr ?_
      refine yp 3 [] (.i ((j : Nat) : Int) (k) (.l (o := (0 + (((j : Nat) : Int)).toNat * 1)) (u64_cell hr1 (k := j) (by omega)) .z)) ?_
      refine ye ?_
      refine ys ?_
      refine x_block ?_
      refine ykeep [0, 6, 7, 8, 9] (f' := [(0, .slice (o1.map at0) n1 c1), (6, .int .u64 (ns.getD j 0)), (7, .slice (some ⟨lb, 0, none⟩) k k), (8, iX ((k : Nat) : Int)), (9, iX ((j : Nat) : Int))]) ?_
      refine x_loop (σ := Int × Nat × List Int × Option Nat × Nat × Nat) (fun ⟨x, f, zs, o2, n2, c2⟩ => [(0, .slice (o2.map at0) n2 c2), (6, .int .u64 x), (7, .slice (some ⟨lb, 0, none⟩) k k), (8, iX ((k : Nat) : Int)), (9, iX ((j : Nat) : Int))]) (fun ⟨x, f, zs, o2, n2, c2⟩ u => 0 ≤ x ∧ x.toNat < 128 ^ (f + 1) ∧ zs ++ putF f x.toNat = (xs ++ putsI (ns.take j)) ++ putN (ns.getD j 0).toNat ∧ Own u tU8 1 o2 n2 c2 (u8s zs) ∧ App w u o o2 ∧ n2 + f + 1 ≤ n1 + 10) (fun ⟨x, f, zs, o2, n2, c2⟩ => x.toNat) (ns.getD j 0, 9, xs ++ putsI (ns.take j), o1, n1, c1) rfl ?_ ?_
      · exact ⟨by omega, by have h7 : (128 : Nat) ^ (9 + 1) = 1180591620717411303424 := (by decide); rw [h7]; omega, rfl, hO1, hA1, by omega⟩
      · intro q w16 hI17 K18 hL19
        obtain ⟨x, f, zs, o2, n2, c2⟩ := q
        obtain ⟨hx0, hxf, hzs, hO2, hA2, hn2⟩ := hI17
        refine ys ?_
        refine ysr ?_
        refine yp 2 [] .z ?_
        refine ye ?_
        refine yc (rM 128 x) (fun hC20 => ?_) fun hC20 => ?_
        · have hf21 := hC20
          refine yk ?_
          refine ys ?_
          refine x_block ?_
          refine x_region ?_
          refine yp 4 [] .z ?_
          refine yo (yB [uX (bitsv .or .u8 (IntKind.wrap .u8 x) 128)] 5 1 fun w22 b23 hb24 hz25 hB26 hc27 => ?_)
          have hbn28 : ∀ b', o2 = some b' → ¬ b' = b23 := fun b' e => by have := hO2.ltOf e; omega
          have hO29 := hO2.ch hc27 iZ
          have hA30 := hA2.step hc27 iZ
          refine yo (e_app' 5 1 1 o2 n2 c2 (u8s zs) (some ⟨b23, 0, none⟩) 1 1 [uX (bitsv .or .u8 (IntKind.wrap .u8 x) 128)] (some 22) (n2 + 1) rfl (u8s (zs ++ [(bitsv .or .u8 (IntKind.wrap .u8 x) 128)])) (by rw [u8s, u8s, List.map_append]; rfl) (by kernel_rfl) hO29 (Rd.all hB26) rfl rfl (fun h => by cases h) (by constructor <;> first | omega | (simp only [maxLen]; omega)) ?_)
          intro w32 og33 cp34 hO35 hne36 hpos37 hc38
          have hA39 := hA30.trans (App.of hne36 hc38)
          refine yp 7 [] .z ?_
          refine yE (nB (nS ?_))
          refine x_region ?_
          refine yp 3 [] (.p (q := 0 ≤ (7 : Int)) (by omega) .z) ?_
          obtain ⟨f, rfl⟩ : ∃ f', f = f' + 1 := by
            cases f with
            | zero => exfalso; have : x.toNat < 128 := hxf; omega
            | succ f => exact ⟨f, rfl⟩
          have hxe : x = ((x.toNat : Nat) : Int) := by omega
          have hs7 := shr7_eq x.toNat
          have hl7 := low7_eq x.toNat
          rw [← hxe] at hs7 hl7
          have hpw : 128 ^ (f + 1 + 1) = 128 ^ (f + 1) * 128 := rfl
          have hq : zs ++ [low7 x] ++ putF f (shr7 x).toNat = (xs ++ putsI (ns.take j)) ++ putN (ns.getD j 0).toNat := by rw [← hzs, putF_big (by omega), hs7, hl7, Int.toNat_natCast, List.append_assoc]; rfl
          refine yE (fun a ha => hL19 (shr7 x, f, zs ++ [low7 x], og33, (n2 + 1), cp34) _ ⟨by rw [hs7]; omega, by rw [hs7]; omega, hq, hO35, hA39, by omega⟩ (by show (shr7 x).toNat < x.toNat; rw [hs7]; omega) a (ha.kp [0, 6, 7, 8, 9]))
        · have hf41 := hC20
          have hxe : x = ((x.toNat : Nat) : Int) := by omega
          have hw8 : IntKind.wrap .u8 x = ((x.toNat : Nat) : Int) := by rw [hxe, wrap8]; congr 1; omega
          have hq2 : zs ++ [IntKind.wrap .u8 x] = (xs ++ putsI (ns.take j)) ++ putN (ns.getD j 0).toNat := by rw [← hzs, putF_small (by omega), hw8]
          refine x_exit (eS (then_exit (block_exit (nS ?_))))
          refine x_region ?_
          refine yp 3 [] .z ?_
          refine yo (yB [uX (IntKind.wrap .u8 x)] 5 1 fun w42 b43 hb44 hz45 hB46 hc47 => ?_)
          have hbn48 : ∀ b', o2 = some b' → ¬ b' = b43 := fun b' e => by have := hO2.ltOf e; omega
          have hO49 := hO2.ch hc47 iZ
          have hA50 := hA2.step hc47 iZ
          refine yo (e_app' 5 1 1 o2 n2 c2 (u8s zs) (some ⟨b43, 0, none⟩) 1 1 [uX (IntKind.wrap .u8 x)] (some 27) (n2 + 1) rfl (u8s (zs ++ [(IntKind.wrap .u8 x)])) (by rw [u8s, u8s, List.map_append]; rfl) (by kernel_rfl) hO49 (Rd.all hB46) rfl rfl (fun h => by cases h) (by constructor <;> first | omega | (simp only [maxLen]; omega)) ?_)
          intro w52 og53 cp54 hO55 hne56 hpos57 hc58
          have hA59 := hA50.trans (App.of hne56 hc58)
          refine yp 6 [] .z ?_
          refine yE (nB (nS ?_))
          refine x_region ?_
          refine yp 2 [] (.q6 (((j : Nat) : Int) + 1) .z) ?_
          refine yE (fun a ha => hL13 (j + 1, og53, (n2 + 1), cp54) _ ⟨by omega, by rw [take_at (by omega), putsI_snoc, ← List.append_assoc, ← hq2]; exact hO55, hA59, by omega⟩ (by show k - (j + 1) < k - j; omega) a (ha.kp [0, 7, 8, 9]))
    · have hf61 := hC14
      have hjk : j = k := by omega
      refine x_exit (eS (then_exit (block_exit (nS ?_))))
      refine ysr ?_
      refine yp 2 [] .z ?_
      refine ye ?_
      refine x_ret (yR1 (.slice (o1.map at0) n1 c1) ?_)
      exact ⟨_, _, _, rfl, by rw [hjk, ← hk, List.take_length] at hO1; exact hO1, by omega, hA1⟩
end Go.Proofs.YtclnfbmmaofpjaaDoor.X
namespace Go.Proofs.YtclnfbmmaofpjaaDoor.X
open Go Go.RowKit Go.Proofs.YtclnfbmmaofpjaaDoor
theorem rdr_len0 {us : List Int} {n : Nat} (h : us.length = n) (hk : ¬ (((takeN us).2 : Nat) : Int) = 0) : n ≠ 0 := by
 rintro rfl
 obtain rfl := List.eq_nil_of_length_eq_zero h
 exact hk rfl
set_option maxHeartbeats 4000000 in
theorem num_anyX {rv D : Nat} {s0 s1 : RS} {lim x : Int} {w : World} (hA : RdrAt w rv D s0) (hN : numR lim s0 = (x, s1)) (hlim : lim ≤ 9223372036854775807) : Calls Tryd.prog 35 [pX rv, iX lim].toArray w fun e w' => e = .returned (iX x) ∧ RdrX w' rv D s1 ∧ Ch (fun j => j = rv) w w' := by
 obtain ⟨a, n, cap, us, bad, hI, rfl⟩ := hA
 refine yA Tryd.func35 rfl <| ysr <| yp 1 [] .z <| ye <| ysr <| yp 4 [] (.l (hI.blk.c 0) .z) <| yo (yQ (take_any a n cap us _ hI.rd hI.len (hI.z.imp (fun h => h.1) (fun h => ⟨_, h⟩)) hI.byt hI.big) fun w11 hc10 => ?_)
 have hX12 : Ch (fun j => j = rv) w w11 := Ch.trans (Ch.refl (fun j => j = rv) w) hc10 eZ
 have hB13 := hI.blk.ch hc10 id
 refine yp 10 [] .z <| ye <| ys <| ysr <| yp 5 [] (.l (hB13.c 1) .z) <| yw [19] (rY bad) (fun hC15 => ?_) fun hC15 => ?_
 ·have hf16 := hC15
  refine yp 22 [] .z <| ye <| yct <| ysr <| yp 3 [] .z <| yo (yS hB13 fun w17 hB18 hc19 => ?_)
  have hX20 : Ch (fun j => j = rv) w w17 := Ch.trans hX12 hc19 iZ
  replace hB18 : Blk w17 rv [.slice a n cap, .bool true] _ := Blk.to hB18 (by kernel_rfl)
  refine ye <| ysr <| yp 1 [] .z <| ye <| x_ret (rS (yR1 (iX 0) ?_))
  subst hf16
  rw [numR_bad] at hN
  obtain ⟨rfl, rfl⟩ := Prod.mk.inj hN
  exact ⟨rfl, hI.spoil hX20 hB18, hX20⟩
 have hf21 := hC15
 refine yp 9 [] .z <| yw [23] (rE (((takeN us).2 : Nat) : Int) 0) (fun hC22 => ?_) fun hC22 => ?_
 ·have hf23 := hC22
  refine yp 22 [] .z <| ye <| yct <| ysr <| yp 3 [] .z <| yo (yS hB13 fun w24 hB25 hc26 => ?_)
  have hX27 : Ch (fun j => j = rv) w w24 := Ch.trans hX12 hc26 iZ
  replace hB25 : Blk w24 rv [.slice a n cap, .bool true] _ := Blk.to hB25 (by kernel_rfl)
  refine ye <| ysr <| yp 1 [] .z <| ye <| x_ret (rS (yR1 (iX 0) ?_))
  rw [numR_no (.inl (by omega))] at hN
  obtain ⟨rfl, rfl⟩ := Prod.mk.inj hN
  exact ⟨rfl, hI.spoil hX27 hB25, hX27⟩
 have hf28 := hC22
 have hkl := (takeN_le hI.byt).1
 rw [hI.len] at hkl
 obtain ⟨ao, rfl⟩ := hI.some (rdr_len0 hI.len hf28)
 refine yp 13 [] .z <| yw [27] (rL 9223372036854775807 (((takeN us).1 : Nat) : Int)) (fun hC29 => ?_) fun hC29 => ?_
 ·have hf30 := hC29
  refine yp 22 [] .z <| ye <| yct <| ysr <| yp 3 [] .z <| yo (yS hB13 fun w31 hB32 hc33 => ?_)
  have hX34 : Ch (fun j => j = rv) w w31 := Ch.trans hX12 hc33 iZ
  replace hB32 : Blk w31 rv [.slice (some ⟨D, ao, none⟩) n cap, .bool true] _ := Blk.to hB32 (by kernel_rfl)
  refine ye <| ysr <| yp 1 [] .z <| ye <| x_ret (rS (yR1 (iX 0) ?_))
  rw [numR_no (.inr (.inl (by omega)))] at hN
  obtain ⟨rfl, rfl⟩ := Prod.mk.inj hN
  exact ⟨rfl, hI.spoil hX34 hB32, hX34⟩
 have hf35 := hC29
 refine yp 16 [] .z <| yw [30] (rL 0 lim) (fun hC36 => ?_) fun hC36 => ?_
 ·have hf37 := hC36
  refine yp 22 [18] (.p (q := InR .u64 lim) (in_u64 (by omega) (by omega)) .z) <| ye <| yc (rM lim (((takeN us).1 : Nat) : Int)) (fun hC38 => ?_) fun hC38 => ?_
  ·have hf39 := hC38
   refine ysr <| yp 3 [] .z <| yo (yS hB13 fun w40 hB41 hc42 => ?_)
   have hX43 : Ch (fun j => j = rv) w w40 := Ch.trans hX12 hc42 iZ
   replace hB41 : Blk w40 rv [.slice (some ⟨D, ao, none⟩) n cap, .bool true] _ := Blk.to hB41 (by kernel_rfl)
   refine ye <| ysr <| yp 1 [] .z <| ye <| x_ret (rS (yR1 (iX 0) ?_))
   rw [numR_no (.inr (.inr ⟨by omega, by omega⟩))] at hN
   obtain ⟨rfl, rfl⟩ := Prod.mk.inj hN
   exact ⟨rfl, hI.spoil hX43 hB41, hX43⟩
  have hf44 := hC38
  refine yk <| ysr <| yp 9 [] (.l (hB13.c 0) (.j (((takeN us).2 : Nat) : Int) (n) .z)) <| yo (yS hB13 fun w45 hB46 hc47 => ?_)
  have hX48 : Ch (fun j => j = rv) w w45 := Ch.trans hX12 hc47 iZ
  replace hB46 : Blk w45 rv [.slice (some ⟨D, (if cap = ((((takeN us).2 : Nat) : Int) : Int).toNat then ao else ao + ((((takeN us).2 : Nat) : Int) : Int).toNat * 1), none⟩) (n - ((((takeN us).2 : Nat) : Int) : Int).toNat) (cap - ((((takeN us).2 : Nat) : Int) : Int).toNat), .bool bad] _ := Blk.to hB46 (by kernel_rfl)
  refine ye <| ysr <| yp 3 [] (.q6 (((takeN us).1 : Nat) : Int) .z) <| ye <| x_ret (yR1 (iX (((takeN us).1 : Nat) : Int)) ?_)
  obtain rfl : bad = false := hf21
  rw [numR_yes (by omega) (by omega) (by omega)] at hN
  obtain ⟨rfl, rfl⟩ := Prod.mk.inj hN
  have hbb := hB46
  rw [Int.toNat_natCast] at hbb
  exact ⟨rfl, hI.drop _ hkl hX48 hbb, hX48⟩
 have hf49 := hC36
 refine yp 22 [] .z <| ye <| ycf <| yk <| ysr <| yp 9 [] (.l (hB13.c 0) (.j (((takeN us).2 : Nat) : Int) (n) .z)) <| yo (yS hB13 fun w50 hB51 hc52 => ?_)
 have hX53 : Ch (fun j => j = rv) w w50 := Ch.trans hX12 hc52 iZ
 replace hB51 : Blk w50 rv [.slice (some ⟨D, (if cap = ((((takeN us).2 : Nat) : Int) : Int).toNat then ao else ao + ((((takeN us).2 : Nat) : Int) : Int).toNat * 1), none⟩) (n - ((((takeN us).2 : Nat) : Int) : Int).toNat) (cap - ((((takeN us).2 : Nat) : Int) : Int).toNat), .bool bad] _ := Blk.to hB51 (by kernel_rfl)
 refine ye <| ysr <| yp 3 [] (.q6 (((takeN us).1 : Nat) : Int) .z) <| ye <| x_ret (yR1 (iX (((takeN us).1 : Nat) : Int)) ?_)
 obtain rfl : bad = false := hf21
 rw [numR_yes (by omega) (by omega) (by omega)] at hN
 obtain ⟨rfl, rfl⟩ := Prod.mk.inj hN
 have hbb := hB51
 rw [Int.toNat_natCast] at hbb
 exact ⟨rfl, hI.drop _ hkl hX53 hbb, hX53⟩
theorem num_any {rv D : Nat} {s0 s1 : RS} {lim x : Int} {w : World} (hA : RdrAt w rv D s0) (hN : numR lim s0 = (x, s1)) (hlim : lim ≤ 9223372036854775807) : Calls Tryd.prog 35 [pX rv, iX lim].toArray w fun e w' => e = .returned (iX x) ∧ RdrAt w' rv D s1 ∧ Ch (fun j => j = rv) w w' := (num_anyX hA hN hlim).mono fun _ _ h => ⟨h.1, h.2.1.at, h.2.2⟩
set_option maxHeartbeats 4000000 in
theorem good_any {rv D : Nat} {s0 : RS} {w : World} (hA : RdrAt w rv D s0) : Calls Tryd.prog 36 [pX rv].toArray w fun e w' => e = .returned (.bool s0.isSome) ∧ Ch (fun _ => False) w w' := by
 obtain ⟨a, n, cap, us, bad, hI, rfl⟩ := hA
 refine yA Tryd.func36 rfl <| ysr <| yp 1 [] .z <| ye <| ysr <| yp 6 [] (.l (hI.blk.c 1) .z) <| ye <| x_ret (yR1 (.bool (!bad)) ?_)
 refine ⟨congrArg Ending.returned (congrArg Value.bool ?_), (Ch.refl _ _)⟩
 unfold rsOf; cases bad <;> rfl
set_option maxHeartbeats 4000000 in
theorem done_any {rv D : Nat} {s0 : RS} {w : World} (hA : RdrAt w rv D s0) : Calls Tryd.prog 18 [pX rv].toArray w fun e w' => e = .returned (.bool (decide (s0 = some []))) ∧ Ch (fun _ => False) w w' := by
 obtain ⟨a, n, cap, us, bad, hI, rfl⟩ := hA
 refine yA Tryd.func18 rfl <| ysr <| yp 1 [] .z <| ye <| ysr <| yp 6 [] (.l (hI.blk.c 1) .z) <| yw [8] (rN (rY bad)) (fun hC10 => ?_) fun hC10 => ?_
 ·have hdb := hC10
  refine yp 14 [] (.l (hI.blk.c 0) .z) <| ye <| x_ret (yR1 (.bool ((((n : Nat) : Int) : Int) == 0)) ?_)
  refine ⟨congrArg Ending.returned (congrArg Value.bool ?_), (Ch.refl _ _)⟩
  have hln := hI.len
  unfold rsOf
  cases bad <;> cases us <;> simp_all <;> omega
 have hdb := hC10
 refine yp 14 [] .z <| ye <| x_ret (yR1 (.bool false) ?_)
 refine ⟨congrArg Ending.returned (congrArg Value.bool ?_), (Ch.refl _ _)⟩
 have hln := hI.len
 unfold rsOf
 cases bad <;> cases us <;> simp_all <;> omega
set_option maxHeartbeats 4000000 in
theorem of_any (D : Nat) (a : Option Addr) (n cap : Nat) (us : List Int) (w : World) (hr : Rd w a (u8s us)) (hl : us.length = n) (hle : n ≤ cap) (hz : (n = 0 ∧ cap = 0) ∨ ∃ o, a = some ⟨D, o, none⟩) (hb : byts us) (hn : n ≤ 1000000) (hD : D < w.heap.size) : Calls Tryd.prog 11 [.slice a n cap].toArray w fun e w' => ∃ rv, e = .returned (pX rv) ∧ w.heap.size ≤ rv ∧ RdrAt w' rv D (some us) ∧ Ch (fun _ => False) w w' := by
 refine yA Tryd.func11 rfl <| ysr <| yp 1 [] .z <| ye <| ysr <| yp 2 [] .z <| yo (yN [.slice a n cap, .bool false] 84 fun w10 b11 hb12 hz13 hB14 hc15 => ?_)
 have hlo16 : w.heap.size ≤ b11 := by rw [hb12]; exact Ch.size (Up.refl w.heap.size w)
 have hu17 := Up.step (Up.refl w.heap.size w) hc15 iZ
 refine yp 4 [] .z <| ye <| x_ret (yR1 (pX b11) ?_)
 exact ⟨_, rfl, by have := hB14.lt; have := Ch.size (Up.ch hu17); omega, ⟨a, n, cap, us, false, ⟨hB14, hr.ch (Up.ch hu17) iZ, hl, hle, hz, hb, by omega, hn, Nat.lt_of_lt_of_le hD (Ch.size (Up.ch hu17))⟩, rfl⟩, Up.ch hu17⟩
theorem rd_front {w : World} {a : Option Addr} {xs ys : List Value} (h : Rd w a (xs ++ ys)) : Rd w a xs :=
  ⟨fun e => (List.append_eq_nil_iff.1 (h.1 e)).1, fun ad e j u hj => h.2 ad e j u (by rw [List.getElem?_append_left (List.getElem?_eq_some_iff.1 hj).1]; exact hj)⟩
set_option maxHeartbeats 4000000 in
theorem text_anyR {rv D : Nat} {s0 s1 : RS} {most : Int} {x : ByteArray} {w : World} (hA : RdrAt w rv D s0) (hX : textR most s0 = (x, s1)) (hm : 0 < most ∧ most ≤ 1000000) : Calls Tryd.prog 16 [pX rv, iX most].toArray w fun e w' => e = .returned (.string x) ∧ RdrAt w' rv D s1 ∧ Ch (fun j => j = rv) w w' := by
 obtain ⟨h0, hm1⟩ := hm
 refine yA Tryd.func16 rfl <| ysr <| yp 1 [] .z <| ye <| ysr <| yp 1 [] .z <| ye <| ys <| ysr <| yp 2 [] .z <| ye <| yc (rL 0 most) (fun hC10 => ?_) fun hC10 => ?_
 ·have hf11 := hC10
  refine x_region <| yp 3 [] (.q6 (most + 1) .z) <| ye <| ysr <| yp 2 [] .z ?_
  obtain ⟨x12, s13, hN14⟩ : ∃ x s', numR ((most + 1)) s0 = (x, s') := ⟨_, _, rfl⟩
  have hbd17 := numR_bd (lim := (most + 1)) (s := s0)
  rw [hN14] at hbd17
  dsimp only at hbd17
  refine yo (yQ (num_anyX (lim := (most + 1)) hA hN14 (by omega)) ?_)
  rintro w18 ⟨hA15, hc16⟩
  have hX19 : Ch (fun j => j = rv) w w18 := Ch.trans (Ch.refl (fun j => j = rv) w) hc16 iZ
  obtain ⟨a1, n1, cap1, vs, bad1, hI1, hrs1, hx1⟩ := hA15
  refine yp 4 [] .z <| ye <| ys <| ysr <| yp 5 [] (.l (hI1.blk.c 1) .z) <| yw [19] (rY bad1) (fun hC20 => ?_) fun hC20 => ?_
  ·have hf21 := hC20
   refine yp 13 [] .z <| ye <| yct <| ysr <| yp 3 [] .z <| yo (yS hI1.blk fun w22 hB23 hc24 => ?_)
   have hX25 : Ch (fun j => j = rv) w w22 := Ch.trans hX19 hc24 iZ
   replace hB23 : Blk w22 rv [.slice a1 n1 cap1, .bool true] _ := Blk.to hB23 (by kernel_rfl)
   refine ye <| ysr <| yp 1 [] .z <| ye <| x_ret (rS (yR1 (.string ByteArray.empty) ?_))
   unfold textR at hX
   rw [if_pos h0, hN14] at hX
   obtain rfl : bad1 = true := hf21
   rw [hrs1] at hX
   obtain ⟨rfl, rfl⟩ := Prod.mk.inj hX
   exact ⟨rfl, (hI1.spoil (hc24) hB23).at, hX25⟩
  have hf26 := hC20
  refine yp 13 [] (.l (hI1.blk.c 0) .z) <| ye <| yc (rL ((n1 : Nat) : Int) x12) (fun hC27 => ?_) fun hC27 => ?_
  ·have hf28 := hC27
   refine ysr <| yp 3 [] .z <| yo (yS hI1.blk fun w29 hB30 hc31 => ?_)
   have hX32 : Ch (fun j => j = rv) w w29 := Ch.trans hX19 hc31 iZ
   replace hB30 : Blk w29 rv [.slice a1 n1 cap1, .bool true] _ := Blk.to hB30 (by kernel_rfl)
   refine ye <| ysr <| yp 1 [] .z <| ye <| x_ret (rS (yR1 (.string ByteArray.empty) ?_))
   unfold textR at hX
   rw [if_pos h0, hN14] at hX
   have hb1 : bad1 = false := hf26
   rw [hrs1, hb1] at hX
   have hX : (if (vs.length : Int) < x12 then (E0, none) else (bytesOf (vs.take (x12 : Int).toNat), some (vs.drop (x12 : Int).toNat))) = (x, s1) := hX
   rw [if_pos (by rw [hI1.len]; omega)] at hX
   obtain ⟨rfl, rfl⟩ := Prod.mk.inj hX
   exact ⟨rfl, (hI1.spoil (hc31) hB30).at, hX32⟩
  have hf33 := hC27
  have hln1 := hI1.len
  have hcl1 := hI1.le
  obtain ⟨ao, rfl⟩ := hx1.resolve_left (fun h => absurd (hf26.symm.trans h) (by decide))
  refine id ?_
  refine yk <| ysr <| yp 6 [] (.l (hI1.blk.c 0) (.j x12 (cap1) .z)) ?_
  have hr34 : Rd w18 (some ⟨D, ao, none⟩) ((vs.take (x12 : Int).toNat).map (Value.int .u8)) := by
   have h := hI1.rd
   rw [u8s, ← List.take_append_drop (x12 : Int).toNat vs, List.map_append] at h
   exact rd_front h
  refine yo (e_bytes (some ⟨D, ao, none⟩) (x12 : Int).toNat cap1 (vs.take (x12 : Int).toNat) (some 37) (by kernel_rfl) hr34 (by rw [List.length_take]; omega) ?_)
  refine yp 8 [] .z <| ye <| ysr <| yp 9 [] (.l (hI1.blk.c 0) (.j x12 (n1) .z)) <| yo (yS hI1.blk fun w35 hB36 hc37 => ?_)
  have hX38 : Ch (fun j => j = rv) w w35 := Ch.trans hX19 hc37 iZ
  replace hB36 : Blk w35 rv [.slice (some ⟨D, (if cap1 = (x12 : Int).toNat then ao else ao + (x12 : Int).toNat * 1), none⟩) (n1 - (x12 : Int).toNat) (cap1 - (x12 : Int).toNat), .bool bad1] _ := Blk.to hB36 (by kernel_rfl)
  refine ye <| ysr <| yp 2 [] .z <| ye <| x_ret (yR1 (.string (bytesOf (vs.take (x12 : Int).toNat))) ?_)
  unfold textR at hX
  rw [if_pos h0, hN14] at hX
  have hb1 : bad1 = false := hf26
  subst hb1
  rw [hrs1] at hX
  have hX : (if (vs.length : Int) < x12 then (E0, none) else (bytesOf (vs.take (x12 : Int).toNat), some (vs.drop (x12 : Int).toNat))) = (x, s1) := hX
  rw [if_neg (by rw [hI1.len]; omega)] at hX
  obtain ⟨rfl, rfl⟩ := Prod.mk.inj hX
  exact ⟨rfl, (hI1.drop _ (by omega) hc37 hB36).at, hX38⟩
 have hf39 := hC10
 exfalso; omega
end Go.Proofs.YtclnfbmmaofpjaaDoor.X
namespace Go.Proofs.YtclnfbmmaofpjaaDoor.X
open Go Go.RowKit Go.Proofs.YtclnfbmmaofpjaaDoor
theorem app_bytV (xs : List Int) (x : ByteArray) : u8s xs ++ bytV x = u8s (xs ++ bytI x) := by
 unfold u8s bytV bytI
 rw [List.map_append, List.map_map]
 rfl
theorem putsI_one (x : Int) : putsI [x] = putN x.toNat := by simp [putsI]
set_option maxHeartbeats 4000000 in
theorem putText_any {o : Option Nat} {n cap : Nat} {xs : List Int} {w : World} (hO : Own w tU8 1 o n cap (u8s xs)) (x : ByteArray) (hz : n + 10 + x.size ≤ 1000000000) : Calls Tryd.prog 33 [.slice (o.map at0) n cap, .string x].toArray w fun e w' => ∃ o' n' cap', e = .returned (.slice (o'.map at0) n' cap') ∧ Own w' tU8 1 o' n' cap' (u8s (xs ++ strI x)) ∧ n' ≤ n + (10 + x.size) ∧ App w w' o o' := by
 refine yA Tryd.func33 rfl <| ysr <| yp 1 [] .z <| ye <| ysr <| yp 4 [3] (.p (q := InR .u64 ((x).size : Int)) (in_u64 (by omega) (by omega)) .z) <| yo (yB [.int .u64 ((x).size : Int)] 75 1 fun w10 b11 hb12 hz13 hB14 hc15 => ?_)
 have hbn16 : ∀ b', o = some b' → ¬ b' = b11 := fun b' e => by have := hO.ltOf e; omega
 have hO17 := hO.ch hc15 iZ
 have hA18 := (App.refl w o).step hc15 iZ
 refine yo (yC (put_any o n cap xs b11 1 [((x).size : Int)] _ hO17 (Rd.all hB14) rfl (by intro x hx; simp only [List.mem_cons, List.not_mem_nil, or_false] at hx; subst hx; constructor <;> omega) hB14.lt hbn16 (by omega)) ?_)
 rintro _ w25 ⟨og19, ng20, cp21, rfl, hO22, hn23, hA24⟩
 refine ⟨_, rfl, ?_⟩
 have hbn26 := hA24.apart hB14.lt hbn16
 have hA27 := hA18.trans hA24
 have hB28 := hB14.ch hA24.ch (fun h => hbn16 _ h rfl)
 refine yp 7 [] .z ?_
 refine yo (e_appS 5 og19 ng20 cp21 (u8s (xs ++ putsI [((x).size : Int)])) x (some 12) (ng20 + (x).size) rfl (by kernel_rfl) hO22 (by constructor <;> first | omega | (simp only [maxLen]; omega)) ?_)
 intro w29 og30 cp31 hO32 hA33
 rw [app_bytV] at hO32
 have hbn34 := hA33.apart hB28.lt hbn26
 have hA35 := hA27.trans hA33
 refine yp 9 [] .z <| ye <| x_ret (yR1 (.slice (og30.map at0) (ng20 + (x).size) cp31) ?_)
 exact ⟨_, _, _, rfl, by have h := hO32; rw [putsI_one, Int.toNat_natCast, List.append_assoc] at h; exact h, by omega, hA35⟩
def bitsG (s : Sty) : Int :=
  let n0 := bitsv .or .u64 s.fore (IntKind.wrap .u64 (s.back * 2 ^ min (4 : Int).toNat (IntKind.bits .u64)))
  let n1 := if s.bold = true then bitsv .or .u64 n0 256 else n0
  let n2 := if s.under = true then bitsv .or .u64 n1 512 else n1
  if s.turned = true then bitsv .or .u64 n2 1024 else n2
theorem bitsG_all : ∀ f, f < 9 → ∀ k, k < 9 → ∀ a b c : Bool, bitsG ⟨a, b, c, ((f : Nat) : Int), ((k : Nat) : Int)⟩ = ((bitsS ⟨a, b, c, ((f : Nat) : Int), ((k : Nat) : Int)⟩ : Nat) : Int) := by decide +kernel
theorem bitsG_eq {s : Sty} (h : styleB s = true) : bitsG s = ((bitsS s : Nat) : Int) := by
 obtain ⟨a, b, c, f, k⟩ := s
 simp only [styleB, Bool.and_eq_true, decide_eq_true_eq] at h
 obtain ⟨f, rfl⟩ : ∃ n : Nat, f = (n : Int) := ⟨f.toNat, by omega⟩
 obtain ⟨k, rfl⟩ : ∃ n : Nat, k = (n : Int) := ⟨k.toNat, by omega⟩
 exact bitsG_all f (by omega) k (by omega) a b c
theorem bits_eq {s : Sty} {v : Int} (h : styleB s = true) (e : bitsG s = v) : v = ((bitsS s : Nat) : Int) := e.symm.trans (bitsG_eq h)
theorem style_bd {s : Sty} (h : styleB s = true) : (0 ≤ s.fore ∧ s.fore ≤ 8) ∧ 0 ≤ s.back ∧ s.back ≤ 8 := by
 simp only [styleB, Bool.and_eq_true, decide_eq_true_eq] at h
 omega
set_option maxHeartbeats 4000000 in
theorem bits_any (sx : Sty) (hs : styleB sx = true) (w : World) : Calls Tryd.prog 44 [.agg #[.bool sx.bold, .bool sx.under, .bool sx.turned, iX sx.fore, iX sx.back]].toArray w fun e w' => e = .returned (.int .u64 ((bitsS sx : Nat) : Int)) ∧ Ch (fun _ => False) w w' := by
 have hbd := style_bd hs
 refine yA Tryd.func44 rfl <| ysr <| yo (yN [.bool sx.bold, .bool sx.under, .bool sx.turned, iX sx.fore, iX sx.back] 30 fun w10 b11 hb12 hz13 hB14 hc15 => ?_)
 have hlo16 : w.heap.size ≤ b11 := by rw [hb12]; exact Ch.size (Up.refl w.heap.size w)
 have hu17 := Up.step (Up.refl w.heap.size w) hc15 iZ
 refine yp 2 [] .z <| ye <| ysr <| yp 9 [2, 5] (.l (hB14.c 3) (.p (q := InR .u64 sx.fore) (in_u64 (by omega) (by omega)) (.l (hB14.c 4) (.p (q := InR .u64 sx.back) (in_u64 (by omega) (by omega)) (.p (q := 0 ≤ (4 : Int)) (by omega) .z))))) <| ye <| ys <| ysr <| yp 8 [] (.l (hB14.c 0) (.l (hB14.c 1) (.l (hB14.c 2) .z))) <| ye <| x_block <| yU 4 (yU1 ?_)
 refine ysr <| yp 1 [] .z <| ye <| ys <| yct <| yk <| ys <| x_block <| ysr <| yp 4 [] .z <| ye <| ysr <| yp 1 [] .z <| ye <| yc (rY sx.bold) (fun hC18 => ?_) fun hC18 => ?_
 ·have hb19 := hC18
  refine x_region <| yp 5 [] (.p (q := 0 ≤ (0 : Int)) (by omega) .z) <| yE (nB (nS ?_))
  refine x_region <| yp 2 [] (.q6 1 .z) <| yE (nU (yU1 ?_))
  refine ysr <| yp 1 [] .z <| ye <| ys <| yct <| yk <| ys <| x_block <| ysr <| yp 4 [] .z <| ye <| ysr <| yp 1 [] .z <| ye <| yc (rY sx.under) (fun hC20 => ?_) fun hC20 => ?_
  ·have hb21 := hC20
   refine x_region <| yp 5 [] (.p (q := 0 ≤ (1 : Int)) (by omega) .z) <| yE (nB (nS ?_))
   refine x_region <| yp 2 [] (.q6 2 .z) <| yE (nU (yU1 ?_))
   refine ysr <| yp 1 [] .z <| ye <| ys <| yct <| yk <| ys <| x_block <| ysr <| yp 4 [] .z <| ye <| ysr <| yp 1 [] .z <| ye <| yc (rY sx.turned) (fun hC22 => ?_) fun hC22 => ?_
   ·have hb23 := hC22
    refine x_region <| yp 5 [] (.p (q := 0 ≤ (2 : Int)) (by omega) .z) <| yE (nB (nS ?_))
    refine x_region <| yp 2 [] (.q6 3 .z) <| yE (nU (yU1 ?_))
    refine ysr <| yp 1 [] .z <| ye <| ys <| ycf <| x_exit (eS (then_exit (block_exit (nS ?_))))
    refine ysr <| yp 2 [] .z <| ye <| x_ret (yR1 (.int .u64 (bitsv .or .u64 (bitsv .or .u64 (bitsv .or .u64 (bitsv .or .u64 sx.fore (IntKind.wrap .u64 (sx.back * 2 ^ min (4 : Int).toNat (IntKind.bits .u64)))) 256) 512) 1024)) ?_)
    refine ⟨congrArg Ending.returned (congrArg (Value.int .u64) ?_), Up.ch hu17⟩
    refine bits_eq hs ?_
    unfold bitsG
    simp only [hb19, hb21, hb23, Bool.false_eq_true, ↓reduceIte]
   have hb24 := hC22
   refine x_skip (nB (nS ?_))
   refine x_region <| yp 2 [] (.q6 3 .z) <| yE (nU (yU1 ?_))
   refine ysr <| yp 1 [] .z <| ye <| ys <| ycf <| x_exit (eS (then_exit (block_exit (nS ?_))))
   refine ysr <| yp 2 [] .z <| ye <| x_ret (yR1 (.int .u64 (bitsv .or .u64 (bitsv .or .u64 (bitsv .or .u64 sx.fore (IntKind.wrap .u64 (sx.back * 2 ^ min (4 : Int).toNat (IntKind.bits .u64)))) 256) 512)) ?_)
   refine ⟨congrArg Ending.returned (congrArg (Value.int .u64) ?_), Up.ch hu17⟩
   refine bits_eq hs ?_
   unfold bitsG
   simp only [hb19, hb21, hb24, Bool.false_eq_true, ↓reduceIte]
  have hb25 := hC20
  refine x_skip (nB (nS ?_))
  refine x_region <| yp 2 [] (.q6 2 .z) <| yE (nU (yU1 ?_))
  refine ysr <| yp 1 [] .z <| ye <| ys <| yct <| yk <| ys <| x_block <| ysr <| yp 4 [] .z <| ye <| ysr <| yp 1 [] .z <| ye <| yc (rY sx.turned) (fun hC26 => ?_) fun hC26 => ?_
  ·have hb27 := hC26
   refine x_region <| yp 5 [] (.p (q := 0 ≤ (2 : Int)) (by omega) .z) <| yE (nB (nS ?_))
   refine x_region <| yp 2 [] (.q6 3 .z) <| yE (nU (yU1 ?_))
   refine ysr <| yp 1 [] .z <| ye <| ys <| ycf <| x_exit (eS (then_exit (block_exit (nS ?_))))
   refine ysr <| yp 2 [] .z <| ye <| x_ret (yR1 (.int .u64 (bitsv .or .u64 (bitsv .or .u64 (bitsv .or .u64 sx.fore (IntKind.wrap .u64 (sx.back * 2 ^ min (4 : Int).toNat (IntKind.bits .u64)))) 256) 1024)) ?_)
   refine ⟨congrArg Ending.returned (congrArg (Value.int .u64) ?_), Up.ch hu17⟩
   refine bits_eq hs ?_
   unfold bitsG
   simp only [hb19, hb25, hb27, Bool.false_eq_true, ↓reduceIte]
  have hb28 := hC26
  refine x_skip (nB (nS ?_))
  refine x_region <| yp 2 [] (.q6 3 .z) <| yE (nU (yU1 ?_))
  refine ysr <| yp 1 [] .z <| ye <| ys <| ycf <| x_exit (eS (then_exit (block_exit (nS ?_))))
  refine ysr <| yp 2 [] .z <| ye <| x_ret (yR1 (.int .u64 (bitsv .or .u64 (bitsv .or .u64 sx.fore (IntKind.wrap .u64 (sx.back * 2 ^ min (4 : Int).toNat (IntKind.bits .u64)))) 256)) ?_)
  refine ⟨congrArg Ending.returned (congrArg (Value.int .u64) ?_), Up.ch hu17⟩
  refine bits_eq hs ?_
  unfold bitsG
  simp only [hb19, hb25, hb28, Bool.false_eq_true, ↓reduceIte]
 have hb29 := hC18
 refine x_skip (nB (nS ?_))
 refine x_region <| yp 2 [] (.q6 1 .z) <| yE (nU (yU1 ?_))
 refine ysr <| yp 1 [] .z <| ye <| ys <| yct <| yk <| ys <| x_block <| ysr <| yp 4 [] .z <| ye <| ysr <| yp 1 [] .z <| ye <| yc (rY sx.under) (fun hC30 => ?_) fun hC30 => ?_
 ·have hb31 := hC30
  refine x_region <| yp 5 [] (.p (q := 0 ≤ (1 : Int)) (by omega) .z) <| yE (nB (nS ?_))
  refine x_region <| yp 2 [] (.q6 2 .z) <| yE (nU (yU1 ?_))
  refine ysr <| yp 1 [] .z <| ye <| ys <| yct <| yk <| ys <| x_block <| ysr <| yp 4 [] .z <| ye <| ysr <| yp 1 [] .z <| ye <| yc (rY sx.turned) (fun hC32 => ?_) fun hC32 => ?_
  ·have hb33 := hC32
   refine x_region <| yp 5 [] (.p (q := 0 ≤ (2 : Int)) (by omega) .z) <| yE (nB (nS ?_))
   refine x_region <| yp 2 [] (.q6 3 .z) <| yE (nU (yU1 ?_))
   refine ysr <| yp 1 [] .z <| ye <| ys <| ycf <| x_exit (eS (then_exit (block_exit (nS ?_))))
   refine ysr <| yp 2 [] .z <| ye <| x_ret (yR1 (.int .u64 (bitsv .or .u64 (bitsv .or .u64 (bitsv .or .u64 sx.fore (IntKind.wrap .u64 (sx.back * 2 ^ min (4 : Int).toNat (IntKind.bits .u64)))) 512) 1024)) ?_)
   refine ⟨congrArg Ending.returned (congrArg (Value.int .u64) ?_), Up.ch hu17⟩
   refine bits_eq hs ?_
   unfold bitsG
   simp only [hb29, hb31, hb33, Bool.false_eq_true, ↓reduceIte]
  have hb34 := hC32
  refine x_skip (nB (nS ?_))
  refine x_region <| yp 2 [] (.q6 3 .z) <| yE (nU (yU1 ?_))
  refine ysr <| yp 1 [] .z <| ye <| ys <| ycf <| x_exit (eS (then_exit (block_exit (nS ?_))))
  refine ysr <| yp 2 [] .z <| ye <| x_ret (yR1 (.int .u64 (bitsv .or .u64 (bitsv .or .u64 sx.fore (IntKind.wrap .u64 (sx.back * 2 ^ min (4 : Int).toNat (IntKind.bits .u64)))) 512)) ?_)
  refine ⟨congrArg Ending.returned (congrArg (Value.int .u64) ?_), Up.ch hu17⟩
  refine bits_eq hs ?_
  unfold bitsG
  simp only [hb29, hb31, hb34, Bool.false_eq_true, ↓reduceIte]
 have hb35 := hC30
 refine x_skip (nB (nS ?_))
 refine x_region <| yp 2 [] (.q6 2 .z) <| yE (nU (yU1 ?_))
 refine ysr <| yp 1 [] .z <| ye <| ys <| yct <| yk <| ys <| x_block <| ysr <| yp 4 [] .z <| ye <| ysr <| yp 1 [] .z <| ye <| yc (rY sx.turned) (fun hC36 => ?_) fun hC36 => ?_
 ·have hb37 := hC36
  refine x_region <| yp 5 [] (.p (q := 0 ≤ (2 : Int)) (by omega) .z) <| yE (nB (nS ?_))
  refine x_region <| yp 2 [] (.q6 3 .z) <| yE (nU (yU1 ?_))
  refine ysr <| yp 1 [] .z <| ye <| ys <| ycf <| x_exit (eS (then_exit (block_exit (nS ?_))))
  refine ysr <| yp 2 [] .z <| ye <| x_ret (yR1 (.int .u64 (bitsv .or .u64 (bitsv .or .u64 sx.fore (IntKind.wrap .u64 (sx.back * 2 ^ min (4 : Int).toNat (IntKind.bits .u64)))) 1024)) ?_)
  refine ⟨congrArg Ending.returned (congrArg (Value.int .u64) ?_), Up.ch hu17⟩
  refine bits_eq hs ?_
  unfold bitsG
  simp only [hb29, hb35, hb37, Bool.false_eq_true, ↓reduceIte]
 have hb38 := hC36
 refine x_skip (nB (nS ?_))
 refine x_region <| yp 2 [] (.q6 3 .z) <| yE (nU (yU1 ?_))
 refine ysr <| yp 1 [] .z <| ye <| ys <| ycf <| x_exit (eS (then_exit (block_exit (nS ?_))))
 refine ysr <| yp 2 [] .z <| ye <| x_ret (yR1 (.int .u64 (bitsv .or .u64 sx.fore (IntKind.wrap .u64 (sx.back * 2 ^ min (4 : Int).toNat (IntKind.bits .u64))))) ?_)
 refine ⟨congrArg Ending.returned (congrArg (Value.int .u64) ?_), Up.ch hu17⟩
 refine bits_eq hs ?_
 unfold bitsG
 simp only [hb29, hb35, hb38, Bool.false_eq_true, ↓reduceIte]
set_option maxHeartbeats 4000000 in
theorem putStyle_any {o : Option Nat} {n cap : Nat} {xs : List Int} {w : World} (hO : Own w tU8 1 o n cap (u8s xs)) (sx : Sty) (hs : styleB sx = true) (hz : n + 10 ≤ 1000000000) : Calls Tryd.prog 41 [.slice (o.map at0) n cap, .agg #[.bool sx.bold, .bool sx.under, .bool sx.turned, iX sx.fore, iX sx.back]].toArray w fun e w' => ∃ o' n' cap', e = .returned (.slice (o'.map at0) n' cap') ∧ Own w' tU8 1 o' n' cap' (u8s (xs ++ putN (bitsS sx))) ∧ n' ≤ n + 10 ∧ App w w' o o' := by
 have hlt := bitsS_lt hs
 refine yA Tryd.func41 rfl <| ysr <| yo (yN [.bool sx.bold, .bool sx.under, .bool sx.turned, iX sx.fore, iX sx.back] 30 fun w10 b11 hb12 hz13 hB14 hc15 => ?_)
 have hbn16 : ∀ b', o = some b' → ¬ b' = b11 := fun b' e => by have := hO.ltOf e; omega
 have hO17 := hO.ch hc15 iZ
 have hA18 := (App.refl w o).step hc15 iZ
 refine yp 2 [] .z <| ye <| ysr <| yp 2 [] (.a (hB14.cs 0 5) .z) <| yo (yQ (bits_any sx hs _) fun w20 hc19 => ?_)
 have hO21 := hO17.ch hc19 iZ
 have hA22 := hA18.step hc19 iZ
 have hB23 := hB14.ch hc19 id
 refine yo (yB [.int .u64 ((bitsS sx : Nat) : Int)] 75 1 fun w24 b25 hb26 hz27 hB28 hc29 => ?_)
 have hbn30 : ∀ b', o = some b' → ¬ b' = b25 := fun b' e => by have := hO21.ltOf e; omega
 have hO31 := hO21.ch hc29 iZ
 have hA32 := hA22.step hc29 iZ
 have hB33 := hB23.ch hc29 id
 refine yo (yC (put_any o n cap xs b25 1 [((bitsS sx : Nat) : Int)] _ hO31 (Rd.all hB28) rfl (by intro x hx; simp only [List.mem_cons, List.not_mem_nil, or_false] at hx; subst hx; constructor <;> omega) hB28.lt hbn30 (by omega)) ?_)
 rintro _ w40 ⟨og34, ng35, cp36, rfl, hO37, hn38, hA39⟩
 refine ⟨_, rfl, ?_⟩
 have hbn41 := hA39.apart hB33.lt hbn16
 have hbn42 := hA39.apart hB28.lt hbn30
 have hA43 := hA32.trans hA39
 refine yp 6 [] .z <| ye <| x_ret (yR1 (.slice (og34.map at0) ng35 cp36) ?_)
 exact ⟨_, _, _, rfl, by have h := hO37; rw [putsI_one, Int.toNat_natCast] at h; exact h, by omega, hA43⟩
end Go.Proofs.YtclnfbmmaofpjaaDoor.X
namespace Go.Proofs.YtclnfbmmaofpjaaDoor.X
open Go Go.RowKit Go.Proofs.YtclnfbmmaofpjaaDoor
def styG (x : Int) : Sty := ⟨decide (0 < bitsv .and .i64 x 256), decide (0 < bitsv .and .i64 x 512), decide (0 < bitsv .and .i64 x 1024), bitsv .and .i64 x 15, bitsv .and .i64 (Int.fdiv x (2 ^ min (4 : Int).toNat (IntKind.bits .i64))) 15⟩
set_option maxRecDepth 100000 in
theorem styG_all : ∀ n, n < 2048 → styG ((n : Nat) : Int) = styOf n := by decide +kernel
theorem styR_eq {s s1 : RS} {x : Int} (h : numR 2048 s = (x, s1)) : styR s = if (s1.isSome && styleB (styG x)) = true then (styG x, true, s1) else (sty0, false, s1) := by
 have hb := numR_bd (lim := 2048) (s := s)
 rw [h] at hb
 dsimp only at hb
 have h2 := hb.2.2 (by decide)
 have e : styG x = styOf x.toNat := by
  have := styG_all x.toNat (by omega)
  rwa [Int.toNat_of_nonneg hb.1] at this
 unfold styR
 rw [h, e]
theorem drop_run {l : List Cel} {c : Cel} {i k : Nat} (hik : i ≤ k) (hk : k ≤ l.length) (h : ∀ j : Nat, i ≤ j → j < k → gc l (j : Int) = c) : l.drop i = List.replicate (k - i) c ++ l.drop k := by
 apply List.ext_getElem?
 intro j
 rw [List.getElem?_drop, List.getElem?_append, List.length_replicate]
 split
 ·rename_i hj
  rw [List.getElem?_replicate, if_pos hj, List.getElem?_eq_getElem (by omega), ← gc_get (by omega), h (i + j) (by omega) (by omega)]
 rename_i hj
 rw [List.getElem?_drop]
 congr 1; omega
theorem putsI_two (x y : Int) : putsI [x, y] = putN x.toNat ++ putN y.toNat := by simp [putsI]
theorem head_drop {l : List Cel} {k : Nat} (h : k < l.length) : (l.drop k).head? = some (gc l (k : Int)) := by
 rw [List.head?_drop, List.getElem?_eq_getElem h, gc_get h]
set_option maxHeartbeats 4000000 in
theorem takeStyle_any {rv D : Nat} {s0 s1 : RS} {t : Sty} {ok : Bool} {w : World} (hA : RdrAt w rv D s0) (hS : styR s0 = (t, ok, s1)) : Calls Tryd.prog 37 [pX rv].toArray w fun e w' => e = .returned (.tuple #[.agg #[.bool t.bold, .bool t.under, .bool t.turned, iX t.fore, iX t.back], .bool ok]) ∧ RdrAt w' rv D s1 ∧ Ch (fun j => j = rv) w w' := by
 refine yA Tryd.func37 rfl <| ysr <| yo (yN [.bool false, .bool false, .bool false, iX 0, iX 0] 30 fun w10 b11 hb12 hz13 hB14 hc15 => ?_)
 have hX16 : Ch (fun j => j = rv) w w10 := Ch.trans (Ch.refl (fun j => j = rv) w) hc15 eZ
 have hlo17 : w.heap.size ≤ b11 := by rw [hb12]; exact Ch.size (Ch.refl (fun j => j = rv) w)
 have hA18 := hA.ch hc15 id id
 refine yp 2 [] .z <| ye <| ysr <| yp 1 [] .z ?_
 obtain ⟨x19, s20, hN21⟩ : ∃ x s', numR (2048) s0 = (x, s') := ⟨_, _, rfl⟩
 have hbd24 := numR_bd (lim := 2048) (s := s0)
 rw [hN21] at hbd24
 dsimp only at hbd24
 refine yo (yQ (num_any (lim := 2048) hA18 hN21 (by omega)) ?_)
 rintro w25 ⟨hA22, hc23⟩
 have hX26 : Ch (fun j => j = rv) w w25 := Ch.trans hX16 hc23 iZ
 have hB27 := hB14.ch hc23 (fun (h : b11 = rv) => by have := hlo17; have := hA.lt; omega)
 refine yp 3 [] .z <| ye <| ysr <| yp 15 [] (.p (q := 0 ≤ (4 : Int)) (by omega) .z) <| yo (yN [.bool false, .bool false, .bool false, iX 0, iX 0] 30 fun w28 b29 hb30 hz31 hB32 hc33 => ?_)
 have hX34 : Ch (fun j => j = rv) w w28 := Ch.trans hX26 hc33 eZ
 have hlo35 : w.heap.size ≤ b29 := by rw [hb30]; exact Ch.size hX26
 have hB36 := hB27.ch hc33 id
 have hA37 := hA22.ch hc33 id id
 refine yo (yS hB32 fun w38 hB39 hc40 => ?_)
 have hX41 : Ch (fun j => j = rv) w w38 := Ch.trans hX34 hc40 (fun i hi (h : i = b29) => by have := hlo35; omega)
 have hB42 := hB36.ch hc40 (fun (h : b11 = b29) => by have := hB27.lt; omega)
 have hA43 := hA37.ch hc40 (fun (h : rv = b29) => by have := hlo35; have := hA.lt; omega) (fun (h : D = b29) => by have := hlo35; have := hA.dlt; omega)
 replace hB39 : Blk w38 b29 [.bool (decide (0 < (bitsv .and .i64 x19 256))), .bool (decide (0 < (bitsv .and .i64 x19 512))), .bool (decide (0 < (bitsv .and .i64 x19 1024))), iX (bitsv .and .i64 x19 15), iX (bitsv .and .i64 (Int.fdiv x19 (2 ^ min (4 : Int).toNat (IntKind.bits .i64))) 15)] _ := Blk.to hB39 (by kernel_rfl)
 refine ye <| ys <| ysr <| yp 1 [] .z <| yo (yQ (good_any hA43) fun w45 hc44 => ?_)
 have hX46 : Ch (fun j => j = rv) w w45 := Ch.trans hX41 hc44 eZ
 have hB47 := hB42.ch hc44 id
 have hA48 := hA43.ch hc44 id id
 have hB49 := hB39.ch hc44 id
 refine yp 4 [] .z <| yw [26] (rN (rY s20.isSome)) (fun hC50 => ?_) fun hC50 => ?_
 ·have hgd := hC50
  refine yp 8 [] .z <| ye <| yct <| ysr <| yp 1 [] .z <| yo (yS hB47 fun w51 hB52 hc53 => ?_)
  have hX54 : Ch (fun j => j = rv) w w51 := Ch.trans hX46 hc53 (fun i hi (h : i = b11) => by have := hlo17; omega)
  have hA55 := hA48.ch hc53 (fun (h : rv = b11) => by have := hlo17; have := hA.lt; omega) (fun (h : D = b11) => by have := hlo17; have := hA.dlt; omega)
  replace hB52 : Blk w51 b11 [.bool false, .bool false, .bool false, iX 0, iX 0] _ := Blk.to hB52 (by kernel_rfl)
  refine yp 3 [] .z <| ye <| x_ret (rS (yR2 [.agg #[.bool false, .bool false, .bool false, iX 0, iX 0], .bool false] (.a (hB52.cs 0 5) .z) ?_))
  rw [styR_eq hN21] at hS
  rw [if_neg (by rw [hgd]; simp)] at hS
  simp only [Prod.mk.injEq] at hS
  obtain ⟨rfl, rfl, rfl⟩ := hS
  exact ⟨rfl, hA55, hX54⟩
 have hgd := hC50
 refine yp 5 [] (.a (hB49.cs 0 5) .z) <| yo (yQ (style_any ⟨(decide (0 < (bitsv .and .i64 x19 256))), (decide (0 < (bitsv .and .i64 x19 512))), (decide (0 < (bitsv .and .i64 x19 1024))), (bitsv .and .i64 x19 15), (bitsv .and .i64 (Int.fdiv x19 (2 ^ min (4 : Int).toNat (IntKind.bits .i64))) 15)⟩ _) fun w58 hc57 => ?_)
 have hX59 : Ch (fun j => j = rv) w w58 := Ch.trans hX46 hc57 eZ
 have hB60 := hB47.ch hc57 id
 have hA61 := hA48.ch hc57 id id
 have hB62 := hB49.ch hc57 id
 refine yp 8 [] .z <| ye <| yc (rN (rY (styleB ⟨(decide (0 < (bitsv .and .i64 x19 256))), (decide (0 < (bitsv .and .i64 x19 512))), (decide (0 < (bitsv .and .i64 x19 1024))), (bitsv .and .i64 x19 15), (bitsv .and .i64 (Int.fdiv x19 (2 ^ min (4 : Int).toNat (IntKind.bits .i64))) 15)⟩))) (fun hC63 => ?_) fun hC63 => ?_
 ·have hst : styleB (styG x19) = false := hC63
  refine ysr <| yp 1 [] .z <| yo (yS hB60 fun w64 hB65 hc66 => ?_)
  have hX67 : Ch (fun j => j = rv) w w64 := Ch.trans hX59 hc66 (fun i hi (h : i = b11) => by have := hlo17; omega)
  have hA68 := hA61.ch hc66 (fun (h : rv = b11) => by have := hlo17; have := hA.lt; omega) (fun (h : D = b11) => by have := hlo17; have := hA.dlt; omega)
  replace hB65 : Blk w64 b11 [.bool false, .bool false, .bool false, iX 0, iX 0] _ := Blk.to hB65 (by kernel_rfl)
  refine yp 3 [] .z <| ye <| x_ret (rS (yR2 [.agg #[.bool false, .bool false, .bool false, iX 0, iX 0], .bool false] (.a (hB65.cs 0 5) .z) ?_))
  rw [styR_eq hN21] at hS
  rw [if_neg (by rw [hgd, hst]; decide)] at hS
  simp only [Prod.mk.injEq] at hS
  obtain ⟨rfl, rfl, rfl⟩ := hS
  exact ⟨rfl, hA68, hX67⟩
 have hst : styleB (styG x19) = true := hC63
 refine yk <| ysr <| yp 1 [] (.a (hB62.cs 0 5) .z) <| yo (yS hB60 fun w70 hB71 hc72 => ?_)
 have hX73 : Ch (fun j => j = rv) w w70 := Ch.trans hX59 hc72 (fun i hi (h : i = b11) => by have := hlo17; omega)
 have hA74 := hA61.ch hc72 (fun (h : rv = b11) => by have := hlo17; have := hA.lt; omega) (fun (h : D = b11) => by have := hlo17; have := hA.dlt; omega)
 replace hB71 : Blk w70 b11 [.bool (decide (0 < (bitsv .and .i64 x19 256))), .bool (decide (0 < (bitsv .and .i64 x19 512))), .bool (decide (0 < (bitsv .and .i64 x19 1024))), iX (bitsv .and .i64 x19 15), iX (bitsv .and .i64 (Int.fdiv x19 (2 ^ min (4 : Int).toNat (IntKind.bits .i64))) 15)] _ := Blk.to hB71 (by kernel_rfl)
 refine yp 3 [] .z <| ye <| x_ret (yR2 [.agg #[.bool (decide (0 < (bitsv .and .i64 x19 256))), .bool (decide (0 < (bitsv .and .i64 x19 512))), .bool (decide (0 < (bitsv .and .i64 x19 1024))), iX (bitsv .and .i64 x19 15), iX (bitsv .and .i64 (Int.fdiv x19 (2 ^ min (4 : Int).toNat (IntKind.bits .i64))) 15)], .bool true] (.a (hB71.cs 0 5) .z) ?_)
 rw [styR_eq hN21] at hS
 rw [if_pos (by rw [hgd, hst]; rfl)] at hS
 simp only [Prod.mk.injEq] at hS
 obtain ⟨rfl, rfl, rfl⟩ := hS
 exact ⟨rfl, hA74, hX73⟩
set_option maxHeartbeats 4000000 in
theorem putLine_any {o : Option Nat} {n cap : Nat} {xs : List Int} {w : World} (hO : Own w tU8 1 o n cap (u8s xs)) (lb ln lc : Nat) (l : List Cel) (hr : Rd w (some ⟨lb, 0, none⟩) (flat l)) (hlb : lb < w.heap.size) (hne : ∀ b, o = some b → ¬ b = lb) (hln : l.length = ln) (hcs : ∀ c ∈ l, cOk c) (hz : n + 30 * ln ≤ 1000000000) : Calls Tryd.prog 31 [.slice (o.map at0) n cap, .slice (some ⟨lb, 0, none⟩) ln lc].toArray w fun e w' => ∃ o' n' cap', e = .returned (.slice (o'.map at0) n' cap') ∧ Own w' tU8 1 o' n' cap' (u8s (xs ++ lineI l)) ∧ n' ≤ n + 30 * ln ∧ App w w' o o' := by
 refine yA Tryd.func31 rfl <| ysr <| yp 1 [] .z <| ye <| ys <| ysr <| yp 1 [] .z <| ye <| x_block <| ykeep [0, 1, 5] (f' := [(0, .slice (o.map at0) n cap), (1, .slice (some ⟨lb, 0, none⟩) ln lc), (5, iX 0)]) <| x_loop (σ := Nat × List Int × Option Nat × Nat × Nat) (fun ⟨i, ws, o1, n1, c1⟩ => [(0, .slice (o1.map at0) n1 c1), (1, .slice (some ⟨lb, 0, none⟩) ln lc), (5, iX ((i : Nat) : Int))]) (fun ⟨i, ws, o1, n1, c1⟩ u => i ≤ ln ∧ ws ++ lineI (l.drop i) = lineI l ∧ Own u tU8 1 o1 n1 c1 (u8s (xs ++ ws)) ∧ App w u o o1 ∧ n1 ≤ n + 30 * i) (fun ⟨i, ws, o1, n1, c1⟩ => ln - i) (0, [], o, n, cap) rfl ?_ ?_
 ·exact ⟨Nat.zero_le _, rfl, by rw [List.append_nil]; exact hO, App.refl _ _, Nat.le_refl _⟩
 intro p w10 hI11 K12 hL13
 obtain ⟨i, ws, o1, n1, c1⟩ := p
 obtain ⟨hi, hws, hO1, hA1, hn1⟩ := hI11
 have hr1 := Ch.rd hA1.ch hr (fun h => hne _ h rfl)
 have hne1 := hA1.apart hlb hne
 refine ys <| ysr <| yp 4 [] .z <| ye <| yc (rL ((i : Nat) : Int) ((ln : Nat) : Int)) (fun hC14 => ?_) fun hC14 => ?_
 ·have hiL := hC14
  have hcc := hcs _ (gc_mem (l := l) (i := i) (by omega))
  obtain ⟨hcs1, hcs2, hcs3⟩ := hcc
  refine yk <| x_block <| ysr <| yp 2 [] .z <| ye <| ys <| x_block <| ykeep [0, 1, 5, 6] (f' := [(0, .slice (o1.map at0) n1 c1), (1, .slice (some ⟨lb, 0, none⟩) ln lc), (5, iX ((i : Nat) : Int)), (6, iX ((i : Nat) : Int))]) <| x_loop (σ := Nat) (fun k => [(0, .slice (o1.map at0) n1 c1), (1, .slice (some ⟨lb, 0, none⟩) ln lc), (5, iX ((i : Nat) : Int)), (6, iX ((k : Nat) : Int))]) (fun k u => i ≤ k ∧ k ≤ ln ∧ (∀ j : Nat, i ≤ j → j < k → gc l (j : Int) = gc l ((i : Nat) : Int)) ∧ Ch (fun _ => False) w10 u) (fun k => ln - k) i rfl ?_ ?_
  ·exact ⟨Nat.le_refl _, hi, fun j h1 h2 => by omega, Ch.refl _ _⟩
  intro k w15 hI16 K17 hL18
  obtain ⟨hik, hkn, hall, hc19⟩ := hI16
  have hO20 := hO1.ch hc19 iZ
  have hA21 := hA1.step hc19 iZ
  have hr22 := Ch.rd hc19 hr1 id
  refine ys <| ys <| yD [] fun w23 hH24 hc25 => ?_
  have hq26 := Ch.trans hc19 hc25 iZ
  have hO27 := hO20.ch hc25 iZ
  have hA28 := hA21.step hc25 iZ
  have hr29 := Ch.rd hc25 hr22 id
  refine yd (uL 0 5) [] .z <| yv [16] (rL ((k : Nat) : Int) ((ln : Nat) : Int)) (fun hC30 => ?_) fun hC30 => ?_
  ·have hkL := hC30
   refine yd (uL 5 10) [] (.i ((k : Nat) : Int) (ln) (.m (c_rune (i := ((k : Nat) : Int)) hr29 (by omega) (by omega)) (.m (c_bold (i := ((k : Nat) : Int)) hr29 (by omega) (by omega)) (.m (c_under (i := ((k : Nat) : Int)) hr29 (by omega) (by omega)) (.m (c_turned (i := ((k : Nat) : Int)) hr29 (by omega) (by omega)) (.m (c_fore (i := ((k : Nat) : Int)) hr29 (by omega) (by omega)) (.m (c_back (i := ((k : Nat) : Int)) hr29 (by omega) (by omega)) (.e (.i ((i : Nat) : Int) (ln) (.m (c_rune (i := ((i : Nat) : Int)) hr29 (by omega) (by omega)) (.m (c_bold (i := ((i : Nat) : Int)) hr29 (by omega) (by omega)) (.m (c_under (i := ((i : Nat) : Int)) hr29 (by omega) (by omega)) (.m (c_turned (i := ((i : Nat) : Int)) hr29 (by omega) (by omega)) (.m (c_fore (i := ((i : Nat) : Int)) hr29 (by omega) (by omega)) (.m (c_back (i := ((i : Nat) : Int)) hr29 (by omega) (by omega)) (.e .z)))))))))))))))) <| yDe (nS ?_)
   refine yc (rY ((((gc l ((k : Nat) : Int)).rune : Int) == (gc l ((i : Nat) : Int)).rune) && ((((gc l ((k : Nat) : Int)).sty.bold == (gc l ((i : Nat) : Int)).sty.bold) && (((gc l ((k : Nat) : Int)).sty.under == (gc l ((i : Nat) : Int)).sty.under) && (((gc l ((k : Nat) : Int)).sty.turned == (gc l ((i : Nat) : Int)).sty.turned) && ((((gc l ((k : Nat) : Int)).sty.fore : Int) == (gc l ((i : Nat) : Int)).sty.fore) && ((((gc l ((k : Nat) : Int)).sty.back : Int) == (gc l ((i : Nat) : Int)).sty.back) && true))))) && true))) (fun hC31 => ?_) fun hC31 => ?_
   ·rw [cel_and] at hC31
    have hce := eq_of_beq hC31
    refine yk <| x_block <| x_region <| yp 3 [] (.q6 (((k : Nat) : Int) + 1) .z) <| yE (nB  (fun a ha => hL18 (k + 1) _ ⟨by omega, by omega, fun j h1 h2 => (Nat.lt_or_ge j k).elim (hall j h1) (fun h3 => by rw [show j = k by omega]; exact hce), hq26⟩ (by show ln - (k + 1) < ln - k; omega) a (ha.kp [0, 1, 5, 6])))
   rw [cel_and] at hC31
   have hnx : (l.drop k).head? ≠ some (gc l ((i : Nat) : Int)) := by rw [head_drop (by omega)]; intro e; rw [Option.some.inj e] at hC31; simp at hC31
   have hik2 : i < k := by
    rcases Nat.eq_or_lt_of_le hik with e | e
    ·subst e; simp at hC31
    exact e
   refine x_exit (eS (then_exit (block_exit (nS ?_))))
   refine ys <| x_drawnB (fun b => o1 = some b) [18] (by kernel_rfl) (fun w32 hH33 hc34 => ?_)
   have hO36 := hO27.ch hc34 iZ
   have hA37 := hA28.step hc34 iZ
   have hr38 := Ch.rd hc34 hr29 id
   refine ydC [0, 1, 2, 3, 4, 5, 6, 7, 8, 9, 10, 13, 14, 15, 16, 17] [4, 10] (fun u hu => (.q6 (((k : Nat) : Int) - ((i : Nat) : Int)) (.p (q := InR .u64 (((k : Nat) : Int) - ((i : Nat) : Int))) (in_u64 (by omega) (by omega)) (.i ((i : Nat) : Int) (ln) (.l (cell_ch hu (c_rune (i := ((i : Nat) : Int)) hr38 (by omega) (by omega)) (fun h => hne1 _ h rfl)) (.p (q := InR .u64 (gc l ((i : Nat) : Int)).rune) (in_u64 (by omega) (by omega)) (.i ((i : Nat) : Int) (ln) (.m (cell_ch hu (c_bold (i := ((i : Nat) : Int)) hr38 (by omega) (by omega)) (fun h => hne1 _ h rfl)) (.m (cell_ch hu (c_under (i := ((i : Nat) : Int)) hr38 (by omega) (by omega)) (fun h => hne1 _ h rfl)) (.m (cell_ch hu (c_turned (i := ((i : Nat) : Int)) hr38 (by omega) (by omega)) (fun h => hne1 _ h rfl)) (.m (cell_ch hu (c_fore (i := ((i : Nat) : Int)) hr38 (by omega) (by omega)) (fun h => hne1 _ h rfl)) (.m (cell_ch hu (c_back (i := ((i : Nat) : Int)) hr38 (by omega) (by omega)) (fun h => hne1 _ h rfl)) (.e .z))))))))))))) <| yH 11 (yB [.int .u64 (((k : Nat) : Int) - ((i : Nat) : Int)), .int .u64 (gc l ((i : Nat) : Int)).rune] 75 2 fun w39 b40 hb41 hz42 hB43 hc44 => ?_)
   have hbn45 : ∀ b', o1 = some b' → ¬ b' = b40 := fun b' e => by have := hO36.ltOf e; omega
   have hO47 := hO36.ch hc44 iZ
   have hA48 := hA37.step hc44 iZ
   refine x_heldB hc44 eZ ?_
   refine yH 12 (yC (put_any o1 n1 c1 (xs ++ ws) b40 2 [(((k : Nat) : Int) - ((i : Nat) : Int)), (gc l ((i : Nat) : Int)).rune] _ hO47 (Rd.all hB43) rfl (by intro x hx; simp only [List.mem_cons, List.not_mem_nil, or_false] at hx; rcases hx with rfl | rfl <;> (constructor <;> omega)) hB43.lt hbn45 (by omega)) ?_)
   rintro _ w56 ⟨og50, ng51, cp52, rfl, hO53, hn54, hA55⟩
   refine ⟨_, rfl, ?_⟩
   have hbn57 := hA55.apart (Nat.lt_of_lt_of_le hlb hA48.ch.size) hne1
   have hbn58 := hA55.apart hB43.lt hbn45
   have hA59 := hA48.trans hA55
   have hB61 := hB43.ch hA55.ch (fun h => hbn45 _ h rfl)
   refine x_heldB hA55.ch iZ <| yK 18 (yC (putStyle_any hO53 (gc l ((i : Nat) : Int)).sty hcs1 (by omega)) ?_)
   rintro _ w68 ⟨og62, ng63, cp64, rfl, hO65, hn66, hA67⟩
   refine ⟨_, rfl, ?_⟩
   have hbn69 := hA67.apart (Nat.lt_of_lt_of_le hlb hA59.ch.size) hbn57
   have hbn70 := hA67.apart hB61.lt hbn58
   have hA71 := hA59.trans hA67
   refine x_killed <| yd [19] [] .z <| yDe (nS ?_)
   refine x_region <| yp 2 [] .z ?_
   have hcI2 : (((k : Nat) : Int) - ((i : Nat) : Int) : Int).toNat = k - i := by omega
   have hws2 : (ws ++ cellI (k - i) (gc l ((i : Nat) : Int))) ++ lineI (l.drop k) = lineI l := by
    rw [← hws, drop_run (c := (gc l ((i : Nat) : Int))) (by omega) (by omega) hall, show k - i = (k - i - 1) + 1 by omega, lineI_rep hnx, List.append_assoc]
   have hOz : Own w68 tU8 1 og62 ng63 cp64 (u8s (xs ++ (ws ++ cellI (k - i) (gc l ((i : Nat) : Int))))) := by
    have h := hO65
    rw [putsI_two, hcI2] at h
    unfold cellI
    simp only [List.append_assoc] at h ⊢
    exact h
   refine yE (nB  (fun a ha => hL13 (k, ws ++ cellI (k - i) (gc l ((i : Nat) : Int)), og62, ng63, cp64) _ ⟨by omega, hws2, hOz, hA71, by omega⟩ (by show ln - k < ln - i; omega) a (ha.kp [0, 1, 5])))
  have hkL := hC30
  have hnx : (l.drop k).head? ≠ some (gc l ((i : Nat) : Int)) := by rw [List.drop_eq_nil_of_le (by omega)]; simp
  have hik2 : i < k := by omega
  refine yd (uL 5 10) [] .z <| yDe (nS ?_)
  refine ycf <| x_exit (eS (then_exit (block_exit (nS ?_))))
  refine ys <| x_drawnB (fun b => o1 = some b) [18] (by kernel_rfl) (fun w74 hH75 hc76 => ?_)
  have hO78 := hO27.ch hc76 iZ
  have hA79 := hA28.step hc76 iZ
  have hr80 := Ch.rd hc76 hr29 id
  refine ydC [0, 1, 2, 3, 4, 5, 6, 7, 8, 9, 10, 13, 14, 15, 16, 17] [4, 10] (fun u hu => (.q6 (((k : Nat) : Int) - ((i : Nat) : Int)) (.p (q := InR .u64 (((k : Nat) : Int) - ((i : Nat) : Int))) (in_u64 (by omega) (by omega)) (.i ((i : Nat) : Int) (ln) (.l (cell_ch hu (c_rune (i := ((i : Nat) : Int)) hr80 (by omega) (by omega)) (fun h => hne1 _ h rfl)) (.p (q := InR .u64 (gc l ((i : Nat) : Int)).rune) (in_u64 (by omega) (by omega)) (.i ((i : Nat) : Int) (ln) (.m (cell_ch hu (c_bold (i := ((i : Nat) : Int)) hr80 (by omega) (by omega)) (fun h => hne1 _ h rfl)) (.m (cell_ch hu (c_under (i := ((i : Nat) : Int)) hr80 (by omega) (by omega)) (fun h => hne1 _ h rfl)) (.m (cell_ch hu (c_turned (i := ((i : Nat) : Int)) hr80 (by omega) (by omega)) (fun h => hne1 _ h rfl)) (.m (cell_ch hu (c_fore (i := ((i : Nat) : Int)) hr80 (by omega) (by omega)) (fun h => hne1 _ h rfl)) (.m (cell_ch hu (c_back (i := ((i : Nat) : Int)) hr80 (by omega) (by omega)) (fun h => hne1 _ h rfl)) (.e .z))))))))))))) <| yH 11 (yB [.int .u64 (((k : Nat) : Int) - ((i : Nat) : Int)), .int .u64 (gc l ((i : Nat) : Int)).rune] 75 2 fun w81 b82 hb83 hz84 hB85 hc86 => ?_)
  have hbn87 : ∀ b', o1 = some b' → ¬ b' = b82 := fun b' e => by have := hO78.ltOf e; omega
  have hO89 := hO78.ch hc86 iZ
  have hA90 := hA79.step hc86 iZ
  refine x_heldB hc86 eZ ?_
  refine yH 12 (yC (put_any o1 n1 c1 (xs ++ ws) b82 2 [(((k : Nat) : Int) - ((i : Nat) : Int)), (gc l ((i : Nat) : Int)).rune] _ hO89 (Rd.all hB85) rfl (by intro x hx; simp only [List.mem_cons, List.not_mem_nil, or_false] at hx; rcases hx with rfl | rfl <;> (constructor <;> omega)) hB85.lt hbn87 (by omega)) ?_)
  rintro _ w98 ⟨og92, ng93, cp94, rfl, hO95, hn96, hA97⟩
  refine ⟨_, rfl, ?_⟩
  have hbn99 := hA97.apart (Nat.lt_of_lt_of_le hlb hA90.ch.size) hne1
  have hbn100 := hA97.apart hB85.lt hbn87
  have hA101 := hA90.trans hA97
  have hB103 := hB85.ch hA97.ch (fun h => hbn87 _ h rfl)
  refine x_heldB hA97.ch iZ <| yK 18 (yC (putStyle_any hO95 (gc l ((i : Nat) : Int)).sty hcs1 (by omega)) ?_)
  rintro _ w110 ⟨og104, ng105, cp106, rfl, hO107, hn108, hA109⟩
  refine ⟨_, rfl, ?_⟩
  have hbn111 := hA109.apart (Nat.lt_of_lt_of_le hlb hA101.ch.size) hbn99
  have hbn112 := hA109.apart hB103.lt hbn100
  have hA113 := hA101.trans hA109
  refine x_killed <| yd [19] [] .z <| yDe (nS ?_)
  refine x_region <| yp 2 [] .z ?_
  have hcI2 : (((k : Nat) : Int) - ((i : Nat) : Int) : Int).toNat = k - i := by omega
  have hws2 : (ws ++ cellI (k - i) (gc l ((i : Nat) : Int))) ++ lineI (l.drop k) = lineI l := by
   rw [← hws, drop_run (c := (gc l ((i : Nat) : Int))) (by omega) (by omega) hall, show k - i = (k - i - 1) + 1 by omega, lineI_rep hnx, List.append_assoc]
  have hOz : Own w110 tU8 1 og104 ng105 cp106 (u8s (xs ++ (ws ++ cellI (k - i) (gc l ((i : Nat) : Int))))) := by
   have h := hO107
   rw [putsI_two, hcI2] at h
   unfold cellI
   simp only [List.append_assoc] at h ⊢
   exact h
  refine yE (nB  (fun a ha => hL13 (k, ws ++ cellI (k - i) (gc l ((i : Nat) : Int)), og104, ng105, cp106) _ ⟨by omega, hws2, hOz, hA113, by omega⟩ (by show ln - k < ln - i; omega) a (ha.kp [0, 1, 5])))
 have hiL := hC14
 refine x_exit (eS (then_exit (block_exit (nS ?_))))
 refine ysr <| yp 2 [] .z <| ye <| x_ret (yR1 (.slice (o1.map at0) n1 c1) ?_)
 rw [List.drop_eq_nil_of_le (by omega)] at hws
 have hws3 : ws = lineI l := by rw [← hws]; exact (List.append_nil _).symm
 rw [hws3] at hO1
 exact ⟨_, _, _, rfl, hO1, by omega, hA1⟩
end Go.Proofs.YtclnfbmmaofpjaaDoor.X
