/- What the proof of RenderFirsts needs, part 5: the walks of the program's functions and the plain laws about them. -/
import Derived.Test.YtjklgjjgndalcaaGreatDoorQC4
import Derived.Test.YtjklgjjgndalcaaGreatDoorRows
import Derived.ProofKit
import Derived.OpenShut
import Derived.ChangeArms
import Derived.LaidMore
import Derived.Lay
import Derived.Stop.Joined
import Derived.Below
import Derived.SevenTiedAt
import Derived.Deep.Slices
import Derived.Carry
set_option linter.unusedSimpArgs false
set_option linter.unusedVariables false
set_option maxHeartbeats 4000000
namespace Go.Proofs.YtjklgjjgndalcaaGreatDoor.X
open Go Go.RowKit Go.Proofs.YtjklgjjgndalcaaGreatDoor
def qgS (a b : List Cel) (i : Nat) : List Cel := b.take i ++ a.drop i
theorem qkY {l : List Cel} {i j : Nat} (c : Cel) (hj : j < l.length) : gc (l.set i c) (j : Int) = if i = j then c else gc l (j : Int) := by
 rw [qbb (by rw [List.length_set]; exact hj), qbb hj, List.getElem_set]
theorem qdc {l m : List Cel} {i : Nat} (h : qH l (i : Int) = true) (e1 : gc m (i : Int) = gc l (i : Int)) (e2 : gc m ((i + 1 : Nat) : Int) = gc l ((i + 1 : Nat) : Int)) (hl : i + 1 < m.length) : qH m (i : Int) = true := by
 obtain ⟨p0, p1, p2, p3⟩ := pairedB_iff.1 h
 rw [show ((i : Int) + 1) = ((i + 1 : Nat) : Int) by omega] at p3
 refine pairedB_iff.2 ⟨p0, by omega, by rw [e1]; exact p2, ?_⟩
 rw [show ((i : Int) + 1) = ((i + 1 : Nat) : Int) by omega, e2, e1, p3]
theorem qgT : ∀ {a b : List Cel}, a.length = b.length → qI a b < b.length → gc a ((qI a b : Nat) : Int) ≠ gc b ((qI a b : Nat) : Int)
 | [], [], _, h => absurd h (Nat.not_lt_zero _)
 | c :: l, d :: m, hl, h => by
  unfold qI at h ⊢
  by_cases e : c = d
  ·rw [if_pos e] at h ⊢
   rw [qfN, qfN]
   exact qgT (by simpa using hl) (by simpa using h)
  ·rw [if_neg e]
   exact e
section
variable {a b : List Cel} (hl : a.length = b.length)
include hl
theorem qdx {i : Nat} (hi : i ≤ b.length) : (qgS a b i).length = b.length := by
 unfold qgS
 rw [List.length_append, List.length_take, List.length_drop]; omega
theorem qbY {i j : Nat} (hi : i ≤ b.length) (hj : j < b.length) : gc (qgS a b i) (j : Int) = if j < i then gc b (j : Int) else gc a (j : Int) := by
 rw [qbb (by rw [qdx hl hi]; exact hj), qbb hj, qbb (by omega)]
 unfold qgS
 split
 ·rename_i h
  rw [List.getElem_append_left (by rw [List.length_take]; omega), List.getElem_take]
 ·rename_i h
  rw [List.getElem_append_right (by rw [List.length_take]; omega), List.getElem_drop]
  congr 1
  rw [List.length_take]; omega
theorem mix_keep (ha : qb4 a = true) (hb : qb4 b = true) {i j : Nat} (hi : i ≤ b.length) (hbd : i < b.length → (gc b (i : Int)).rune ≠ 0) (hj : j < b.length) (hji : j ≠ i) : gc (qc1 (qgS a b i)) (j : Int) = if j < i then gc b (j : Int) else gc a (j : Int) := by
 have hlen := qdx hl hi
 rw [qdv _ (by omega), qcv, qbY hl hi hj]
 ·intro h0
  rw [qbY hl hi hj] at h0
  by_cases h : j < i
  ·rw [if_pos h] at h0
   have hp := ((wholeB_iff.1 hb) j hj).1 h0
   obtain ⟨m, rfl⟩ : ∃ m, j = m + 1 := ⟨j - 1, by have := (pairedB_iff.1 hp).1; omega⟩
   rw [show ((m + 1 : Nat) : Int) - 1 = (m : Int) by omega] at hp ⊢
   exact qdc hp (by rw [qbY hl hi (by omega), if_pos (by omega)]) (by rw [qbY hl hi hj, if_pos h]) (by omega)
  ·rw [if_neg h] at h0
   have hp := ((wholeB_iff.1 ha) j (by omega)).1 h0
   obtain ⟨m, rfl⟩ : ∃ m, j = m + 1 := ⟨j - 1, by have := (pairedB_iff.1 hp).1; omega⟩
   rw [show ((m + 1 : Nat) : Int) - 1 = (m : Int) by omega] at hp ⊢
   exact qdc hp (by rw [qbY hl hi (by omega), if_neg (by omega)]) (by rw [qbY hl hi hj, if_neg h]) (by omega)
 ·intro hw
  rw [qbY hl hi hj] at hw
  by_cases h : j < i
  ·rw [if_pos h] at hw
   have hp := ((((wholeB_iff.1 hb) j hj).2 (fun e => by rw [e, qhn] at hw; cases hw)).2 hw)
   have hq := (pairedB_iff.1 hp)
   have hne : j + 1 ≠ i := fun e => by
    have h3 := hq.2.2.2
    rw [show ((j : Int) + 1) = ((i : Nat) : Int) by omega] at h3
    exact hbd (by have := hq.2.1; omega) (by rw [h3])
   have := hq.2.1
   exact qdc hp (by rw [qbY hl hi hj, if_pos h]) (by rw [qbY hl hi (by omega), if_pos (by omega)]) (by omega)
  ·rw [if_neg h] at hw
   have hp := ((((wholeB_iff.1 ha) j (by omega)).2 (fun e => by rw [e, qhn] at hw; cases hw)).2 hw)
   have := (pairedB_iff.1 hp).2.1
   exact qdc hp (by rw [qbY hl hi hj, if_neg h]) (by rw [qbY hl hi (by omega), if_neg (by omega)]) (by omega)
theorem mix_put (ha : qb4 a = true) (hb : qb4 b = true) {i : Nat} (hi : i < b.length) (h0 : (gc b (i : Int)).rune ≠ 0) : putL ((b.length : Nat) : Int) (qc1 (qgS a b i)) (i : Int) (gc b (i : Int)) = qgS a b (if qN (gc b (i : Int)).rune = true then i + 2 else i + 1) := by
 have hm : (qc1 (qgS a b i)).length = b.length := by rw [qa0, qdx hl (by omega)]
 have key : ∀ j : Nat, j < b.length → j ≠ i → gc (qc1 (qgS a b i)) (j : Int) = if j < i then gc b (j : Int) else gc a (j : Int) := fun j hj hji => mix_keep hl ha hb (by omega) (fun _ => h0) hj hji
 unfold putL
 by_cases hw : qN (gc b (i : Int)).rune = true
 ·obtain ⟨p0, p1, p2, p3⟩ := pairedB_iff.1 (((wholeB_iff.1 hb i hi).2 h0).2 hw)
  rw [show ((i : Int) + 1) = ((i + 1 : Nat) : Int) by omega] at p3 ⊢
  rw [if_pos ⟨hw, by omega⟩, if_pos hw, Int.toNat_natCast, Int.toNat_natCast]
  refine qkU (by rw [List.length_set, List.length_set, hm, qdx hl (by omega)]) fun j hj => ?_
  rw [List.length_set, List.length_set, hm] at hj
  rw [qkY _ (by rw [List.length_set, hm]; exact hj), qkY _ (by rw [hm]; exact hj), qbY hl (by omega) hj]
  by_cases e1 : i + 1 = j
  ·subst e1; rw [if_pos rfl, if_pos (by omega), p3]
  ·rw [if_neg e1]
   by_cases e2 : i = j
   ·subst e2; rw [if_pos rfl, if_pos (by omega)]
   ·rw [if_neg e2, key j hj (by omega)]
    by_cases h : j < i
    ·rw [if_pos h, if_pos (by omega)]
    ·rw [if_neg h, if_neg (by omega)]
 ·rw [if_neg (fun h => hw h.1), if_neg hw, Int.toNat_natCast]
  refine qkU (by rw [List.length_set, hm, qdx hl (by omega)]) fun j hj => ?_
  rw [List.length_set, hm] at hj
  rw [qkY _ (by rw [hm]; exact hj), qbY hl (by omega) hj]
  by_cases e2 : i = j
  ·subst e2; rw [if_pos rfl, if_pos (by omega)]
  ·rw [if_neg e2, key j hj (by omega)]
   by_cases h : j < i
   ·rw [if_pos h, if_pos (by omega)]
   ·rw [if_neg h, if_neg (by omega)]
theorem first_ne (ha : qb4 a = true) (hb : qb4 b = true) (hx : qI a b < b.length) : (gc b ((qI a b : Nat) : Int)).rune ≠ 0 := by
 intro h0
 have ht := (qaz a b).2
 have hn := qgT hl hx
 generalize qI a b = x at *
 have hp := ((wholeB_iff.1 hb) x hx).1 h0
 obtain ⟨m, rfl⟩ : ∃ m, x = m + 1 := ⟨x - 1, by have := (pairedB_iff.1 hp).1; omega⟩
 rw [show ((m + 1 : Nat) : Int) - 1 = (m : Int) by omega] at hp
 obtain ⟨p0, p1, p2, p3⟩ := pairedB_iff.1 hp
 have e : gc a (m : Int) = gc b (m : Int) := by
  have h : gc (a.take (m + 1)) (m : Int) = gc (b.take (m + 1)) (m : Int) := congrArg (fun l : List Cel => gc l (m : Int)) ht
  rw [qbb (by rw [List.length_take]; omega), qbb (by rw [List.length_take]; omega), List.getElem_take, List.getElem_take, ← qbb (by omega), ← qbb (by omega)] at h
  exact h
 have hw : qN (gc a (m : Int)).rune = true := by rw [e]; exact p2
 have hq := ((wholeB_iff.1 ha m (by omega)).2 (fun e => by rw [e, qhn] at hw; cases hw)).2 hw
 have q3 := (pairedB_iff.1 hq).2.2.2
 rw [show ((m : Int) + 1) = ((m + 1 : Nat) : Int) by omega] at p3 q3
 exact hn (by rw [p3, q3, e])
theorem qkZ : a.drop (qaQ a b).2 = b.drop (qaQ a b).2 := by
 obtain ⟨h1, h2⟩ := qaz (a.drop (qI a b)).reverse (b.drop (qI a b)).reverse
 unfold qaQ
 dsimp only
 generalize qI (a.drop (qI a b)).reverse (b.drop (qI a b)).reverse = m at *
 have hx := (qaz a b).1
 generalize qI a b = x at *
 rw [List.length_reverse, List.length_drop] at h1
 rw [List.take_reverse, List.take_reverse, List.reverse_inj, List.drop_drop, List.drop_drop, List.length_drop, List.length_drop, hl] at h2
 rwa [show x + (b.length - x - m) = b.length - m by omega] at h2
end
def qfc (b : List Cel) (i : Nat) : Nat := if i < b.length ∧ (gc b (i : Int)).rune = 0 then i + 1 else i
theorem qhs {b : List Cel} (hb : qb4 b = true) {i : Nat} (hi : i < b.length) (hw : ¬ qN (gc b (i : Int)).rune = true) : qfc b (i + 1) = i + 1 := by
 unfold qfc
 rw [if_neg]
 rintro ⟨h1, h2⟩
 have := pairedB_iff.1 (((wholeB_iff.1 hb) (i + 1) h1).1 h2)
 rw [show ((i + 1 : Nat) : Int) - 1 = (i : Int) by omega] at this
 exact hw this.2.2.1
theorem ql0 {b : List Cel} (hb : qb4 b = true) {i : Nat} (hi : i < b.length) (h0 : (gc b (i : Int)).rune ≠ 0) (hw : qN (gc b (i : Int)).rune = true) : qfc b (i + 1) = i + 2 := by
 obtain ⟨p0, p1, p2, p3⟩ := pairedB_iff.1 (((wholeB_iff.1 hb i hi).2 h0).2 hw)
 rw [show ((i : Int) + 1) = ((i + 1 : Nat) : Int) by omega] at p3
 unfold qfc
 rw [if_pos ⟨by omega, by rw [p3]⟩]
structure Pla (W H : Int) (T : TS) : Prop where
 lim : Lim W H T
 ok : T.grid.ok
 par : T.parser = atP 0
 wrap : T.wrap = true
 org : T.origin = false
 ins : T.insert = false
 d0 : T.draw0 = false
 d1 : T.draw1 = false
 sh : T.shift = false
 top : T.top = 0
 bot : T.bot = H
theorem Pla.cur {W H : Int} {T : TS} (h : Pla W H T) {c : Cur} (hc : (0 ≤ c.x ∧ c.x < W) ∧ 0 ≤ c.y ∧ c.y < H) : Pla W H { T with cursor := c } := { h with lim := h.lim.cursor hc }
theorem Pla.grd {W H : Int} {T : TS} (h : Pla W H T) {G : Gr} (hG : G.w = T.grid.w ∧ G.h = T.grid.h) (hok : G.ok) : Pla W H { T with grid := G } := { h with lim := h.lim.grid hG, ok := hok }
theorem setG_ok {G : Gr} (hok : G.ok) {y : Int} {l : List Cel} (hl : l.length = G.w.toNat) : (qc8 G y l).ok := by
 obtain ⟨h1, h2, h3, h4⟩ := hok
 refine ⟨h1, h2, by show (G.lines.set _ _).length = _; rw [List.length_set]; exact h3, fun m hm => ?_⟩
 rcases List.mem_or_eq_of_mem_set (show m ∈ G.lines.set y.toNat l from hm) with hm | rfl
 ·exact h4 m hm
 ·exact hl
theorem gl_set {G : Gr} (hok : G.ok) {y : Int} (hy : 0 ≤ y ∧ y < G.h) (l : List Cel) : gl (qc8 G y l) y = l := by
 have := hok.2.2.1
 unfold gl qc8
 dsimp only
 rw [List.getD_eq_getElem?_getD, List.getElem?_set_self (by omega), Option.getD_some]
theorem set_set {G : Gr} {y : Int} (l m : List Cel) : qc8 (qc8 G y l) y m = qc8 G y m := by
 unfold qc8
 dsimp only
 rw [List.set_set]
theorem qja {T : TS} {W H : Int} (hP : Pla W H T) (hlate : T.cursor.late = false) {r : Int} (hr : qT r = true) (hx : T.cursor.x + qdF r ≤ W) : qbr T r = { T with grid := qdz T.grid T.cursor.x T.cursor.y ⟨r, T.cursor.sty⟩, cursor := ⟨if T.cursor.x + qdF r = W then W - 1 else T.cursor.x + qdF r, T.cursor.y, decide (T.cursor.x + qdF r = W), T.cursor.sty⟩ } := by
 have hL := hP.lim
 have hg := hL.g1
 have hc := hL.cu
 have hs : qJ T r = (r, qdF r) := by
  unfold qJ
  dsimp only
  rw [hP.d0, hP.d1, hP.sh]
  simp only [Bool.and_false, Bool.not_false, Bool.false_and, Bool.or_false, Bool.and_self, Bool.false_eq_true, if_false]
  rw [hr, if_neg]
  ·simp [qbt]
  ·intro h
   simp only [Bool.not_true, Bool.false_or, Bool.and_eq_true, beq_iff_eq] at h
   have e : qdF r = 2 := by unfold qdF; rw [if_pos h.1]
   have := h.2
   omega
 unfold qbr
 rw [hs]
 dsimp only
 have eA : qbS T = T := by unfold qbS; rw [if_neg (by rw [hlate]; simp)]
 have eB : qbq T (qdF r) = T := by unfold qbq; rw [if_neg (by rw [hg.1]; omega)]
 have eC : qbD T (qdF r) = T := by unfold qbD; rw [if_neg (by rw [hP.ins]; simp)]
 rw [eA, eB, eC]
 unfold qe0 qdZ
 dsimp only
 rw [(qhW _ _ _ _).1, hg.1, hP.wrap]
 by_cases e : T.cursor.x + qdF r = W
 ·rw [if_pos e, if_pos e, decide_eq_true e]
 ·rw [if_neg e, if_neg e, decide_eq_false e]
def ql1 (W y : Int) (i : Nat) (s : Sty) : Cur := ⟨if (i : Int) = W then W - 1 else (i : Int), y, decide ((i : Int) = W), s⟩
theorem wr_gc {b : List Cel} {x j k : Nat} (h : x + k < j) (hj : j ≤ b.length) : gc ((b.take j).drop x) (k : Int) = gc b ((x + k : Nat) : Int) := by
 rw [qbb (by rw [List.length_drop, List.length_take]; omega), qbb (by omega), List.getElem_drop, List.getElem_take]
section
variable {W H : Int} {T : TS} (hP : Pla W H T) {y : Int} (hy : 0 ≤ y ∧ y < H) {a b : List Cel} (ha : qb4 a = true) (hb : qb4 b = true) (hla : a.length = W.toNat) (hlb : b.length = W.toNat) (hga : gl T.grid y = a)
 {x j : Nat} (hj : j ≤ b.length) (hxj : x < j) (hx0 : (gc b (x : Int)).rune ≠ 0) (ht : a.take x = b.take x) {s0 : Sty} (hc : T.cursor = ⟨(x : Int), y, false, s0⟩)
include hP hy ha hb hla hlb hga hj hxj hx0 ht hc
theorem qen : ∀ k, k ≤ j - x → ∃ s, qi T (wrK ((b.take j).drop x) k) = { T with grid := qc8 T.grid y (qc1 (qgS a b (qfc b (x + k)))), cursor := ql1 W y (qfc b (x + k)) s } ∧ (0 < k → s = (gc b (((x + k : Nat) : Int) - 1)).sty)
 | 0, _ => by
  have hL := hP.lim
  have hW := hL.wb
  have hok := hP.ok
  have hl : a.length = b.length := by omega
  have e1 : qfc b (x + 0) = x := by unfold qfc; rw [if_neg (fun h => hx0 h.2)]; rfl
  have e2 : qgS a b x = a := by unfold qgS; rw [← ht, List.take_append_drop]
  have e3 : qc8 T.grid y a = T.grid := by
   have h3 := hok.2.2.1
   have h5 := hL.g1
   have h4 : T.grid.lines.set y.toNat a = T.grid.lines := by
    apply List.ext_getElem?
    intro i
    by_cases e : y.toNat = i
    ·subst e
     rw [List.getElem?_set_self (by omega), ← hga]
     unfold gl
     rw [List.getD_eq_getElem?_getD, List.getElem?_eq_getElem (by omega), Option.getD_some]
    ·rw [List.getElem?_set_ne e]
   unfold qc8
   rw [h4]
  refine ⟨s0, ?_, fun h => absurd h (Nat.lt_irrefl 0)⟩
  rw [e1, e2, qfa ha, e3]
  show T = _
  have e4 : ql1 W y x s0 = T.cursor := by
   rw [hc]
   unfold ql1
   rw [if_neg (by omega), decide_eq_false (by omega)]
  rw [e4]
 | k + 1, hk => by
  obtain ⟨s, ih, hs⟩ := qen k (by omega)
  have hL := hP.lim
  have hW := hL.wb
  have hok := hP.ok
  have hg1 := hL.g1
  have hl : a.length = b.length := by omega
  have hi : x + k < b.length := by omega
  have hgk : gc ((b.take j).drop x) (k : Int) = gc b ((x + k : Nat) : Int) := wr_gc (by omega) hj
  have hgp : 0 < k → gc ((b.take j).drop x) ((k : Int) - 1) = gc b (((x + k : Nat) : Int) - 1) := fun h => by
   rw [show ((k : Int) - 1) = ((k - 1 : Nat) : Int) by omega, wr_gc (by omega) hj]
   congr 1; omega
  by_cases h0 : (gc b ((x + k : Nat) : Int)).rune = 0
  ·have hk0 : 0 < k := by
    rcases Nat.eq_zero_or_pos k with h | h
    ·subst h; exact absurd h0 hx0
    ·exact h
   have hp := pairedB_iff.1 (((wholeB_iff.1 hb) (x + k) hi).1 h0)
   have hst : (gc b ((x + k : Nat) : Int)).sty = (gc b (((x + k : Nat) : Int) - 1)).sty := by
    have := hp.2.2.2
    rw [show (((x + k : Nat) : Int) - 1 + 1) = ((x + k : Nat) : Int) by omega] at this
    rw [this]
   have e1 : qfc b (x + k) = x + k + 1 := by unfold qfc; rw [if_pos ⟨hi, h0⟩]
   have e2 : qfc b (x + (k + 1)) = x + k + 1 := qhs hb hi (i := x + k) (by rw [h0, qhn]; exact Bool.false_ne_true)
   refine ⟨s, ?_, fun _ => by rw [hs hk0, ← hst]; congr 2; omega⟩
   rw [wrK_nn (by omega) (by rw [hgk, hgp hk0]; exact hst) (by rw [hgk]; exact h0), ih, e1, e2]
  ·have hcel := ((wholeB_iff.1 hb) (x + k) hi).2 h0
   have e1 : qfc b (x + k) = x + k := by unfold qfc; rw [if_neg (fun h => h0 h.2)]
   rw [e1] at ih
   obtain ⟨L, hLe⟩ : ∃ L, L = qc1 (qgS a b (x + k)) := ⟨_, rfl⟩
   have hLl : L.length = b.length := by rw [hLe, qa0, qdx hl (by omega)]
   rw [← hLe] at ih
   have ec : ql1 W y (x + k) s = ⟨((x + k : Nat) : Int), y, false, s⟩ := by
    unfold ql1
    rw [if_neg (by omega), decide_eq_false (by omega)]
   rw [ec] at ih
   obtain ⟨c, hce⟩ : ∃ c, c = gc b ((x + k : Nat) : Int) := ⟨_, rfl⟩
   rw [← hce] at hcel h0
   unfold qhN at hcel
   rw [Bool.and_eq_true] at hcel
   have hso : qcl c.sty := by
    have := hcel.1.2
    unfold qbz at this
    simp only [Bool.and_eq_true, decide_eq_true_eq] at this
    exact ⟨by omega, by omega⟩
   have hP1 : ∀ s', Pla W H { T with grid := qc8 T.grid y L, cursor := ⟨((x + k : Nat) : Int), y, false, s'⟩ } := fun s' =>
    (hP.grd (G := qc8 T.grid y L) ⟨rfl, rfl⟩ (setG_ok hok (by rw [hLl, hlb, hg1.1]))).cur ⟨⟨by dsimp only; omega, by dsimp only; omega⟩, hy⟩
   have hsty : ∃ o, qi T o = { T with grid := qc8 T.grid y L, cursor := ⟨((x + k : Nat) : Int), y, false, c.sty⟩ } ∧ wrK ((b.take j).drop x) (k + 1) = o ++ Utf8.encode c.rune := by
    have hr : ¬ (gc ((b.take j).drop x) (k : Int)).rune = 0 := by rw [hgk, ← hce]; exact h0
    by_cases hq : k = 0 ∨ ¬ (gc ((b.take j).drop x) (k : Int)).sty = (gc ((b.take j).drop x) ((k : Int) - 1)).sty
    ·refine ⟨wrK ((b.take j).drop x) k ++ qfL c.sty, ?_, by rw [qkF hq hr, hgk, ← hce]⟩
     rw [qL, ih, qgR (hP1 s).par hso]
    ·have hk0 : 0 < k := by
      rcases Nat.eq_zero_or_pos k with h | h
      ·exact absurd (.inl h) hq
      ·exact h
     have he : (gc ((b.take j).drop x) (k : Int)).sty = (gc ((b.take j).drop x) ((k : Int) - 1)).sty := Classical.byContradiction fun h => hq (.inr h)
     refine ⟨wrK ((b.take j).drop x) k, ?_, by rw [wrK_ns (by omega) he hr, hgk, ← hce]⟩
     rw [ih, hs hk0, ← hgp hk0, ← he, hgk, ← hce]
   obtain ⟨o, ho, hw⟩ := hsty
   have hcol : ((x + k : Nat) : Int) + qdF c.rune ≤ W := by
    unfold qdF
    by_cases hwd : qN c.rune = true
    ·rw [if_pos hwd]
     have h4 := (pairedB_iff.1 ((((wholeB_iff.1 hb) (x + k) hi).2 (hce ▸ h0)).2 (hce ▸ hwd))).2.1
     omega
    ·rw [if_neg hwd, if_pos hcel.1.1]; omega
   refine ⟨c.sty, ?_, fun _ => by rw [hce]; congr 2; omega⟩
   rw [hw, qL, ho, qj7 (hP1 c.sty).par hcel.1.1, qja (hP1 c.sty) rfl hcel.1.1 hcol]
   dsimp only
   have hput : qdz (qc8 T.grid y L) ((x + k : Nat) : Int) y ⟨c.rune, c.sty⟩ = qc8 T.grid y (qc1 (qgS a b (qfc b (x + (k + 1))))) := by
    have hth : qaS (qc8 T.grid y L) ((x + k : Nat) : Int) y = true := there_iff.2 ⟨⟨by omega, hy.1⟩, by show _ < T.grid.w; omega, by show _ < T.grid.h; omega⟩
    unfold qdz
    rw [if_pos ⟨hth, by unfold qhN; rw [Bool.and_eq_true]; exact hcel.1⟩, gl_set hok (by omega), set_set, hLe]
    show qc8 T.grid y (qc1 (putL T.grid.w (qc1 (qgS a b (x + k))) ((x + k : Nat) : Int) c)) = _
    rw [hg1.1, show W = ((b.length : Nat) : Int) by omega, hce, mix_put hl ha hb hi (hce ▸ h0)]
    by_cases hwd : qN (gc b ((x + k : Nat) : Int)).rune = true
    ·rw [if_pos hwd, show x + (k + 1) = x + k + 1 from rfl, ql0 hb hi (hce ▸ h0) hwd]
    ·rw [if_neg hwd, show x + (k + 1) = x + k + 1 from rfl, qhs hb hi hwd]
   have hcur : ((x + k : Nat) : Int) + qdF c.rune = ((qfc b (x + (k + 1)) : Nat) : Int) := by
    unfold qdF
    by_cases hwd : qN c.rune = true
    ·rw [if_pos hwd, show x + (k + 1) = x + k + 1 from rfl, ql0 hb hi (hce ▸ h0) (hce ▸ hwd)]; omega
    ·rw [if_neg hwd, if_pos hcel.1.1, show x + (k + 1) = x + k + 1 from rfl, qhs hb hi (hce ▸ hwd)]; omega
   rw [hput, hcur]
   rfl
end
theorem mix_end {a b : List Cel} {i j : Nat} (hd : a.drop j = b.drop j) (hij : j ≤ i) : qgS a b i = b := by
 have e : a.drop i = b.drop i := by
  have e1 : ∀ l : List Cel, l.drop i = (l.drop j).drop (i - j) := fun l => by rw [List.drop_drop]; congr 1; omega
  rw [e1, e1, hd]
 unfold qgS
 rw [e, List.take_append_drop]
theorem bnd_ge (b : List Cel) (i : Nat) : i ≤ qfc b i ∧ qfc b i ≤ i + 1 ∧ (i ≤ b.length → qfc b i ≤ b.length) := by
 unfold qfc
 split <;> omega
theorem curE_on {W H y : Int} {i : Nat} (s : Sty) (hW : 1 ≤ W) (hi : (i : Int) ≤ W) (hy : 0 ≤ y ∧ y < H) : (0 ≤ (ql1 W y i s).x ∧ (ql1 W y i s).x < W) ∧ 0 ≤ (ql1 W y i s).y ∧ (ql1 W y i s).y < H := by
 unfold ql1
 dsimp only
 refine ⟨?_, hy⟩
 split <;> omega
theorem qjb {W H : Int} {T : TS} (hP : Pla W H T) {y : Int} (hy : 0 ≤ y ∧ y < H) {a b : List Cel} (ha : qb4 a = true) (hb : qb4 b = true) (hla : a.length = W.toNat) (hlb : b.length = W.toNat) (hga : gl T.grid y = a) (hne : a ≠ b) :
  ∃ c : Cur, qi T (toB ((qaQ a b).1 : Int) y ++ wrB ((b.take (qaQ a b).2).drop (qaQ a b).1)) = { T with grid := qc8 T.grid y b, cursor := c } ∧ (0 ≤ c.x ∧ c.x < W) ∧ 0 ≤ c.y ∧ c.y < H := by
 have hl : a.length = b.length := by omega
 have hW := hP.lim.wb
 have h1 := (qhp hl).2 hne
 have h2 := qfP a b
 have h3 := qkZ hl
 have h4 : (qaQ a b).1 = qI a b := rfl
 have h5 := (qaz a b).2
 have h6 := first_ne hl ha hb (by omega)
 rw [← h4] at h5 h6
 generalize (qaQ a b).1 = x at *
 generalize (qaQ a b).2 = j at *
 rw [qL, qie hP.par hP.lim hP.org (x := (x : Int)) (by omega) hy]
 have hP1 : Pla W H { T with cursor := ⟨(x : Int), y, false, T.cursor.sty⟩ } := hP.cur ⟨⟨by dsimp only; omega, by dsimp only; omega⟩, hy⟩
 obtain ⟨s, e, _⟩ := qen hP1 hy ha hb hla hlb hga h2 h1 h6 h5 rfl (j - x) (Nat.le_refl _)
 have hn : ((b.take j).drop x).length = j - x := by rw [List.length_drop, List.length_take]; omega
 have hg := bnd_ge b (x + (j - x))
 refine ⟨ql1 W y (qfc b (x + (j - x))) s, ?_, curE_on s hW.1 (by omega) hy⟩
 unfold wrB
 rw [hn, e, mix_end h3 (by omega), qfa hb]
def qfW (A B : Gr) (k : Nat) : Gr := ⟨A.w, A.h, B.lines.take k ++ A.lines.drop k⟩
theorem ql2 {A B : Gr} (hA : A.ok) (hB : B.ok) (hh : A.h = B.h) {k : Nat} (hk : k < B.h.toNat) : gl (qfW A B k) (k : Int) = gl A (k : Int) := by
 have h1 := hA.2.2.1
 have h2 := hB.2.2.1
 unfold gl qfW
 dsimp only
 rw [Int.toNat_natCast, List.getD_eq_getElem?_getD, List.getD_eq_getElem?_getD, List.getElem?_append_right (by rw [List.length_take]; omega), List.getElem?_drop, List.length_take]
 congr 2; omega
theorem qif {A B : Gr} (hA : A.ok) (hB : B.ok) (hh : A.h = B.h) {k : Nat} (hk : k < B.h.toNat) : qc8 (qfW A B k) (k : Int) (gl B (k : Int)) = qfW A B (k + 1) := by
 have h1 := hA.2.2.1
 have h2 := hB.2.2.1
 unfold qc8 qfW
 dsimp only
 congr 1
 rw [Int.toNat_natCast, List.take_succ_eq_append_getElem (by omega), List.drop_eq_getElem_cons (show k < A.lines.length by omega), List.set_append_right _ _ (by rw [List.length_take]; omega), List.append_assoc]
 congr 1
 rw [List.length_take, show k - min k B.lines.length = 0 by omega, List.set_cons_zero]
 unfold gl
 rw [Int.toNat_natCast, List.getD_eq_getElem?_getD, List.getElem?_eq_getElem (by omega), Option.getD_some]
 rfl
section
variable {A B : Gr} (hA : A.ok) (hB : B.ok) (hw : A.w = B.w) (hh : A.h = B.h)
include hA hB hw hh
theorem ql3 {k : Nat} (hk : k ≤ B.h.toNat) : (qfW A B k).ok := by
 refine ⟨hA.1, hA.2.1, ?_, fun l hl => ?_⟩
 ·show (B.lines.take k ++ A.lines.drop k).length = A.h.toNat
  have h1 := hA.2.2.1
  have h2 := hB.2.2.1
  rw [List.length_append, List.length_take, List.length_drop]; omega
 ·show l.length = A.w.toNat
  rcases List.mem_append.1 hl with hl | hl
  ·rw [hw]; exact hB.2.2.2 _ (List.mem_of_mem_take hl)
  ·exact hA.2.2.2 _ (List.mem_of_mem_drop hl)
theorem ql4 {k : Nat} (hk : k < B.h.toNat) (e : gl A (k : Int) = gl B (k : Int)) : qfW A B (k + 1) = qfW A B k := by
 have hok := ql3 hA hB hw hh (k := k) (by omega)
 rw [← qif hA hB hh hk, ← e, ← ql2 hA hB hh hk]
 have h3 := hok.2.2.1
 have h4 : (qfW A B k).h = B.h := hh
 unfold qc8
 have h5 : (qfW A B k).lines.set ((k : Nat) : Int).toNat (gl (qfW A B k) (k : Int)) = (qfW A B k).lines := by
  apply List.ext_getElem?
  intro i
  by_cases e : ((k : Nat) : Int).toNat = i
  ·subst e
   rw [List.getElem?_set_self (by omega)]
   unfold gl
   rw [List.getD_eq_getElem?_getD, List.getElem?_eq_getElem (by omega), Option.getD_some]
  ·rw [List.getElem?_set_ne e]
 rw [h5]
theorem mixG_all : qfW A B B.h.toNat = B := by
 have h1 := hA.2.2.1
 have h2 := hB.2.2.1
 unfold qfW
 rw [List.take_of_length_le (by omega), List.drop_of_length_le (by omega), List.append_nil, hw, hh]
end
theorem okG_gl {G : Gr} (hG : okG G) (hok : G.ok) {k : Nat} (hk : k < G.h.toNat) : qb4 (gl G (k : Int)) = true := by
 have h3 := hok.2.2.1
 refine (hG _ ?_).2
 unfold gl
 rw [Int.toNat_natCast, List.getD_eq_getElem?_getD, List.getElem?_eq_getElem (by omega), Option.getD_some]
 exact List.getElem_mem _
theorem size0 {o : ByteArray} (h : o.size = 0) : o = ByteArray.empty := by
 have := none_iff.2 h
 exact qi1 this
theorem qeo {W H : Int} {T : TS} (hP : Pla W H T) {A B : Gr} (hA : A.ok) (hB : B.ok) (gA : okG A) (gB : okG B) (hT : T.grid = A) (hw : B.w = W) (hh : B.h = H) : ∀ k, k ≤ B.h.toNat →
  ∃ c : Cur, qi T (dfK A B k) = { T with grid := qfW A B k, cursor := c } ∧ (0 ≤ c.x ∧ c.x < W) ∧ 0 ≤ c.y ∧ c.y < H
 | 0, _ => by
  refine ⟨T.cursor, ?_, hP.lim.cu⟩
  have e : qfW A B 0 = T.grid := by rw [hT]; unfold qfW; rfl
  rw [e]
  rfl
 | k + 1, hk => by
  obtain ⟨c, ih, hc⟩ := qeo hP hA hB gA gB hT hw hh k (by omega)
  have hg := hP.lim.g1
  rw [hT] at hg
  have hww : A.w = B.w := by rw [hg.1, hw]
  have hhh : A.h = B.h := by rw [hg.2, hh]
  have hla : (gl A (k : Int)).length = W.toNat := by rw [gl_len hA (by omega), hg.1]
  have hlb : (gl B (k : Int)).length = W.toNat := by rw [gl_len hB (by omega), hw]
  by_cases e : gl A (k : Int) = gl B (k : Int)
  ·refine ⟨c, ?_, hc⟩
   have e2 : dfK A B (k + 1) = dfK A B k := by
    conv => lhs; unfold dfK
    dsimp only
    rw [if_neg (fun h => (qhp (by omega)).1 h e)]
   rw [ql4 hA hB hww hhh (by omega) e, e2, ih]
  ·have hP2 : Pla W H { T with grid := qfW A B k, cursor := c } := (hP.grd (G := qfW A B k) ⟨by rw [hT]; rfl, by rw [hT]; rfl⟩ (ql3 hA hB hww hhh (by omega))).cur hc
   obtain ⟨c', e', hc'⟩ := qjb hP2 (y := (k : Int)) ⟨by omega, by omega⟩ (okG_gl gA hA (by omega)) (okG_gl gB hB (by omega)) hla hlb (ql2 hA hB hhh (by omega)) e
   refine ⟨c', ?_, hc'⟩
   have e2 : dfK A B (k + 1) = dfK A B k ++ (toB ((qaQ (gl A (k : Int)) (gl B (k : Int))).1 : Int) (k : Int) ++ wrB (((gl B (k : Int)).take (qaQ (gl A (k : Int)) (gl B (k : Int))).2).drop (qaQ (gl A (k : Int)) (gl B (k : Int))).1)) := by
    conv => lhs; unfold dfK
    dsimp only
    rw [if_pos ((qhp (by omega)).2 e)]
   rw [e2, qL, ih, e']
   dsimp only
   rw [qif hA hB hhh (by omega)]
structure Shw (W H : Int) (T : TS) (V : Vw) : Prop where
 pla : Pla W H T
 grid : T.grid = V.g
 x : T.cursor.x = V.x
 y : T.cursor.y = V.y
 late : T.cursor.late = false
 hid : T.hidden = V.hid
theorem Pla.hide {W H : Int} {T : TS} (h : Pla W H T) (b : Bool) : Pla W H { T with hidden := b } := { h with lim := h.lim.flags rfl rfl rfl rfl rfl rfl rfl rfl rfl }
theorem qjc {W H : Int} {T : TS} {A B : Vw} (h : Shw W H T A) (gA : okG A.g) (gB : okG B.g) (hB : B.g.ok) (hw : B.g.w = W) (hh : B.g.h = H) (hx : 0 ≤ B.x ∧ B.x < W) (hy : 0 ≤ B.y ∧ B.y < H) : Shw W H (qi T (qb9 A B)) B := by
 have hP := h.pla
 have hA : A.g.ok := h.grid ▸ hP.ok
 have hg := hP.lim.g1
 rw [h.grid] at hg
 obtain ⟨c, e1, hc⟩ := qeo hP hA hB gA gB h.grid hw hh B.g.h.toNat (Nat.le_refl _)
 rw [mixG_all hA hB (by rw [hg.1, hw]) (by rw [hg.2, hh])] at e1
 have hG : ∀ c : Cur, ((0 ≤ c.x ∧ c.x < W) ∧ 0 ≤ c.y ∧ c.y < H) → Pla W H { T with grid := B.g, cursor := c } := fun c hc => (hP.grd (G := B.g) ⟨by rw [h.grid, hw, hg.1], by rw [h.grid, hh, hg.2]⟩ hB).cur hc
 have s1 : ∃ c : Cur, qi T (df1 A B) = { T with grid := B.g, cursor := c } ∧ ((0 ≤ c.x ∧ c.x < W) ∧ 0 ≤ c.y ∧ c.y < H) ∧ ((df1 A B).size = 0 → c = T.cursor) := by
  unfold df1
  by_cases hz : (dfK A.g B.g B.g.h.toNat).size = 0
  ·rw [if_pos hz]
   have e0 := e1
   rw [size0 hz, qkX] at e0
   refine ⟨c, e1, hc, fun _ => ?_⟩
   have := congrArg TS.cursor e0
   exact this.symm
  ·rw [if_neg hz]
   refine ⟨⟨c.x, c.y, c.late, qb5⟩, ?_, hc, fun hz2 => ?_⟩
   ·rw [qL, e1, qgR (hG c hc).par ⟨⟨Int.le_refl _, by decide⟩, Int.le_refl _, by decide⟩]
   ·have := styB_pos qb5
    rw [ByteArray.size_append] at hz2
    omega
 obtain ⟨c1, e2, hc1, hz1⟩ := s1
 have s2 : ∃ c : Cur, qi T (df2 A B) = { T with grid := B.g, cursor := c } ∧ c.x = B.x ∧ c.y = B.y ∧ c.late = false := by
  unfold df2
  split
  ·rw [qL, e2, qie (hG c1 hc1).par (hG c1 hc1).lim (hG c1 hc1).org hx hy]
   exact ⟨_, rfl, rfl, rfl, rfl⟩
  ·rename_i hz
   have h1 : (df1 A B).size = 0 := Classical.byContradiction fun h => hz (.inl h)
   have h2 : A.x = B.x := Classical.byContradiction fun h => hz (.inr (.inl h))
   have h3 : A.y = B.y := Classical.byContradiction fun h => hz (.inr (.inr h))
   refine ⟨c1, e2, ?_⟩
   rw [hz1 h1, h.x, h.y, h2, h3]
   exact ⟨rfl, rfl, h.late⟩
 obtain ⟨c2, e3, h1, h2, h3⟩ := s2
 have hc2 : (0 ≤ c2.x ∧ c2.x < W) ∧ 0 ≤ c2.y ∧ c2.y < H := by rw [h1, h2]; exact ⟨hx, hy⟩
 have hP2 := hG c2 hc2
 have hfin : ∀ b, b = B.hid → Shw W H { ({ T with grid := B.g, cursor := c2 } : TS) with hidden := b } B := fun b hb => ⟨hP2.hide b, rfl, h1, h2, h3, hb⟩
 unfold qb9
 split
 ·rename_i hq
  rw [qL, e3, qj8 hP2.par]
  exact hfin true hq.1.symm
 ·rename_i hq1
  split
  ·rename_i hq
   rw [qL, e3, qj9 hP2.par]
   exact hfin false hq.2.symm
  ·rename_i hq2
   rw [e3]
   refine hfin T.hidden ?_
   rw [h.hid]
   cases hA' : A.hid <;> cases hB' : B.hid
   ·rfl
   ·exact absurd ⟨hB', hA'⟩ hq1
   ·exact absurd ⟨hA', hB'⟩ hq2
   ·rfl
theorem newG_ok (w h : Int) : (qcw w h).ok := by
 have h1 := qP w
 have h2 := qP h
 refine ⟨h1, h2, List.length_replicate, fun l hl => ?_⟩
 rw [List.eq_of_mem_replicate hl, List.length_replicate]; rfl
theorem qht (T : TS) (p1 p2 : Int) (hr : T.reply.size ≤ 400) (hp : T.parser = atP 0) : Shw (qb p1) (qb p2) (startT T p1 p2) ⟨qcw p1 p2, 0, 0, false⟩ :=
 ⟨⟨qd0 T p1 p2 hr, newG_ok p1 p2, hp, rfl, rfl, rfl, rfl, rfl, rfl, rfl, rfl⟩, rfl, rfl, rfl, rfl, rfl⟩
def resetB : ByteArray := ⟨#[27, 99]⟩
theorem qhu {T : TS} (hp : T.parser = atP 0) : qi T resetB = startT T T.grid.w T.grid.h := by
 show qz (qz T 27) 99 = _
 have h1 : qz T 27 = { T with parser := atP 1 } := by unfold qz; rw [hp]; rfl
 have h2 : qz { T with parser := atP 1 } 99 = startT { T with parser := atP 0 } T.grid.w T.grid.h := by kernel_rfl
 rw [h1, h2, qcm hp]
def qbZ (B : Vw) : Vw := ⟨qcw B.g.w B.g.h, 0, 0, false⟩
def qp (B : Vw) : ByteArray := resetB ++ qb9 (qbZ B) B
theorem qbk (p : Int) : qb (qb p) = qb p := qal (qP p)
theorem qep (p1 p2 : Int) : qcw (qb p1) (qb p2) = qcw p1 p2 := by unfold qcw; rw [qbk, qbk]
theorem qca {q1 q2 p1 p2 : Int} {V : Vw} (h : VOk q1 q2 V) (h1 : q1 = qb p1) (h2 : q2 = qb p2) : VOk p1 p2 V :=
 ⟨h.ok, by rw [h.w, h1, qbk], by rw [h.h, h2, qbk], h.x, h.y⟩
theorem ql5 (p1 p2 : Int) : VOk p1 p2 ⟨qcw p1 p2, 0, 0, false⟩ := by
 have h1 := qP p1
 have h2 := qP p2
 exact ⟨qkS p1 p2, rfl, rfl, ⟨Int.le_refl _, by show (0 : Int) < qb p1; omega⟩, Int.le_refl _, by show (0 : Int) < qb p2; omega⟩
theorem qaM {p1 p2 : Int} {T : TS} {A B : Vw} (h : Shw (qb p1) (qb p2) T A) (hA : VOk p1 p2 A) (hB : VOk p1 p2 B) (ok : B.g.ok) : Shw (qb p1) (qb p2) (qi T (qb9 A B)) B :=
 qjc h hA.ok hB.ok ok hB.w hB.h (hB.w ▸ hB.x) (hB.h ▸ hB.y)
theorem qc4 {p1 p2 : Int} {T : TS} {B : Vw} (hp : T.parser = atP 0) (hL : Lim (qb p1) (qb p2) T) (hB : VOk p1 p2 B) (ok : B.g.ok) : Shw (qb p1) (qb p2) (qi T (qp B)) B := by
 have e : qbZ B = ⟨qcw p1 p2, 0, 0, false⟩ := by unfold qbZ; rw [hB.w, hB.h, qep]
 unfold qp
 rw [qL, qhu hp, hL.g1.1, hL.g1.2, e]
 have hs := qht T (qb p1) (qb p2) hL.rp hp
 rw [qbk, qbk, qep] at hs
 exact qaM hs (ql5 p1 p2) hB ok
theorem qbg {p1 p2 : Int} {A B : Vw} (hA : VOk p1 p2 A) (hB : VOk p1 p2 B) : (A.g.w = B.g.w ∧ A.g.h = B.g.h) ∧ ((0 ≤ B.x ∧ B.x ≤ 60) ∧ 0 ≤ B.y ∧ B.y ≤ 60) ∧ ∀ l ∈ B.g.lines, ∀ c ∈ l, qcl c.sty := by
 have h1 := qP p1
 have h2 := qP p2
 have h3 := hB.x
 have h4 := hB.y
 have h5 := hB.w
 have h6 := hB.h
 exact ⟨⟨by rw [hA.w, h5], by rw [hA.h, h6]⟩, ⟨⟨by omega, by omega⟩, by omega, by omega⟩, qkT hB.ok⟩
theorem qam {p1 p2 : Int} {A B : Vw} (hB : VOk p1 p2 B) (ok : B.g.ok) : (qb9 A B).size ≤ 112500 := by
 have h1 := qP p1
 have h2 := qP p2
 have h3 := hB.x
 have h4 := hB.y
 have h5 := hB.w
 have h6 := hB.h
 have h7 := ok.2.2.1
 refine qkG (fun l hl => ⟨?_, qkT hB.ok l hl⟩) (by omega) (by omega) ⟨by omega, by omega⟩ ⟨by omega, by omega⟩
 have := ok.2.2.2 l hl
 omega
theorem qaN {ls : List Lk} (h : qjq ls = true) : ls.length ≤ 12 ∧ ∀ k, k < ls.length → (gk ls k).n ≤ 400 := by
 unfold qjq at h
 rw [Bool.and_eq_true, decide_eq_true_eq] at h
 refine ⟨h.1, fun k hk => ?_⟩
 have h2 := List.all_eq_true.1 h.2 (gk ls k) (by unfold gk; rw [List.getD_eq_getElem?_getD, List.getElem?_eq_getElem hk, Option.getD_some]; exact List.getElem_mem hk)
 simpa using h2
theorem qcb {ls : List Lk} {k : Nat} (h : k < ls.length) : gk ls k ∈ ls := by
 unfold gk
 rw [List.getD_eq_getElem?_getD, List.getElem?_eq_getElem h, Option.getD_some]; exact List.getElem_mem h
theorem qX {w : World} {t g o : Nat} {ba : Option Addr} {bn bc : Nat} {pa : Option Addr} {pn pc : Nat} {T : TS} {F F1 F2 FB FP : Nat → Prop} (hI : TermIn w t g o ba bn bc pa pn pc T F F1 F2 FB FP) {W H : Int} (hP : Pla W H T) : Calls Tryz.prog 16 [pX t].toArray w fun e w' => e = .returned (.bool true) ∧ Ch (fun _ => False) w w' := by
 obtain ⟨gv, d⟩ := hI.g1.head; have h := Sep.nil w; refine yA Tryz.func16 rfl <| yx 1 <| ys <| zD [] h fun u h => qjR (by kernel_rfl) (fun a => ?_); refine yg a (uL 0 63) [] (.l ((qo h.ch (hI.blk.c 88) id).trans (congrArg some (congrArg Value.bool hP.wrap))) (.l ((qo h.ch (hI.blk.c 89) id).trans (congrArg some (congrArg Value.bool hP.org))) (.l ((qo h.ch (hI.blk.c 90) id).trans (congrArg some (congrArg Value.bool hP.ins))) (.i 0 (2) (.l ((qo h.ch (hI.blk.c 92) id).trans (congrArg some (congrArg Value.bool hP.d0))) (.i 1 (2) (.l ((qo h.ch (hI.blk.c 93) id).trans (congrArg some (congrArg Value.bool hP.d1))) (.l ((qo h.ch (hI.blk.c 94) id).trans (congrArg some (congrArg Value.bool hP.sh))) (.l ((qo h.ch (hI.blk.c 26) id).trans (congrArg some (congrArg (Value.int .i64) hP.top))) (.l ((qo h.ch (hI.blk.c 27) id).trans (congrArg some (congrArg (Value.int .i64) hP.bot))) (.l (qo h.ch (hI.blk.c 0) id) (.l ((qo h.ch (d.c 1) id).trans (congrArg some (congrArg (Value.int .i64) hP.lim.g1.2))) .z)))))))))))) <| yv [65] (rE H H) (fun b => ?_) fun b => ?_
 ·refine yg a (uL 63 17) [] (.l ((qo h.ch (hI.blk.c 98) id).trans (congrArg some (congrArg (Value.int .i64) (congrArg PS.state hP.par)))) (.l ((qo h.ch (hI.blk.c 102) id).trans (congrArg some (congrArg (Value.int .i64) (congrArg (fun p : PS => p.utf.n) hP.par)))) .z)) <| yGe (nS ?_); refine q9 (yR1 (.bool true) ?_); exact ⟨rfl, h.ch⟩
 exact absurd rfl b
theorem qY {w : World} {t g o : Nat} {ba : Option Addr} {bn bc : Nat} {pa : Option Addr} {pn pc : Nat} {T : TS} {F F1 F2 FB FP : Nat → Prop} (hI : TermIn w t g o ba bn bc pa pn pc T F F1 F2 FB FP) {W H : Int} {V : Vw} (hS : Shw W H T V) {q : Nat} {FG : Nat → Prop} (hG : GridAt w q V.g FG) : Calls Tryz.prog 15 [pX t, .agg #[pX q, iX V.x, iX V.y, .bool V.hid]].toArray w fun e w' => e = .returned (.bool true) ∧ Ch (fun _ => False) w w' := by
 have h := Sep.nil w; refine yA Tryz.func15 rfl <| ysr <| yo (zN [pX q, iX V.x, iX V.y, .bool V.hid] 30 h fun u i h => ?_); refine yz 2 <| ys <| zD [6] h fun u h => qjR (by kernel_rfl) (fun a => ?_); refine yg a (uL 0 6) [] (.l (qo h.ch (hI.blk.c 0) id) (.l (h.c 0 0) .z)) <| yK 6 (yQ (h.look (qgF (G1 := V.g) (G2 := V.g) (hS.grid ▸ hI.g1.ch h.ch iZ) (hG.ch h.ch iZ))) fun u h => ?_); refine q8 <| yg a [7] [] .z <| yv [12] (rY (grB V.g V.g)) (fun b => ?_) fun b => ?_
 ·refine yg a (uL 8 10) [] (.l ((qo h.ch (hI.blk.c 2) id).trans (congrArg some (congrArg (Value.int .i64) hS.x))) (.l (h.c 0 1) .z)) <| yv [22] (rE V.x V.x) (fun d => ?_) fun d => ?_
  ·refine yg a (uL 18 10) [] (.l ((qo h.ch (hI.blk.c 3) id).trans (congrArg some (congrArg (Value.int .i64) hS.y))) (.l (h.c 0 2) .z)) <| yv [32] (rE V.y V.y) (fun f => ?_) fun f => ?_
   ·refine yg a (uL 28 17) [] (.l ((qo h.ch (hI.blk.c 4) id).trans (congrArg some (congrArg Value.bool hS.late))) (.l ((qo h.ch (hI.blk.c 91) id).trans (congrArg some (congrArg Value.bool hS.hid))) (.l (h.c 0 3) .z))) <| yGe (nS ?_); refine q9 (yR1 (.bool (V.hid == V.hid)) ?_); exact ⟨by simp, h.ch⟩
   exact absurd rfl f
  exact absurd rfl d
 rw [grB_refl] at b; cases b
theorem qc5 (q : Nat) (B : Vw) (FG : Nat → Prop) (w : World) (hT : LT w) (h7 : gTop ≤ w.heap.size) (hG : GridAt w q B.g FG) (p1 p2 : Int) (hB : VOk p1 p2 B) : Calls Tryz.prog 26 [.agg #[pX q, iX B.x, iX B.y, .bool B.hid]].toArray w fun e w' => e = .returned (.string (qp B)) ∧ Ch (fun _ => False) w w' := by
 obtain ⟨gv, b⟩ := hG.head; have hd := qbg (ql5 p1 p2) hB; rw [show qcw p1 p2 = (qbZ B).g by unfold qbZ; rw [hB.w, hB.h, qep]] at hd; have hz := qam (A := qbZ B) hB hG.ok; have h := Sep.nil w; refine yA Tryz.func26 rfl <| ysr <| yo (zN [pX q, iX B.x, iX B.y, .bool B.hid] 30 h fun u j h => ?_); refine yz 2 <| ys <| zDC [12] [0] h fun u h => ydF [0, 1, 2, 3, 4, 5, 6, 7, 8, 9, 11] [] h.on (fun u h => (.l (h.c 0 0) (.l (qo h.ch (b.c 0) id) (.l (h.c 0 0) (.l (qo h.ch (b.c 1) id) (.a (h.cs 0 0 4) .z)))))) <| yH 10 (yC (qfS (B.g.w) (B.g.h) _ (qr h.ch hT (fun _ h => h.elim)) (Nat.le_trans h7 h.ch.size)) ?_); rintro _ u ⟨k, m, rfl, d, f, i⟩; refine ⟨_, rfl, ?_⟩; have h := h.newGrid d f i; refine zHa h <| yK 12 (yQ (h.look ((h.grid 1).elim fun _ hA => qb0 (A := qbZ B) (B := B) _ (qr h.ch hT (fun _ h => h.elim)) hA (hG.ch h.ch iZ) hd.1.1 hd.1.2 hd.2.1.1 hd.2.1.2 hd.2.2)) fun u h => ?_); refine q8 <| yd [13, 14] [] (.p (q := (resetB).size + ((qb9 (qbZ B) B)).size ≤ 9223372036854775807) (by have : resetB.size = 2 := rfl; omega) .z) <| yDe (nS ?_); refine q9 (yR1 (.string (resetB ++ (qb9 (qbZ B) B))) ?_); exact ⟨rfl, h.ch⟩
theorem qdd (w : World) (hT : LT w) (h7 : gTop ≤ w.heap.size) : Calls Tryz.prog 8 [].toArray w fun e w' => e = .returned (.bool true) ∧ Ch (fun _ => False) w w' := by
 obtain ⟨f1, f2, f3, f4, f5⟩ := qhk; have f6 : (qcw (2) (1)).h = 1 := rfl; have h := Sep.nil w; refine yA Tryz.func8 rfl <| yx 1 <| ysr <| yo (yC (qfS (2) (1) _ (qr h.ch hT (fun _ h => h.elim)) (Nat.le_trans h7 h.ch.size)) ?_); rintro _ u ⟨C, D, rfl, j, k, m⟩; refine ⟨_, rfl, ?_⟩; have h := h.newGrid j k m; refine yo (yC (qfS (2) (1) _ (qr h.ch hT (fun _ h => h.elim)) (Nat.le_trans h7 h.ch.size)) ?_); rintro _ u ⟨n, E, rfl, o, p, q⟩; refine ⟨_, rfl, ?_⟩; have h := h.newGrid o p q; refine yo (yC (qdN (2) (1) _ (qr h.ch hT (fun _ h => h.elim)) (Nat.le_trans h7 h.ch.size)) ?_); rintro _ u ⟨G, rfl, r, s⟩; refine ⟨_, rfl, ?_⟩; have h := h.newT r s; refine yo (zN [.pointer none, iX 0, iX 0, .bool false] 30 h fun u H h => ?_); refine yo (zN [.pointer none, iX 0, iX 0, .bool false] 30 h fun u b24 h => ?_); refine yo (zs h 3 fun u h => ?_); refine yo (zs h 4 fun u h => ?_); refine yz 8 <| ys <| ysr ?_; obtain ⟨I, J, h⟩ := h.opn 2; obtain ⟨K, L, t⟩ := h.glines 1; refine yp 28 [] (.l (h.c 3 0) (.l (h.c 4 0) (.l (h.tg 2) (.l (h.c 4 0) (.l t .z))))) <| ye <| yc (rI (((qcw (2) (1)).h.toNat : Nat) : Int) 1) (fun b => ?_) fun b => ?_
 ·have M := b; exfalso; omega
 have N := b; refine yk <| ysr <| yp 3 [] (.l (h.c 4 0) .z) <| yo (yQ (h.step 1 (A' := qey n (qdz (qcw (2) (1)) (1) (0) (Cel.mk 120 qb5))) (fun F hA _ => qh9 _ _ F (1) (0) (Cel.mk 120 qb5) _ (qr h.ch hT (fun _ h => h.elim)).tb hA)) fun u h => ?_); refine ye <| ysr <| yp 3 [] (.a (h.cs 3 0 4) (.a (h.cs 4 0 4) .z)) <| yo (yQ (h.look ((h.grid 0).elim fun _ hA => (h.grid 1).elim fun _ hB => qb0 (A := qj1) (B := fitB) _ (qr h.ch hT (fun _ h => h.elim)) hA hB rfl rfl ⟨Int.le_refl _, by decide⟩ ⟨Int.le_refl _, by decide⟩ qkO)) fun u h => ?_); refine yo (yQ (h.wr hT 2 (qcu 2 1) (qb9 qj1 fitB) qj2) fun u h => ?_); refine ye <| ysr ?_; obtain ⟨O, P, h⟩ := h.opn 2; refine yp 4 [] (.l (h.tg 2) .z) <| yo (yQ (h.lookG 2 fun _ hG => at_any _ _ _ (1) (0) _ (qr h.ch hT (fun _ h => h.elim)).tb hG) fun u h => ?_); refine yq 8 <| yw [51] (rE (atG fitT.grid (1) (0)).rune 120) (fun d => ?_) fun d => ?_
 ·have Q := d; refine yp 16 [] (.l (h.tc 2 2) .z) <| yw [59] (rE fitT.cursor.x 0) (fun f => ?_) fun f => ?_
  ·have R := f; refine yp 18 [] (.a (h.cs 3 0 4) (.a (h.cs 3 0 4) .z)) <| yo (yQ (h.look ((h.grid 0).elim fun _ hA => (h.grid 0).elim fun _ hB => qgK (A := qj1) (B := qj1) _ hA hB)) fun u h => ?_); refine yq 21 <| yw [64] (rY (qfR qj1 qj1)) (fun g => ?_) fun g => ?_
   ·have S := g; refine yp 23 [] (.a (h.cs 3 0 4) (.a (h.cs 4 0 4) .z)) <| yo (yQ (h.look ((h.grid 0).elim fun _ hA => (h.grid 1).elim fun _ hB => qgK (A := qj1) (B := fitB) _ hA hB)) fun u h => ?_); refine yz 27 <| q9 (yR1 (.bool (!(qfR qj1 fitB))) ?_); refine ⟨zc ?_, h.ch⟩; simp [f1, f2, f3, f4]
   have i := g; rw [f3] at i; cases i
  have v := f; exact absurd f2 v
 have y := d; exact absurd f1 y
theorem do_at {w : World} {t : Nat} {T : TS} {F : Nat → Prop} (hA : TermAt w t T F) (hT : LT w) (hf : Fine T) (x : Stp) (hx : x.text.size ≤ 1000000) : Calls Tryz.prog 25 [pX t, .agg #[.string x.text, iX x.w, iX x.h]].toArray w fun e w' => e = .returned (.tuple #[]) ∧ TermAt w' t (doT T x) (more F w w') ∧ Ch F w w' := by
 obtain ⟨⟨W, H, hL⟩, hp⟩ := hf; refine yA Tryz.func25 rfl <| ysr <| yo (yN [.string x.text, iX x.w, iX x.h] 74 fun m n j o a k => ?_); have p := zn j (zm w); have f := zu (zm w) k iZ; refine ye <| ys <| ysr <| yp 4 [] (.l (a.c 1) .z) <| yw [7] (rE x.w 0) (fun g => ?_) fun g => ?_
 ·refine yp 8 [] (.l (a.c 2) .z) <| ye <| yc (rE x.h 0) (fun i => ?_) fun i => ?_
  ·refine ysr <| yp 3 [] (.l (a.c 0) .z) ?_; have hq := Up.ch f; have b := hA.ch hq iZ; have d := qr hq hT (fun _ h => h.elim); refine yo (yQ (qi5 b d hL hp x.text hx) ?_); rintro q ⟨hB, hc⟩; refine ye <| q9 (rS (yR0 ?_)); exact ⟨rfl, TermAt.eq' (hB.mono (qdl hq.size) (hA.moreOk (Nat.le_trans hq.size hc.size))) (if_pos ⟨g, i⟩), (hq.mono eZ).trans hc iZ⟩
  refine yk <| q7 <| yp 5 [] (.l (a.c 1) (.l (a.c 2) .z)) ?_; have hq := Up.ch f; have b := hA.ch hq iZ; have d := qr hq hT (fun _ h => h.elim); refine yo (yQ (qgM b d hL x.w x.h) ?_); rintro r ⟨hB, hc⟩; refine yE (qD ?_); exact ⟨rfl, TermAt.eq' (hB.mono (qdl hq.size) (hA.moreOk (Nat.le_trans hq.size hc.size))) (if_neg (fun h => i h.2)), (hq.mono eZ).trans hc iZ⟩
 refine yz 8 <| ycf <| yk <| q7 <| yp 5 [] (.l (a.c 1) (.l (a.c 2) .z)) ?_; have hq := Up.ch f; have b := hA.ch hq iZ; have d := qr hq hT (fun _ h => h.elim); refine yo (yQ (qgM b d hL x.w x.h) ?_); rintro s ⟨hB, hc⟩; refine yE (qD ?_); exact ⟨rfl, TermAt.eq' (hB.mono (qdl hq.size) (hA.moreOk (Nat.le_trans hq.size hc.size))) (if_neg (fun h => g h.1)), (hq.mono eZ).trans hc iZ⟩
theorem Sys.do {w0 w : World} {bs : List (Nat × List Value × TypeId)} {ts : List (Nat × TS)} (h : Sys w0 w bs ts) {i t : Nat} {T : TS} (hi : ts[i]? = some (t, T)) (x : Stp) (hx : x.text.size ≤ 1000000) : Calls Tryz.prog 25 [pX t, .agg #[.string x.text, iX x.w, iX x.h]].toArray w fun e w' => e = .returned (.tuple #[]) ∧ Sys w0 w' bs (ts.set i (t, doT T x)) :=
  h.step hi (fun F hA hl hf => do_at hA hl hf x hx) (fun hf => qkQ hf x)
theorem qjd {st : List Stp} {k : Nat} (h : ∀ i : Nat, i < k → (gs st i).text.size ≤ 600) (hb : (gs st k).text.size ≤ 600) : ∀ i : Nat, i < k + 1 → (gs st i).text.size ≤ 600 := fun i hi => by
  rcases Nat.lt_or_ge i k with h' | h'
  · exact h i h'
  · obtain rfl : i = k := by omega
    exact hb
theorem qfd (sb so sc : Nat) (st : List Stp) (w : World) (hT : LT w) (h7 : gTop ≤ w.heap.size) (hst : Rd w (some ⟨sb, so, none⟩) (flatS st)) : Calls Tryz.prog 24 [.slice (some ⟨sb, so, none⟩) st.length sc].toArray w fun e w' => e = .returned (.bool (qf8 st)) ∧ Ch (fun _ => False) w w' := by
 have hS := Sys.start hT h7; refine yA Tryz.func24 rfl <| yx 1 <| ys <| yx 3 <| yc (rL 40 ((st.length : Nat) : Int)) (fun f => ?_) fun f => ?_
 ·refine yx 1 <| q9 (rS (yR1 (.bool false) ?_)); refine ⟨zc ?_, hS.ch⟩; exact (Bool.eq_false_iff.2 fun h => by have := (shortB_iff.1 h).1; omega).symm
 refine yk <| ys <| yx 3 <| qa <| qa4 [8, 9, 10] (f' := [(8, .slice (some ⟨sb, so, none⟩) st.length sc), (9, iX ((st.length : Nat) : Int)), (10, iX 0)]) <| qF (σ := Nat) (fun k => [(8, .slice (some ⟨sb, so, none⟩) st.length sc), (9, iX ((st.length : Nat) : Int)), (10, iX ((k : Nat) : Int))]) (fun k wv => (k : Int) ≤ ((st.length : Nat) : Int) ∧ Sys w wv [] [] ∧ ∀ i : Nat, i < k → (gs st i).text.size ≤ 600) (fun k => (((st.length : Nat) : Int)).toNat - k) 0 rfl ?_ ?_
 ·exact ⟨by omega, hS, fun i hi => absurd hi (Nat.not_lt_zero i)⟩
 intro k p q A r; obtain ⟨B, b, j⟩ := q; replace b : Sys w p [] [] := b; refine yx 1 <| ys <| yc (rL ((k : Nat) : Int) ((st.length : Nat) : Int)) (fun f => ?_) fun f => ?_
 ·refine yk <| ys <| qa <| ysr <| yp 2 [] (.i ((k : Nat) : Int) (st.length) (.m (s_text (k := k) (Ch.rd b.ch hst id) (by omega)) (.m (s_w (k := k) (Ch.rd b.ch hst id) (by omega)) (.m (s_h (k := k) (Ch.rd b.ch hst id) (by omega)) (.e .z))))) <| yo (yN [oX, iX 0, iX 0] 74 fun s d t C u v => ?_); have n : Sys w s [(d, [oX, iX 0, iX 0], 74)] [] := b.box v u (Nat.le_of_eq t.symm); refine yo (yS (n.blk 0 (d, [oX, iX 0, iX 0], 74) rfl) fun o x y => ?_); have g : Sys w o [(d, [.string (gs st k).text, iX (gs st k).w, iX (gs st k).h], 74)] [] := n.set 0 rfl y (Blk.to x (by kernel_rfl)); refine ye <| ysr <| yp 4 [] (.l ((g.blk 0 (d, [.string (gs st k).text, iX (gs st k).w, iX (gs st k).h], 74) rfl).c 0) .z) <| ye <| yc (rL 600 (((gs st k).text).size : Int)) (fun f => ?_) fun f => ?_
  ·refine yx 1 <| q9 (rB (rS (qcK (rB (rS (yR1 (.bool false) ?_)))))); refine ⟨zc ?_, g.ch⟩; exact (Bool.eq_false_iff.2 fun h => by have := (shortB_iff.1 h).2 k (by omega); omega).symm
  refine qk (nB (nS ?_)); refine q7 <| yp 2 [] (.q6 (((k : Nat) : Int) + 1) .z) <| yE (fun a ha => r (k + 1) _ ⟨by omega, (Sys.pre (bs' := [(d, [.string (gs st k).text, iX (gs st k).w, iX (gs st k).h], 74)]) (show Sys w o (_ ++ [(d, [.string (gs st k).text, iX (gs st k).w, iX (gs st k).h], 74)]) _ from g)), qjd j (by omega)⟩ (by omega) a (ha.kp [8, 9, 10]))
 refine qs (eS (qf (qd (nS ?_)))); refine yx 1 <| q9 (yR1 (.bool true) ?_); refine ⟨zc ?_, b.ch⟩; exact (shortB_iff.2 ⟨by omega, fun i hi => j i (by omega)⟩).symm
theorem qgU (a : Option Addr) (sc : Nat) (w : World) (hT : LT w) (h7 : gTop ≤ w.heap.size) : Calls Tryz.prog 24 [.slice a 0 sc].toArray w fun e w' => e = .returned (.bool (qf8 [])) ∧ Ch (fun _ => False) w w' := by
 have hS := Sys.start hT h7; refine yA Tryz.func24 rfl <| yx 1 <| ys <| yx 3 <| ycf <| yk <| ys <| yx 3 <| qa <| yU 1 (yU1 ?_); refine yx 1 <| ys <| ycf <| qs (eS (qf (qd (nS ?_)))); refine yx 1 <| q9 (yR1 (.bool true) ?_); exact ⟨rfl, hS.ch⟩
theorem qa8 {w : World} {b o : Nat} {ls : List Lk} {i : Nat} {j0 : Int} (h : Rd w (some ⟨b, o, none⟩) (lkV ls)) (hi : i < ls.length) (hj0 : j0 = (i : Int)) (j : Nat) (v : Value) (hj : j < 4) (hv : (gk ls i).vals[j]? = some v) : w.cell? ⟨b, o + j0.toNat * 4 + j, none⟩ = some v := by
 subst hj0; exact qdt h hi j v hj hv
theorem qbI {w : World} {b o : Nat} {ls : List Lk} (h : Rd w (some ⟨b, o, none⟩) (lkV ls)) (hi : 0 < ls.length) (j : Nat) (v : Value) (hj : j < 4) (hv : (gk ls 0).vals[j]? = some v) : w.cell? ⟨b, o + j, none⟩ = some v := by
 have := qdt (i := 0) h hi j v hj hv; simpa using this
theorem qaD {p1 p2 : Int} {T : TS} {V : Vw} (h : Shw (qb p1) (qb p2) T V) : T.grid.w = qb p1 ∧ T.grid.h = qb p2 := h.pla.lim.g1
theorem qgV {T T1 : TS} (hF : Fine T) (hG : T.parser.gr) (h1 : T1 = qi T b24) : T1.parser = atP 0 ∧ Lim (qb T1.grid.w) (qb T1.grid.h) T1 ∧ Fine T1 := by
 have a : Fine T1 := h1 ▸ qaf hF b24; refine ⟨?_, ?_, a⟩
 ·rw [h1]; show (qaC T b24 1).parser = atP 0; rw [qaC, qhh]; exact feed24 hG
 obtain ⟨⟨W, H, hL⟩, _⟩ := a; have e := hL.g1; rw [e.1, e.2, qal hL.wb, qal hL.hb]; exact hL
theorem Lim.wbT {T : TS} (h : Lim (qb T.grid.w) (qb T.grid.h) T) : 1 ≤ T.grid.w ∧ T.grid.w ≤ 60 := by have := h.wb; have := h.g1; omega
theorem Lim.hbT {T : TS} (h : Lim (qb T.grid.w) (qb T.grid.h) T) : 1 ≤ T.grid.h ∧ T.grid.h ≤ 60 := by have := h.hb; have := h.g1; omega
theorem qhv (p1 p2 : Int) (sb so sc : Nat) (st : List Stp) (b off c : Nat) (ls : List Lk) (w : World) (hT : LT w) (h7 : gTop ≤ w.heap.size) (hst : Rd w (some ⟨sb, so, none⟩) (flatS st)) (hr : Rd w (some ⟨b, off, none⟩) (lkV ls)) (hlk : ∀ y ∈ ls, ∃ l : List Cel, (y.n = 0 ∨ ∃ b off, y.a = some ⟨b, off, none⟩) ∧ Rd w y.a (flat l) ∧ l.length = y.n) (hmx : ls.length ≤ 9223372036854775807) : Calls Tryz.prog 6 [.agg #[iX p1, iX p2], .slice (some ⟨sb, so, none⟩) st.length sc, .slice (some ⟨b, off, none⟩) ls.length c].toArray w fun e w' => e = .returned (.bool true) ∧ Ch (fun _ => False) w w' := by
 have aw := qP p1; have ax := qP p2; have h := Sep.nil w; refine yA Tryz.func6 rfl <| ysr <| yo (zN [iX p1, iX p2] 22 h fun u ab h => ?_); refine yz 2 <| ys <| ysr <| yo (yQ (h.look (qdd _ (qr h.ch hT (fun _ h => h.elim)) (Nat.le_trans h7 h.ch.size))) fun u h => ?_); refine yz 2 <| ycf <| yk <| ys <| ysr <| yq 1 <| yo (yQ (h.look (qfd sb so sc st _ (qr h.ch hT (fun _ h => h.elim)) (Nat.le_trans h7 h.ch.size) (h.rd hst))) fun u h => ?_); refine yq 4 <| yw [17] (rN (rY (qf8 st))) (fun a2 => ?_) fun a2 => ?_
 ·refine yz 13 <| yct <| yx 1 <| q9 (rS (yR1 (.bool true) ?_)); exact ⟨rfl, h.ch⟩
 have ac := shortB_iff.1 a2; refine yq 5 <| yo (yQ (h.look (qf6 b off c ls _ (h.rd hr) (by omega))) fun u h => ?_); refine yq 9 <| yw [22] (rN (rY (qjq ls))) (fun D => ?_) fun D => ?_
 ·refine yz 13 <| yct <| yx 1 <| q9 (rS (yR1 (.bool true) ?_)); exact ⟨rfl, h.ch⟩
 have ay := (qaN D).1; refine yz 13 <| yc (rE ((ls.length : Nat) : Int) 0) (fun S => ?_) fun S => ?_
 ·have az := S; refine yx 1 <| q9 (rS (yR1 (.bool true) ?_)); exact ⟨rfl, h.ch⟩
 have aA := S; refine yk <| ysr <| yp 4 [] (.i 0 (2) (.l (h.c 0 0) (.i 1 (2) (.l (h.c 0 1) .z)))) <| yo (yC (qdN (p1) (p2) _ (qr h.ch hT (fun _ h => h.elim)) (Nat.le_trans h7 h.ch.size)) ?_); rintro _ u ⟨U, rfl, ad, ae⟩; refine ⟨_, rfl, ?_⟩; have h := h.newT ad ae; refine yz 6 <| ys <| yx 3 <| qa <| qa4 [2, 7, 32, 33, 34] (f' := [(2, .slice (some ⟨b, off, none⟩) ls.length c), (7, pX U), (32, .slice (some ⟨sb, so, none⟩) st.length sc), (33, iX ((st.length : Nat) : Int)), (34, iX 0)]) <| qF (σ := Nat × TS) (fun ⟨k, T⟩ => [(2, .slice (some ⟨b, off, none⟩) ls.length c), (7, pX U), (32, .slice (some ⟨sb, so, none⟩) st.length sc), (33, iX ((st.length : Nat) : Int)), (34, iX ((k : Nat) : Int))]) (fun ⟨k, T⟩ u => k ≤ st.length ∧ Fine T ∧ T.parser.gr ∧ Sep w (fun _ => False) u [qcd ab [iX p1, iX p2] 22, qbT U T]) (fun ⟨k, T⟩ => st.length - k) (0, startT zeroT p1 p2) rfl ?_ ?_
 ·exact ⟨Nat.zero_le _, qcu p1 p2, qkP p1 p2, h.take 2⟩
 intro p u af aB ag; obtain ⟨k, T⟩ := p; obtain ⟨hk, R, a3, h⟩ := af; refine yx 1 <| ys <| yc (rL ((k : Nat) : Int) ((st.length : Nat) : Int)) (fun W => ?_) fun W => ?_
 ·have aC := W; refine yk <| ys <| qa <| ysr <| yp 2 [] (.i ((k : Nat) : Int) (st.length) (.m (s_text (k := k) (h.rd hst) (by omega)) (.m (s_w (k := k) (h.rd hst) (by omega)) (.m (s_h (k := k) (h.rd hst) (by omega)) (.e .z))))) <| yo (zN [oX, iX 0, iX 0] 74 h fun u aD h => ?_); refine yo (zs h 2 fun u h => ?_); refine ye <| q7 <| yp 2 [] (.a (h.cs 2 0 3) .z) <| yo (yQ (h.met 1 fun F hA hF => do_at hA (qr h.ch hT (fun _ h => h.elim)) R (gs st k) (by have := ac.2 k (by omega); omega)) fun u h => ?_); refine yE (nB (nS ?_)); refine q7 <| yp 2 [] (.q6 (((k : Nat) : Int) + 1) .z) ?_; have h := h.nrm 2 [.string (gs st k).text, iX (gs st k).w, iX (gs st k).h]; refine yE (fun a ha => ag (k + 1, (doT T (gs st k))) _ ⟨by omega, qkQ R _, gr_do a3 _, h.take 2⟩ (by show st.length - (k + 1) < st.length - k; omega) a (ha.kp [2, 7, 32, 33, 34]))
 have aE := W; have aF : k = st.length := by omega
 refine qs (eS (qf (qd (nS ?_)))); refine ysr <| yq 1 ?_; obtain ⟨d, a4⟩ : ∃ d, d = qi T b24 := ⟨_, rfl⟩
 obtain ⟨hq, hL, K⟩ := qgV R a3 a4; refine yo (yQ (h.wr hT 1 R b24 (by decide)) fun u h => ?_); rw [← a4] at h; refine ye <| ys ?_; obtain ⟨aG, aH, h⟩ := h.opn 1; refine zDC [17, 19] [0, 1] h fun u h => ydF (uL 0 17) [] h.on (fun u h => (.l (h.tg 1) (.l (h.gw 1).1 (.l (h.tg 1) (.l (h.gw 1).2 (.i 0 (ls.length) (.m (qbI (h.rd hr) (by omega) 0 _ (by decide) rfl) (.m (qbI (h.rd hr) (by omega) 1 _ (by decide) rfl) (.m (qbI (h.rd hr) (by omega) 2 _ (by decide) rfl) (.m (qbI (h.rd hr) (by omega) 3 _ (by decide) rfl) (.e .z))))))))))) <| qbo 17 18 (by kernel_rfl) (by decide) ?_ ?_
 ·obtain ⟨E, X, Y, Z⟩ := hlk (gk ls 0) (qcb (by omega)); have a0 := (qaN D).2 0 (by omega); obtain ⟨f, L⟩ : ∃ V, V = qd8 (d.grid.w) (d.grid.h) E (gk ls 0).x (gk ls 0).y (gk ls 0).hid := ⟨_, rfl⟩
  have j : VOk d.grid.w d.grid.h f := qca (L ▸ qau (d.grid.w) (d.grid.h) E (gk ls 0).x (gk ls 0).y (gk ls 0).hid) (qal hL.wbT).symm (qal hL.hbT).symm; refine qaw 17 _ (by kernel_rfl) rfl (yC (qat (d.grid.w) (d.grid.h) (gk ls 0).a (gk ls 0).n (gk ls 0).cap E (gk ls 0).x (gk ls 0).y (gk ls 0).hid _ (qr h.ch hT (fun _ h => h.elim)) (Nat.le_trans h7 h.ch.size) X (Y.ch h.ch iZ) Z a0 f L) ?_); rintro _ u ⟨aI, aJ, rfl, a5, ah, ai⟩; refine ⟨_, rfl, ?_⟩; have M := a5.ok; have h := h.newGrid a5 ah ai; refine zK (is := [0, 1]) h <| yH 18 (zN [.pointer none, iX 0, iX 0, .bool false] 30 h fun u aK h => ?_); refine zHa h <| yK 19 (zs h 3 fun u h => ?_); refine q8 <| yDe (nS ?_); refine ysr <| yp 2 [] (.a (h.cs 3 0 4) .z) <| yo (yQ (h.look ((h.grid 2).elim fun _ hG => qc5 _ f _ _ (qr h.ch hT (fun _ h => h.elim)) (Nat.le_trans h7 h.ch.size) hG _ _ j)) fun u h => ?_); have r := qc4 hq hL j M; have aj : (qp f).size ≤ 112600 := by
   have := qam (A := qbZ f) j M; have e : resetB.size = 2 := rfl; unfold qp; rw [ByteArray.size_append]; omega
  refine yo (yQ (h.wr hT 1 K (qp f) (by omega)) fun u h => ?_); refine ye <| ys <| ysr <| yp 2 [] (.a (h.cs 3 0 4) .z) <| yo (yQ (h.peek 1 fun hI => (h.grid 2).elim fun _ hG => qY hI r hG) fun u h => ?_); refine yq 6 <| yo (yQ (h.peek 1 fun hI => qX hI r.pla) fun u h => ?_); refine yz 9 <| ycf <| yk <| ys ?_; obtain ⟨aL, aM, h⟩ := h.opn 1; refine zDC [20, 22] [0, 1, 2, 3] h fun u h => ydF (uL 0 20) [] h.on (fun u h => (.l (h.tg 1) (.l (h.gw 1).1 (.l (h.tg 1) (.l (h.gw 1).2 (.q6 (((ls.length : Nat) : Int) - 1) (.i (((ls.length : Nat) : Int) - 1) (ls.length) (.m (qa8 (i := (ls.length - 1)) (j0 := (((ls.length : Nat) : Int) - 1)) (h.rd hr) (by omega) (by omega) 0 _ (by decide) rfl) (.m (qa8 (i := (ls.length - 1)) (j0 := (((ls.length : Nat) : Int) - 1)) (h.rd hr) (by omega) (by omega) 1 _ (by decide) rfl) (.m (qa8 (i := (ls.length - 1)) (j0 := (((ls.length : Nat) : Int) - 1)) (h.rd hr) (by omega) (by omega) 2 _ (by decide) rfl) (.m (qa8 (i := (ls.length - 1)) (j0 := (((ls.length : Nat) : Int) - 1)) (h.rd hr) (by omega) (by omega) 3 _ (by decide) rfl) (.e .z)))))))))))) <| qbo 20 21 (by kernel_rfl) (by decide) ?_ ?_
  ·have s := qaD r; obtain ⟨o, G, H, I⟩ := hlk (gk ls (ls.length - 1)) (qcb (by omega)); have J := (qaN D).2 (ls.length - 1) (by omega); obtain ⟨g, t⟩ : ∃ V, V = qd8 ((qi d (qp f)).grid.w) ((qi d (qp f)).grid.h) o (gk ls (ls.length - 1)).x (gk ls (ls.length - 1)).y (gk ls (ls.length - 1)).hid := ⟨_, rfl⟩
   have q : VOk d.grid.w d.grid.h g := qca (t ▸ qau ((qi d (qp f)).grid.w) ((qi d (qp f)).grid.h) o (gk ls (ls.length - 1)).x (gk ls (ls.length - 1)).y (gk ls (ls.length - 1)).hid) s.1 s.2; refine qaw 20 _ (by kernel_rfl) rfl (yC (qat ((qi d (qp f)).grid.w) ((qi d (qp f)).grid.h) (gk ls (ls.length - 1)).a (gk ls (ls.length - 1)).n (gk ls (ls.length - 1)).cap o (gk ls (ls.length - 1)).x (gk ls (ls.length - 1)).y (gk ls (ls.length - 1)).hid _ (qr h.ch hT (fun _ h => h.elim)) (Nat.le_trans h7 h.ch.size) G (H.ch h.ch iZ) I J g t) ?_); rintro _ u ⟨aN, aO, rfl, a6, ak, al⟩; refine ⟨_, rfl, ?_⟩; have v := a6.ok; have h := h.newGrid a6 ak al; refine zK (is := [0, 1, 2, 3]) h <| yH 21 (zN [.pointer none, iX 0, iX 0, .bool false] 30 h fun u aP h => ?_); refine zHa h <| yK 22 (zs h 5 fun u h => ?_); refine q8 <| yDe (nS ?_); refine ysr <| yp 3 [] (.a (h.cs 3 0 4) (.a (h.cs 5 0 4) .z)) ?_; have N := qbg j q; refine yo (yQ (h.look ((h.grid 2).elim fun _ hA => (h.grid 4).elim fun _ hB => qb0 (A := f) (B := g) _ (qr h.ch hT (fun _ h => h.elim)) hA hB N.1.1 N.1.2 N.2.1.1 N.2.1.2 N.2.2)) fun u h => ?_); have C := qaM r j q v; have a1 := qam (A := f) q v; refine yo (yQ (h.wr hT 1 (qaf K _) (qb9 f g) (by omega)) fun u h => ?_); refine ye <| ysr <| yp 2 [] (.a (h.cs 5 0 4) .z) <| yo (yQ (h.peek 1 fun hI => (h.grid 4).elim fun _ hG => qY hI C hG) fun u h => ?_); refine yq 5 <| yo (yQ (h.peek 1 fun hI => qX hI C.pla) fun u h => ?_)
   refine yz 8 <| q9 (yR1 (.bool true) ?_); exact ⟨rfl, h.ch⟩
  refine qbp 21 _ (by kernel_rfl) rfl (zN [.pointer none, iX 0, iX 0, .bool false] 30 h fun u aQ h => ?_); refine zHa h ?_; have s := qaD r; obtain ⟨o, G, H, I⟩ := hlk (gk ls (ls.length - 1)) (qcb (by omega)); have J := (qaN D).2 (ls.length - 1) (by omega); obtain ⟨g, t⟩ : ∃ V, V = qd8 ((qi d (qp f)).grid.w) ((qi d (qp f)).grid.h) o (gk ls (ls.length - 1)).x (gk ls (ls.length - 1)).y (gk ls (ls.length - 1)).hid := ⟨_, rfl⟩
  have q : VOk d.grid.w d.grid.h g := qca (t ▸ qau ((qi d (qp f)).grid.w) ((qi d (qp f)).grid.h) o (gk ls (ls.length - 1)).x (gk ls (ls.length - 1)).y (gk ls (ls.length - 1)).hid) s.1 s.2; refine yK 20 (yC (qat ((qi d (qp f)).grid.w) ((qi d (qp f)).grid.h) (gk ls (ls.length - 1)).a (gk ls (ls.length - 1)).n (gk ls (ls.length - 1)).cap o (gk ls (ls.length - 1)).x (gk ls (ls.length - 1)).y (gk ls (ls.length - 1)).hid _ (qr h.ch hT (fun _ h => h.elim)) (Nat.le_trans h7 h.ch.size) G (H.ch h.ch iZ) I J g t) ?_); rintro _ u ⟨aR, aS, rfl, a7, am, an⟩; refine ⟨_, rfl, ?_⟩; have v := a7.ok; have h := h.newGrid a7 am an; refine q8 <| yK 22 (zs h 4 fun u h => ?_); refine q8 <| yDe (nS ?_); refine ysr <| yp 3 [] (.a (h.cs 3 0 4) (.a (h.cs 4 0 4) .z)) ?_; have O := qbg j q; refine yo (yQ (h.look ((h.grid 2).elim fun _ hA => (h.grid 5).elim fun _ hB => qb0 (A := f) (B := g) _ (qr h.ch hT (fun _ h => h.elim)) hA hB O.1.1 O.1.2 O.2.1.1 O.2.1.2 O.2.2)) fun u h => ?_); have C := qaM r j q v; have a1 := qam (A := f) q v; refine yo (yQ (h.wr hT 1 (qaf K _) (qb9 f g) (by omega)) fun u h => ?_); refine ye <| ysr <| yp 2 [] (.a (h.cs 4 0 4) .z) <| yo (yQ (h.peek 1 fun hI => (h.grid 5).elim fun _ hG => qY hI C hG) fun u h => ?_); refine yq 5 <| yo (yQ (h.peek 1 fun hI => qX hI C.pla) fun u h => ?_); refine yz 8 <| q9 (yR1 (.bool true) ?_); exact ⟨rfl, h.ch⟩
 refine qbp 18 _ (by kernel_rfl) rfl (zN [.pointer none, iX 0, iX 0, .bool false] 30 h fun u aT h => ?_); refine zHa h ?_; obtain ⟨E, X, Y, Z⟩ := hlk (gk ls 0) (qcb (by omega)); have a0 := (qaN D).2 0 (by omega); obtain ⟨f, L⟩ : ∃ V, V = qd8 (d.grid.w) (d.grid.h) E (gk ls 0).x (gk ls 0).y (gk ls 0).hid := ⟨_, rfl⟩
 have j : VOk d.grid.w d.grid.h f := qca (L ▸ qau (d.grid.w) (d.grid.h) E (gk ls 0).x (gk ls 0).y (gk ls 0).hid) (qal hL.wbT).symm (qal hL.hbT).symm; refine yK 17 (yC (qat (d.grid.w) (d.grid.h) (gk ls 0).a (gk ls 0).n (gk ls 0).cap E (gk ls 0).x (gk ls 0).y (gk ls 0).hid _ (qr h.ch hT (fun _ h => h.elim)) (Nat.le_trans h7 h.ch.size) X (Y.ch h.ch iZ) Z a0 f L) ?_); rintro _ u ⟨aU, aV, rfl, a8, ao, ap⟩; refine ⟨_, rfl, ?_⟩; have M := a8.ok; have h := h.newGrid a8 ao ap; refine q8 <| yK 19 (zs h 2 fun u h => ?_); refine q8 <| yDe (nS ?_); refine ysr <| yp 2 [] (.a (h.cs 2 0 4) .z) <| yo (yQ (h.look ((h.grid 3).elim fun _ hG => qc5 _ f _ _ (qr h.ch hT (fun _ h => h.elim)) (Nat.le_trans h7 h.ch.size) hG _ _ j)) fun u h => ?_); have r := qc4 hq hL j M; have aj : (qp f).size ≤ 112600 := by
  have := qam (A := qbZ f) j M; have e : resetB.size = 2 := rfl; unfold qp; rw [ByteArray.size_append]; omega
 refine yo (yQ (h.wr hT 1 K (qp f) (by omega)) fun u h => ?_); refine ye <| ys <| ysr <| yp 2 [] (.a (h.cs 2 0 4) .z) <| yo (yQ (h.peek 1 fun hI => (h.grid 3).elim fun _ hG => qY hI r hG) fun u h => ?_); refine yq 6 <| yo (yQ (h.peek 1 fun hI => qX hI r.pla) fun u h => ?_); refine yz 9 <| ycf <| yk <| ys ?_; obtain ⟨aW, aX, h⟩ := h.opn 1; refine zDC [20, 22] [0, 1, 2, 3] h fun u h => ydF (uL 0 20) [] h.on (fun u h => (.l (h.tg 1) (.l (h.gw 1).1 (.l (h.tg 1) (.l (h.gw 1).2 (.q6 (((ls.length : Nat) : Int) - 1) (.i (((ls.length : Nat) : Int) - 1) (ls.length) (.m (qa8 (i := (ls.length - 1)) (j0 := (((ls.length : Nat) : Int) - 1)) (h.rd hr) (by omega) (by omega) 0 _ (by decide) rfl) (.m (qa8 (i := (ls.length - 1)) (j0 := (((ls.length : Nat) : Int) - 1)) (h.rd hr) (by omega) (by omega) 1 _ (by decide) rfl) (.m (qa8 (i := (ls.length - 1)) (j0 := (((ls.length : Nat) : Int) - 1)) (h.rd hr) (by omega) (by omega) 2 _ (by decide) rfl) (.m (qa8 (i := (ls.length - 1)) (j0 := (((ls.length : Nat) : Int) - 1)) (h.rd hr) (by omega) (by omega) 3 _ (by decide) rfl) (.e .z)))))))))))) <| qbo 20 21 (by kernel_rfl) (by decide) ?_ ?_
 ·have s := qaD r; obtain ⟨o, G, H, I⟩ := hlk (gk ls (ls.length - 1)) (qcb (by omega)); have J := (qaN D).2 (ls.length - 1) (by omega); obtain ⟨g, t⟩ : ∃ V, V = qd8 ((qi d (qp f)).grid.w) ((qi d (qp f)).grid.h) o (gk ls (ls.length - 1)).x (gk ls (ls.length - 1)).y (gk ls (ls.length - 1)).hid := ⟨_, rfl⟩
  have q : VOk d.grid.w d.grid.h g := qca (t ▸ qau ((qi d (qp f)).grid.w) ((qi d (qp f)).grid.h) o (gk ls (ls.length - 1)).x (gk ls (ls.length - 1)).y (gk ls (ls.length - 1)).hid) s.1 s.2; refine qaw 20 _ (by kernel_rfl) rfl (yC (qat ((qi d (qp f)).grid.w) ((qi d (qp f)).grid.h) (gk ls (ls.length - 1)).a (gk ls (ls.length - 1)).n (gk ls (ls.length - 1)).cap o (gk ls (ls.length - 1)).x (gk ls (ls.length - 1)).y (gk ls (ls.length - 1)).hid _ (qr h.ch hT (fun _ h => h.elim)) (Nat.le_trans h7 h.ch.size) G (H.ch h.ch iZ) I J g t) ?_); rintro _ u ⟨aY, aZ, rfl, a9, aq, ar⟩; refine ⟨_, rfl, ?_⟩; have v := a9.ok; have h := h.newGrid a9 aq ar; refine zK (is := [0, 1, 2, 3]) h <| yH 21 (zN [.pointer none, iX 0, iX 0, .bool false] 30 h fun u b0 h => ?_); refine zHa h <| yK 22 (zs h 5 fun u h => ?_); refine q8 <| yDe (nS ?_); refine ysr <| yp 3 [] (.a (h.cs 2 0 4) (.a (h.cs 5 0 4) .z)) ?_; have P := qbg j q; refine yo (yQ (h.look ((h.grid 3).elim fun _ hA => (h.grid 4).elim fun _ hB => qb0 (A := f) (B := g) _ (qr h.ch hT (fun _ h => h.elim)) hA hB P.1.1 P.1.2 P.2.1.1 P.2.1.2 P.2.2)) fun u h => ?_); have C := qaM r j q v; have a1 := qam (A := f) q v; refine yo (yQ (h.wr hT 1 (qaf K _) (qb9 f g) (by omega)) fun u h => ?_); refine ye <| ysr <| yp 2 [] (.a (h.cs 5 0 4) .z) <| yo (yQ (h.peek 1 fun hI => (h.grid 4).elim fun _ hG => qY hI C hG) fun u h => ?_); refine yq 5 <| yo (yQ (h.peek 1 fun hI => qX hI C.pla) fun u h => ?_)
  refine yz 8 <| q9 (yR1 (.bool true) ?_); exact ⟨rfl, h.ch⟩
 refine qbp 21 _ (by kernel_rfl) rfl (zN [.pointer none, iX 0, iX 0, .bool false] 30 h fun u b1 h => ?_); refine zHa h ?_; have s := qaD r; obtain ⟨o, G, H, I⟩ := hlk (gk ls (ls.length - 1)) (qcb (by omega)); have J := (qaN D).2 (ls.length - 1) (by omega); obtain ⟨g, t⟩ : ∃ V, V = qd8 ((qi d (qp f)).grid.w) ((qi d (qp f)).grid.h) o (gk ls (ls.length - 1)).x (gk ls (ls.length - 1)).y (gk ls (ls.length - 1)).hid := ⟨_, rfl⟩
 have q : VOk d.grid.w d.grid.h g := qca (t ▸ qau ((qi d (qp f)).grid.w) ((qi d (qp f)).grid.h) o (gk ls (ls.length - 1)).x (gk ls (ls.length - 1)).y (gk ls (ls.length - 1)).hid) s.1 s.2; refine yK 20 (yC (qat ((qi d (qp f)).grid.w) ((qi d (qp f)).grid.h) (gk ls (ls.length - 1)).a (gk ls (ls.length - 1)).n (gk ls (ls.length - 1)).cap o (gk ls (ls.length - 1)).x (gk ls (ls.length - 1)).y (gk ls (ls.length - 1)).hid _ (qr h.ch hT (fun _ h => h.elim)) (Nat.le_trans h7 h.ch.size) G (H.ch h.ch iZ) I J g t) ?_); rintro _ u ⟨b2, b3, rfl, aa, au, av⟩; refine ⟨_, rfl, ?_⟩; have v := aa.ok; have h := h.newGrid aa au av; refine q8 <| yK 22 (zs h 4 fun u h => ?_); refine q8 <| yDe (nS ?_); refine ysr <| yp 3 [] (.a (h.cs 2 0 4) (.a (h.cs 4 0 4) .z)) ?_; have Q := qbg j q; refine yo (yQ (h.look ((h.grid 3).elim fun _ hA => (h.grid 5).elim fun _ hB => qb0 (A := f) (B := g) _ (qr h.ch hT (fun _ h => h.elim)) hA hB Q.1.1 Q.1.2 Q.2.1.1 Q.2.1.2 Q.2.2)) fun u h => ?_); have C := qaM r j q v; have a1 := qam (A := f) q v; refine yo (yQ (h.wr hT 1 (qaf K _) (qb9 f g) (by omega)) fun u h => ?_); refine ye <| ysr <| yp 2 [] (.a (h.cs 4 0 4) .z) <| yo (yQ (h.peek 1 fun hI => (h.grid 5).elim fun _ hG => qY hI C hG) fun u h => ?_); refine yq 5 <| yo (yQ (h.peek 1 fun hI => qX hI C.pla) fun u h => ?_); refine yz 8 <| q9 (yR1 (.bool true) ?_); exact ⟨rfl, h.ch⟩
theorem qhw (p1 p2 : Int) (sa : Option Addr) (sc : Nat) (b off c : Nat) (ls : List Lk) (w : World) (hT : LT w) (h7 : gTop ≤ w.heap.size)  (hr : Rd w (some ⟨b, off, none⟩) (lkV ls)) (hlk : ∀ y ∈ ls, ∃ l : List Cel, (y.n = 0 ∨ ∃ b off, y.a = some ⟨b, off, none⟩) ∧ Rd w y.a (flat l) ∧ l.length = y.n) (hmx : ls.length ≤ 9223372036854775807) : Calls Tryz.prog 6 [.agg #[iX p1, iX p2], .slice sa 0 sc, .slice (some ⟨b, off, none⟩) ls.length c].toArray w fun e w' => e = .returned (.bool true) ∧ Ch (fun _ => False) w w' := by
 have aj := qP p1; have ak := qP p2; have h := Sep.nil w; refine yA Tryz.func6 rfl <| ysr <| yo (zN [iX p1, iX p2] 22 h fun u al h => ?_); refine yz 2 <| ys <| ysr <| yo (yQ (h.look (qdd _ (qr h.ch hT (fun _ h => h.elim)) (Nat.le_trans h7 h.ch.size))) fun u h => ?_); refine yz 2 <| ycf <| yk <| ys <| ysr <| yq 1 <| yo (yQ (h.look (qgU sa sc _ (qr h.ch hT (fun _ h => h.elim)) (Nat.le_trans h7 h.ch.size))) fun u h => ?_); refine yq 5 <| yo (yQ (h.look (qf6 b off c ls _ (h.rd hr) (by omega))) fun u h => ?_); refine yq 9 <| yw [22] (rN (rY (qjq ls))) (fun v => ?_) fun v => ?_
 ·refine yz 13 <| yct <| yx 1 <| q9 (rS (yR1 (.bool true) ?_)); exact ⟨rfl, h.ch⟩
 have am := (qaN v).1; refine yz 13 <| yc (rE ((ls.length : Nat) : Int) 0) (fun O => ?_) fun O => ?_
 ·have an := O; refine yx 1 <| q9 (rS (yR1 (.bool true) ?_)); exact ⟨rfl, h.ch⟩
 have ao := O; refine yk <| ysr <| yp 4 [] (.i 0 (2) (.l (h.c 0 0) (.i 1 (2) (.l (h.c 0 1) .z)))) <| yo (yC (qdN (p1) (p2) _ (qr h.ch hT (fun _ h => h.elim)) (Nat.le_trans h7 h.ch.size)) ?_); rintro _ u ⟨ap, rfl, a3, a4⟩; refine ⟨_, rfl, ?_⟩; have h := h.newT a3 a4; refine yz 6 <| ys <| yx 3 <| qa <| yU 1 (yU1 ?_); refine yx 1 <| ys <| ycf <| qs (eS (qf (qd (nS ?_)))); refine ysr <| yq 1 ?_; have U := qcu p1 p2; have a5 := qkP p1 p2; obtain ⟨d, W⟩ : ∃ d, d = qi (startT zeroT (p1) (p2)) b24 := ⟨_, rfl⟩
 obtain ⟨hq, hL, H⟩ := qgV U a5 W; refine yo (yQ (h.wr hT 1 U b24 (by decide)) fun u h => ?_); rw [← W] at h; refine ye <| ys ?_; obtain ⟨aq, ar, h⟩ := h.opn 1; refine zDC [17, 19] [0, 1] h fun u h => ydF (uL 0 17) [] h.on (fun u h => (.l (h.tg 1) (.l (h.gw 1).1 (.l (h.tg 1) (.l (h.gw 1).2 (.i 0 (ls.length) (.m (qbI (h.rd hr) (by omega) 0 _ (by decide) rfl) (.m (qbI (h.rd hr) (by omega) 1 _ (by decide) rfl) (.m (qbI (h.rd hr) (by omega) 2 _ (by decide) rfl) (.m (qbI (h.rd hr) (by omega) 3 _ (by decide) rfl) (.e .z))))))))))) <| qbo 17 18 (by kernel_rfl) (by decide) ?_ ?_
 ·obtain ⟨C, P, Q, R⟩ := hlk (gk ls 0) (qcb (by omega)); have S := (qaN v).2 0 (by omega); obtain ⟨f, I⟩ : ∃ V, V = qd8 (d.grid.w) (d.grid.h) C (gk ls 0).x (gk ls 0).y (gk ls 0).hid := ⟨_, rfl⟩
  have j : VOk d.grid.w d.grid.h f := qca (I ▸ qau (d.grid.w) (d.grid.h) C (gk ls 0).x (gk ls 0).y (gk ls 0).hid) (qal hL.wbT).symm (qal hL.hbT).symm; refine qaw 17 _ (by kernel_rfl) rfl (yC (qat (d.grid.w) (d.grid.h) (gk ls 0).a (gk ls 0).n (gk ls 0).cap C (gk ls 0).x (gk ls 0).y (gk ls 0).hid _ (qr h.ch hT (fun _ h => h.elim)) (Nat.le_trans h7 h.ch.size) P (Q.ch h.ch iZ) R S f I) ?_); rintro _ u ⟨au, av, rfl, X, a6, a7⟩; refine ⟨_, rfl, ?_⟩; have J := X.ok; have h := h.newGrid X a6 a7; refine zK (is := [0, 1]) h <| yH 18 (zN [.pointer none, iX 0, iX 0, .bool false] 30 h fun u aw h => ?_); refine zHa h <| yK 19 (zs h 3 fun u h => ?_); refine q8 <| yDe (nS ?_); refine ysr <| yp 2 [] (.a (h.cs 3 0 4) .z) <| yo (yQ (h.look ((h.grid 2).elim fun _ hG => qc5 _ f _ _ (qr h.ch hT (fun _ h => h.elim)) (Nat.le_trans h7 h.ch.size) hG _ _ j)) fun u h => ?_); have p := qc4 hq hL j J; have a8 : (qp f).size ≤ 112600 := by
   have := qam (A := qbZ f) j J; have e : resetB.size = 2 := rfl; unfold qp; rw [ByteArray.size_append]; omega
  refine yo (yQ (h.wr hT 1 H (qp f) (by omega)) fun u h => ?_); refine ye <| ys <| ysr <| yp 2 [] (.a (h.cs 3 0 4) .z) <| yo (yQ (h.peek 1 fun hI => (h.grid 2).elim fun _ hG => qY hI p hG) fun u h => ?_); refine yq 6 <| yo (yQ (h.peek 1 fun hI => qX hI p.pla) fun u h => ?_); refine yz 9 <| ycf <| yk <| ys ?_; obtain ⟨ax, ay, h⟩ := h.opn 1; refine zDC [20, 22] [0, 1, 2, 3] h fun u h => ydF (uL 0 20) [] h.on (fun u h => (.l (h.tg 1) (.l (h.gw 1).1 (.l (h.tg 1) (.l (h.gw 1).2 (.q6 (((ls.length : Nat) : Int) - 1) (.i (((ls.length : Nat) : Int) - 1) (ls.length) (.m (qa8 (i := (ls.length - 1)) (j0 := (((ls.length : Nat) : Int) - 1)) (h.rd hr) (by omega) (by omega) 0 _ (by decide) rfl) (.m (qa8 (i := (ls.length - 1)) (j0 := (((ls.length : Nat) : Int) - 1)) (h.rd hr) (by omega) (by omega) 1 _ (by decide) rfl) (.m (qa8 (i := (ls.length - 1)) (j0 := (((ls.length : Nat) : Int) - 1)) (h.rd hr) (by omega) (by omega) 2 _ (by decide) rfl) (.m (qa8 (i := (ls.length - 1)) (j0 := (((ls.length : Nat) : Int) - 1)) (h.rd hr) (by omega) (by omega) 3 _ (by decide) rfl) (.e .z)))))))))))) <| qbo 20 21 (by kernel_rfl) (by decide) ?_ ?_
  ·have q := qaD p; obtain ⟨k, D, E, F⟩ := hlk (gk ls (ls.length - 1)) (qcb (by omega)); have G := (qaN v).2 (ls.length - 1) (by omega); obtain ⟨g, r⟩ : ∃ V, V = qd8 ((qi d (qp f)).grid.w) ((qi d (qp f)).grid.h) k (gk ls (ls.length - 1)).x (gk ls (ls.length - 1)).y (gk ls (ls.length - 1)).hid := ⟨_, rfl⟩
   have o : VOk d.grid.w d.grid.h g := qca (r ▸ qau ((qi d (qp f)).grid.w) ((qi d (qp f)).grid.h) k (gk ls (ls.length - 1)).x (gk ls (ls.length - 1)).y (gk ls (ls.length - 1)).hid) q.1 q.2; refine qaw 20 _ (by kernel_rfl) rfl (yC (qat ((qi d (qp f)).grid.w) ((qi d (qp f)).grid.h) (gk ls (ls.length - 1)).a (gk ls (ls.length - 1)).n (gk ls (ls.length - 1)).cap k (gk ls (ls.length - 1)).x (gk ls (ls.length - 1)).y (gk ls (ls.length - 1)).hid _ (qr h.ch hT (fun _ h => h.elim)) (Nat.le_trans h7 h.ch.size) D (E.ch h.ch iZ) F G g r) ?_); rintro _ u ⟨az, aA, rfl, Y, a9, aa⟩; refine ⟨_, rfl, ?_⟩; have s := Y.ok; have h := h.newGrid Y a9 aa; refine zK (is := [0, 1, 2, 3]) h <| yH 21 (zN [.pointer none, iX 0, iX 0, .bool false] 30 h fun u aB h => ?_); refine zHa h <| yK 22 (zs h 5 fun u h => ?_); refine q8 <| yDe (nS ?_); refine ysr <| yp 3 [] (.a (h.cs 3 0 4) (.a (h.cs 5 0 4) .z)) ?_; have K := qbg j o; refine yo (yQ (h.look ((h.grid 2).elim fun _ hA => (h.grid 4).elim fun _ hB => qb0 (A := f) (B := g) _ (qr h.ch hT (fun _ h => h.elim)) hA hB K.1.1 K.1.2 K.2.1.1 K.2.1.2 K.2.2)) fun u h => ?_); have t := qaM p j o s; have T := qam (A := f) o s; refine yo (yQ (h.wr hT 1 (qaf H _) (qb9 f g) (by omega)) fun u h => ?_); refine ye <| ysr <| yp 2 [] (.a (h.cs 5 0 4) .z) <| yo (yQ (h.peek 1 fun hI => (h.grid 4).elim fun _ hG => qY hI t hG) fun u h => ?_); refine yq 5 <| yo (yQ (h.peek 1 fun hI => qX hI t.pla) fun u h => ?_)
   refine yz 8 <| q9 (yR1 (.bool true) ?_); exact ⟨rfl, h.ch⟩
  refine qbp 21 _ (by kernel_rfl) rfl (zN [.pointer none, iX 0, iX 0, .bool false] 30 h fun u aC h => ?_); refine zHa h ?_; have q := qaD p; obtain ⟨k, D, E, F⟩ := hlk (gk ls (ls.length - 1)) (qcb (by omega)); have G := (qaN v).2 (ls.length - 1) (by omega); obtain ⟨g, r⟩ : ∃ V, V = qd8 ((qi d (qp f)).grid.w) ((qi d (qp f)).grid.h) k (gk ls (ls.length - 1)).x (gk ls (ls.length - 1)).y (gk ls (ls.length - 1)).hid := ⟨_, rfl⟩
  have o : VOk d.grid.w d.grid.h g := qca (r ▸ qau ((qi d (qp f)).grid.w) ((qi d (qp f)).grid.h) k (gk ls (ls.length - 1)).x (gk ls (ls.length - 1)).y (gk ls (ls.length - 1)).hid) q.1 q.2; refine yK 20 (yC (qat ((qi d (qp f)).grid.w) ((qi d (qp f)).grid.h) (gk ls (ls.length - 1)).a (gk ls (ls.length - 1)).n (gk ls (ls.length - 1)).cap k (gk ls (ls.length - 1)).x (gk ls (ls.length - 1)).y (gk ls (ls.length - 1)).hid _ (qr h.ch hT (fun _ h => h.elim)) (Nat.le_trans h7 h.ch.size) D (E.ch h.ch iZ) F G g r) ?_); rintro _ u ⟨aD, aE, rfl, Z, ab, ac⟩; refine ⟨_, rfl, ?_⟩; have s := Z.ok; have h := h.newGrid Z ab ac; refine q8 <| yK 22 (zs h 4 fun u h => ?_); refine q8 <| yDe (nS ?_); refine ysr <| yp 3 [] (.a (h.cs 3 0 4) (.a (h.cs 4 0 4) .z)) ?_; have L := qbg j o; refine yo (yQ (h.look ((h.grid 2).elim fun _ hA => (h.grid 5).elim fun _ hB => qb0 (A := f) (B := g) _ (qr h.ch hT (fun _ h => h.elim)) hA hB L.1.1 L.1.2 L.2.1.1 L.2.1.2 L.2.2)) fun u h => ?_); have t := qaM p j o s; have T := qam (A := f) o s; refine yo (yQ (h.wr hT 1 (qaf H _) (qb9 f g) (by omega)) fun u h => ?_); refine ye <| ysr <| yp 2 [] (.a (h.cs 4 0 4) .z) <| yo (yQ (h.peek 1 fun hI => (h.grid 5).elim fun _ hG => qY hI t hG) fun u h => ?_); refine yq 5 <| yo (yQ (h.peek 1 fun hI => qX hI t.pla) fun u h => ?_); refine yz 8 <| q9 (yR1 (.bool true) ?_); exact ⟨rfl, h.ch⟩
 refine qbp 18 _ (by kernel_rfl) rfl (zN [.pointer none, iX 0, iX 0, .bool false] 30 h fun u aF h => ?_); refine zHa h ?_; obtain ⟨C, P, Q, R⟩ := hlk (gk ls 0) (qcb (by omega)); have S := (qaN v).2 0 (by omega); obtain ⟨f, I⟩ : ∃ V, V = qd8 (d.grid.w) (d.grid.h) C (gk ls 0).x (gk ls 0).y (gk ls 0).hid := ⟨_, rfl⟩
 have j : VOk d.grid.w d.grid.h f := qca (I ▸ qau (d.grid.w) (d.grid.h) C (gk ls 0).x (gk ls 0).y (gk ls 0).hid) (qal hL.wbT).symm (qal hL.hbT).symm; refine yK 17 (yC (qat (d.grid.w) (d.grid.h) (gk ls 0).a (gk ls 0).n (gk ls 0).cap C (gk ls 0).x (gk ls 0).y (gk ls 0).hid _ (qr h.ch hT (fun _ h => h.elim)) (Nat.le_trans h7 h.ch.size) P (Q.ch h.ch iZ) R S f I) ?_); rintro _ u ⟨aG, aH, rfl, a0, ad, ae⟩; refine ⟨_, rfl, ?_⟩; have J := a0.ok; have h := h.newGrid a0 ad ae; refine q8 <| yK 19 (zs h 2 fun u h => ?_); refine q8 <| yDe (nS ?_); refine ysr <| yp 2 [] (.a (h.cs 2 0 4) .z) <| yo (yQ (h.look ((h.grid 3).elim fun _ hG => qc5 _ f _ _ (qr h.ch hT (fun _ h => h.elim)) (Nat.le_trans h7 h.ch.size) hG _ _ j)) fun u h => ?_); have p := qc4 hq hL j J; have a8 : (qp f).size ≤ 112600 := by
  have := qam (A := qbZ f) j J; have e : resetB.size = 2 := rfl; unfold qp; rw [ByteArray.size_append]; omega
 refine yo (yQ (h.wr hT 1 H (qp f) (by omega)) fun u h => ?_); refine ye <| ys <| ysr <| yp 2 [] (.a (h.cs 2 0 4) .z) <| yo (yQ (h.peek 1 fun hI => (h.grid 3).elim fun _ hG => qY hI p hG) fun u h => ?_); refine yq 6 <| yo (yQ (h.peek 1 fun hI => qX hI p.pla) fun u h => ?_); refine yz 9 <| ycf <| yk <| ys ?_; obtain ⟨aI, aJ, h⟩ := h.opn 1; refine zDC [20, 22] [0, 1, 2, 3] h fun u h => ydF (uL 0 20) [] h.on (fun u h => (.l (h.tg 1) (.l (h.gw 1).1 (.l (h.tg 1) (.l (h.gw 1).2 (.q6 (((ls.length : Nat) : Int) - 1) (.i (((ls.length : Nat) : Int) - 1) (ls.length) (.m (qa8 (i := (ls.length - 1)) (j0 := (((ls.length : Nat) : Int) - 1)) (h.rd hr) (by omega) (by omega) 0 _ (by decide) rfl) (.m (qa8 (i := (ls.length - 1)) (j0 := (((ls.length : Nat) : Int) - 1)) (h.rd hr) (by omega) (by omega) 1 _ (by decide) rfl) (.m (qa8 (i := (ls.length - 1)) (j0 := (((ls.length : Nat) : Int) - 1)) (h.rd hr) (by omega) (by omega) 2 _ (by decide) rfl) (.m (qa8 (i := (ls.length - 1)) (j0 := (((ls.length : Nat) : Int) - 1)) (h.rd hr) (by omega) (by omega) 3 _ (by decide) rfl) (.e .z)))))))))))) <| qbo 20 21 (by kernel_rfl) (by decide) ?_ ?_
 ·have q := qaD p; obtain ⟨k, D, E, F⟩ := hlk (gk ls (ls.length - 1)) (qcb (by omega)); have G := (qaN v).2 (ls.length - 1) (by omega); obtain ⟨g, r⟩ : ∃ V, V = qd8 ((qi d (qp f)).grid.w) ((qi d (qp f)).grid.h) k (gk ls (ls.length - 1)).x (gk ls (ls.length - 1)).y (gk ls (ls.length - 1)).hid := ⟨_, rfl⟩
  have o : VOk d.grid.w d.grid.h g := qca (r ▸ qau ((qi d (qp f)).grid.w) ((qi d (qp f)).grid.h) k (gk ls (ls.length - 1)).x (gk ls (ls.length - 1)).y (gk ls (ls.length - 1)).hid) q.1 q.2; refine qaw 20 _ (by kernel_rfl) rfl (yC (qat ((qi d (qp f)).grid.w) ((qi d (qp f)).grid.h) (gk ls (ls.length - 1)).a (gk ls (ls.length - 1)).n (gk ls (ls.length - 1)).cap k (gk ls (ls.length - 1)).x (gk ls (ls.length - 1)).y (gk ls (ls.length - 1)).hid _ (qr h.ch hT (fun _ h => h.elim)) (Nat.le_trans h7 h.ch.size) D (E.ch h.ch iZ) F G g r) ?_); rintro _ u ⟨aK, aL, rfl, a1, af, ag⟩; refine ⟨_, rfl, ?_⟩; have s := a1.ok; have h := h.newGrid a1 af ag; refine zK (is := [0, 1, 2, 3]) h <| yH 21 (zN [.pointer none, iX 0, iX 0, .bool false] 30 h fun u aM h => ?_); refine zHa h <| yK 22 (zs h 5 fun u h => ?_); refine q8 <| yDe (nS ?_); refine ysr <| yp 3 [] (.a (h.cs 2 0 4) (.a (h.cs 5 0 4) .z)) ?_; have M := qbg j o; refine yo (yQ (h.look ((h.grid 3).elim fun _ hA => (h.grid 4).elim fun _ hB => qb0 (A := f) (B := g) _ (qr h.ch hT (fun _ h => h.elim)) hA hB M.1.1 M.1.2 M.2.1.1 M.2.1.2 M.2.2)) fun u h => ?_); have t := qaM p j o s; have T := qam (A := f) o s; refine yo (yQ (h.wr hT 1 (qaf H _) (qb9 f g) (by omega)) fun u h => ?_); refine ye <| ysr <| yp 2 [] (.a (h.cs 5 0 4) .z) <| yo (yQ (h.peek 1 fun hI => (h.grid 4).elim fun _ hG => qY hI t hG) fun u h => ?_); refine yq 5 <| yo (yQ (h.peek 1 fun hI => qX hI t.pla) fun u h => ?_)
  refine yz 8 <| q9 (yR1 (.bool true) ?_); exact ⟨rfl, h.ch⟩
 refine qbp 21 _ (by kernel_rfl) rfl (zN [.pointer none, iX 0, iX 0, .bool false] 30 h fun u aN h => ?_); refine zHa h ?_; have q := qaD p; obtain ⟨k, D, E, F⟩ := hlk (gk ls (ls.length - 1)) (qcb (by omega)); have G := (qaN v).2 (ls.length - 1) (by omega); obtain ⟨g, r⟩ : ∃ V, V = qd8 ((qi d (qp f)).grid.w) ((qi d (qp f)).grid.h) k (gk ls (ls.length - 1)).x (gk ls (ls.length - 1)).y (gk ls (ls.length - 1)).hid := ⟨_, rfl⟩
 have o : VOk d.grid.w d.grid.h g := qca (r ▸ qau ((qi d (qp f)).grid.w) ((qi d (qp f)).grid.h) k (gk ls (ls.length - 1)).x (gk ls (ls.length - 1)).y (gk ls (ls.length - 1)).hid) q.1 q.2; refine yK 20 (yC (qat ((qi d (qp f)).grid.w) ((qi d (qp f)).grid.h) (gk ls (ls.length - 1)).a (gk ls (ls.length - 1)).n (gk ls (ls.length - 1)).cap k (gk ls (ls.length - 1)).x (gk ls (ls.length - 1)).y (gk ls (ls.length - 1)).hid _ (qr h.ch hT (fun _ h => h.elim)) (Nat.le_trans h7 h.ch.size) D (E.ch h.ch iZ) F G g r) ?_); rintro _ u ⟨aO, aP, rfl, a2, ah, ai⟩; refine ⟨_, rfl, ?_⟩; have s := a2.ok; have h := h.newGrid a2 ah ai; refine q8 <| yK 22 (zs h 4 fun u h => ?_); refine q8 <| yDe (nS ?_); refine ysr <| yp 3 [] (.a (h.cs 2 0 4) (.a (h.cs 4 0 4) .z)) ?_; have N := qbg j o; refine yo (yQ (h.look ((h.grid 3).elim fun _ hA => (h.grid 5).elim fun _ hB => qb0 (A := f) (B := g) _ (qr h.ch hT (fun _ h => h.elim)) hA hB N.1.1 N.1.2 N.2.1.1 N.2.1.2 N.2.2)) fun u h => ?_); have t := qaM p j o s; have T := qam (A := f) o s; refine yo (yQ (h.wr hT 1 (qaf H _) (qb9 f g) (by omega)) fun u h => ?_); refine ye <| ysr <| yp 2 [] (.a (h.cs 4 0 4) .z) <| yo (yQ (h.peek 1 fun hI => (h.grid 5).elim fun _ hG => qY hI t hG) fun u h => ?_); refine yq 5 <| yo (yQ (h.peek 1 fun hI => qX hI t.pla) fun u h => ?_); refine yz 8 <| q9 (yR1 (.bool true) ?_); exact ⟨rfl, h.ch⟩
theorem qhx (p1 p2 : Int) (sb so sc : Nat) (st : List Stp) (a : Option Addr) (c : Nat) (w : World) (hT : LT w) (h7 : gTop ≤ w.heap.size) (hst : Rd w (some ⟨sb, so, none⟩) (flatS st))  : Calls Tryz.prog 6 [.agg #[iX p1, iX p2], .slice (some ⟨sb, so, none⟩) st.length sc, .slice a 0 c].toArray w fun e w' => e = .returned (.bool true) ∧ Ch (fun _ => False) w w' := by
 have d := qP p1; have f := qP p2; have h := Sep.nil w; refine yA Tryz.func6 rfl <| ysr <| yo (zN [iX p1, iX p2] 22 h fun u g h => ?_); refine yz 2 <| ys <| ysr <| yo (yQ (h.look (qdd _ (qr h.ch hT (fun _ h => h.elim)) (Nat.le_trans h7 h.ch.size))) fun u h => ?_); refine yz 2 <| ycf <| yk <| ys <| ysr <| yq 1 <| yo (yQ (h.look (qfd sb so sc st _ (qr h.ch hT (fun _ h => h.elim)) (Nat.le_trans h7 h.ch.size) (h.rd hst))) fun u h => ?_); refine yq 4 <| yw [17] (rN (rY (qf8 st))) (fun b => ?_) fun b => ?_
 ·refine yz 13 <| yct <| yx 1 <| q9 (rS (yR1 (.bool true) ?_)); exact ⟨rfl, h.ch⟩
 have i := shortB_iff.1 b; refine yq 5 <| yo (yQ (h.look (qf7 a c _)) fun u h => ?_); refine yz 13 <| yct <| yx 1 <| q9 (rS (yR1 (.bool true) ?_)); exact ⟨rfl, h.ch⟩
theorem qhy (p1 p2 : Int) (sa : Option Addr) (sc : Nat) (a : Option Addr) (c : Nat) (w : World) (hT : LT w) (h7 : gTop ≤ w.heap.size)   : Calls Tryz.prog 6 [.agg #[iX p1, iX p2], .slice sa 0 sc, .slice a 0 c].toArray w fun e w' => e = .returned (.bool true) ∧ Ch (fun _ => False) w w' := by
 have b := qP p1; have d := qP p2; have h := Sep.nil w; refine yA Tryz.func6 rfl <| ysr <| yo (zN [iX p1, iX p2] 22 h fun u f h => ?_); refine yz 2 <| ys <| ysr <| yo (yQ (h.look (qdd _ (qr h.ch hT (fun _ h => h.elim)) (Nat.le_trans h7 h.ch.size))) fun u h => ?_); refine yz 2 <| ycf <| yk <| ys <| ysr <| yq 1 <| yo (yQ (h.look (qgU sa sc _ (qr h.ch hT (fun _ h => h.elim)) (Nat.le_trans h7 h.ch.size))) fun u h => ?_); refine yq 5 <| yo (yQ (h.look (qf7 a c _)) fun u h => ?_); refine yz 13 <| yct <| yx 1 <| q9 (rS (yR1 (.bool true) ?_)); exact ⟨rfl, h.ch⟩
theorem firsts22_any (p1 p2 : Int) (sa : Option Addr) (m sc : Nat) (st : List Stp) (a : Option Addr) (n c : Nat) (ls : List Lk) (w : World) (hT : LT w) (h7 : gTop ≤ w.heap.size) (hz : m = 0 ∨ ∃ b off, sa = some ⟨b, off, none⟩) (hm : st.length = m) (hst : Rd w sa (flatS st)) (ha : n = 0 ∨ ∃ b off, a = some ⟨b, off, none⟩) (hr : Rd w a (lkV ls)) (hn : ls.length = n) (hlk : ∀ y ∈ ls, ∃ l : List Cel, (y.n = 0 ∨ ∃ b off, y.a = some ⟨b, off, none⟩) ∧ Rd w y.a (flat l) ∧ l.length = y.n) (hmx : n ≤ 9223372036854775807) : Calls Tryz.prog 6 [.agg #[iX p1, iX p2], .slice sa m sc, .slice a n c].toArray w fun e w' => e = .returned (.bool true) ∧ Ch (fun _ => False) w w' := by
 subst hn; subst hm; by_cases d : ls.length = 0 <;> by_cases f : st.length = 0
 ·rw [d, f]; exact qhy p1 p2 sa sc a c w hT h7
 ·obtain ⟨sb, so, rfl⟩ := hz.resolve_left f; rw [d]; exact qhx p1 p2 sb so sc st a c w hT h7 hst
 ·obtain ⟨b, off, rfl⟩ := ha.resolve_left d; rw [f]; exact qhw p1 p2 sa sc b off c ls w hT h7 hr hlk hmx
 obtain ⟨b, off, rfl⟩ := ha.resolve_left d; obtain ⟨sb, so, rfl⟩ := hz.resolve_left f; exact qhv p1 p2 sb so sc st b off c ls w hT h7 hst hr hlk hmx
end Go.Proofs.YtjklgjjgndalcaaGreatDoor.X
namespace Go.Proofs.YtjklgjjgndalcaaGreatDoor
open Go.ChangeShapes Go.WideShapes Go.ChangeAt Go.RowKit
theorem qhz : ownKnob Tryz.prog.godebug = none := by kernel_rfl
abbrev qje : List (String × DataW Unit) := [("flipbook/glyph.wide", Rows.laid_flipbook_glyph_wide), ("flipbook/glyph.signs", Rows.laid_flipbook_glyph_signs), ("math/bits.deBruijn32tab", Rows.laid_math_bits_deBruijn32tab), ("math/bits.deBruijn64tab", Rows.laid_math_bits_deBruijn64tab), ("internal/strconv.uint64pow10", Rows.laid_internal_strconv_uint64pow10), ("unicode/utf8.acceptRanges", Rows.laid_unicode_utf8_acceptRanges), ("unicode/utf8.first", Rows.laid_unicode_utf8_first)]
theorem doorMet (os : Os) (args : Array Value) : laidMetH Tryz.prog qje ((World.laidAll Tryz.prog os qje).forCall (fun _ _ => 0) ⟨#[], args, []⟩).memory := by
 rw [MakeChecks.laidMetH_plain _ _ _ (by kernel_rfl)]; exact laidMet_laidAll _ (by kernel_rfl) (by kernel_rfl)
theorem qjf (os : Os) : (World.laidAll Tryz.prog os qje).Shaped Tryz.prog := World.shaped_of_ZipB (by kernel_rfl) (by kernel_rfl)
theorem qbJ {W : World} {g n t : Nat} {k : IntKind} {e : TypeId} (he : Tryz.prog.underlying e = some (.int k)) (ce : Tryz.prog.cellsOf e = 1) {name : String} {cs : Array Value} {fuel : Nat} {l : List Int} {q : List MemPlace} (hg : Tryz.prog.globalNamed name = some g) (hv : W.var? Tryz.prog name = some cs)
  (hd : DataW.trod (H := Unit) (fun _ => ()) Tryz.prog W 0 (fun _ => true) false fuel t cs.toList = some (.agg (l.map fun n => .lit (.int k n)), q))
  (ht : Tryz.prog.underlying t = some (.array n e)) (hl : l.length = n) : ∀ r, r < l.length → W.cell? ⟨g, r, none⟩ = some (.int k (l.getD r 0)) := by
 obtain ⟨xs, m, _, ex, _, hlx, hel⟩ := DataW.trod_array ht hd
 intro r hr
 have hE := hel r (by omega)
 rw [ce, Nat.mul_one, List.getElem?_eq_getElem (by omega)] at hE
 obtain ⟨z, e1, e2, _⟩ := DataW.trod_int he hE
 have e3 : (xs.map (·.1)) = l.map fun n => .lit (.int k n) := (DataW.agg.inj (Prod.mk.inj ex).1).symm
 have e4 : (xs.map (·.1))[r]? = (l.map fun n => (DataW.lit (.int k n) : DataW Unit))[r]? := by rw [e3]
 rw [List.getElem?_map, List.getElem?_map, List.getElem?_eq_getElem (by omega : r < xs.length), List.getElem?_eq_getElem (by omega : r < l.length), e2] at e4
 have hz : z = l.getD r 0 := by
  simp only [Option.map_some, Option.some.injEq, DataW.lit.injEq, Lit.int.injEq, true_and] at e4
  rw [e4, List.getD, List.getElem?_eq_getElem (by omega : r < l.length)]; rfl
 rw [World.var?_cell hg hv r, ← hz]
 have : cs.toList[r]? = some (.int k z) := by
  have h0 : ((cs.toList.drop r).take 1)[0]? = some (.int k z) := by rw [e1]; rfl
  simpa using h0
 simpa using this
theorem qfX {W : World} {g n t e u : Nat} {k : IntKind} {fs : Array Field} (hs : Tryz.prog.underlying e = some (.struct fs)) (h0 : ∃ f, fs[0]? = some f ∧ f.type = u ∧ f.offset = 0) (h1 : ∃ f, fs[1]? = some f ∧ f.type = u ∧ f.offset = 1) (hz : fs.size = 2) (hu : Tryz.prog.underlying u = some (.int k)) (ce : Tryz.prog.cellsOf e = 2) (cu : Tryz.prog.cellsOf u = 1)
  {name : String} {cs : Array Value} {fuel : Nat} {l : List (Int × Int)} {q : List MemPlace} (hg : Tryz.prog.globalNamed name = some g) (hv : W.var? Tryz.prog name = some cs)
  (hd : DataW.trod (H := Unit) (fun _ => ()) Tryz.prog W 0 (fun _ => true) false fuel t cs.toList = some (.agg (l.map fun p => .agg [.lit (.int k p.1), .lit (.int k p.2)]), q))
  (ht : Tryz.prog.underlying t = some (.array n e)) (hl : l.length = n) : ∀ r p, l[r]? = some p → W.cell? ⟨g, r * 2, none⟩ = some (.int k p.1) ∧ W.cell? ⟨g, r * 2 + 1, none⟩ = some (.int k p.2) := by
 obtain ⟨xs, m, _, ex, _, hlx, hel⟩ := DataW.trod_array ht hd
 intro r p hp
 have hr : r < l.length := (List.getElem?_eq_some_iff.1 hp).1
 have hE := hel r (by omega)
 rw [ce, List.getElem?_eq_getElem (by omega)] at hE
 have e3 : (xs.map (·.1)) = l.map fun p => .agg [.lit (.int k p.1), .lit (.int k p.2)] := (DataW.agg.inj (Prod.mk.inj ex).1).symm
 have e4 : (xs.map (·.1))[r]? = (l.map fun p => (DataW.agg [.lit (.int k p.1), .lit (.int k p.2)] : DataW Unit))[r]? := by rw [e3]
 rw [List.getElem?_map, List.getElem?_map, List.getElem?_eq_getElem (by omega : r < xs.length), hp] at e4
 simp only [Option.map_some, Option.some.injEq] at e4
 obtain ⟨ys, m2, _, ey, _, hly, hfy⟩ := DataW.trod_struct hs hE
 rw [ey] at e4
 have e5 := DataW.agg.inj e4
 obtain ⟨f0, hf0, t0, o0⟩ := h0
 obtain ⟨f1, hf1, t1, o1⟩ := h1
 have k0 := hfy 0 f0 hf0
 have k1 := hfy 1 f1 hf1
 rw [t0, o0, cu, List.drop_zero, List.take_take] at k0
 rw [t1, o1, cu] at k1
 have hy : ys.length = 2 := by rw [hly, hz]
 rw [List.getElem?_eq_getElem (by omega)] at k0 k1
 obtain ⟨z0, a0, b0, _⟩ := DataW.trod_int hu k0
 obtain ⟨z1, a1, b1, _⟩ := DataW.trod_int hu k1
 have c0 : (ys.map (·.1))[0]? = some (.lit (.int k p.1)) := by rw [e5]; rfl
 have c1 : (ys.map (·.1))[1]? = some (.lit (.int k p.2)) := by rw [e5]; rfl
 rw [List.getElem?_map, List.getElem?_eq_getElem (by omega), b0] at c0
 rw [List.getElem?_map, List.getElem?_eq_getElem (by omega), b1] at c1
 simp only [Option.map_some, Option.some.injEq, DataW.lit.injEq, Lit.int.injEq, true_and] at c0 c1
 subst c0 c1
 have d0 : cs.toList[r * 2]? = some (.int k p.1) := by
  have h0 : ((cs.toList.drop (r * 2)).take (min 1 2))[0]? = some (.int k p.1) := by rw [a0]; rfl
  simpa using h0
 have d1 : cs.toList[r * 2 + 1]? = some (.int k p.2) := by
  have h0 : ((((cs.toList.drop (r * 2)).take 2).drop 1).take 1)[0]? = some (.int k p.2) := by rw [a1]; rfl
  simpa using h0
 exact ⟨by rw [World.var?_cell hg hv]; simpa using d0, by rw [World.var?_cell hg hv]; simpa using d1⟩
def firstL : List Int := (List.range 256).map X.firstN
def accL : List (Int × Int) := (List.range 16).map X.accN
theorem qfY {c : Nat} (h : c < 256) : firstL.length = 256 ∧ firstL.getD c 0 = X.firstN c := by
 have e : firstL.length = 256 := by simp [firstL]
 refine ⟨e, ?_⟩
 rw [List.getD, firstL, List.getElem?_map, List.getElem?_range h]; rfl
theorem acc_at {i : Nat} (h : i < 16) : accL[i]? = some (X.accN i) := by
 rw [accL, List.getElem?_map, List.getElem?_range h]; rfl
set_option maxRecDepth 100000 in
theorem qjg {W : World} (h : laidMetH Tryz.prog qje W) : X.LT W := by
 rw [MakeChecks.laidMetH_plain _ _ _ (by kernel_rfl)] at h
 obtain ⟨ps, ⟨g0, t0, cs0, f0, p0, q0, hg0, ht0, hv0, hd0, ⟨g1, t1, cs1, f1, p1, q1, hg1, ht1, hv1, hd1, ⟨g2, t2, cs2, f2, p2, q2, hg2, ht2, hv2, hd2, ⟨g3, t3, cs3, f3, p3, q3, hg3, ht3, hv3, hd3, ⟨g4, t4, cs4, f4, p4, q4, hg4, ht4, hv4, hd4, ⟨g5, t5, cs5, f5, p5, q5, hg5, ht5, hv5, hd5, ⟨g6, t6, cs6, f6, p6, q6, hg6, ht6, hv6, hd6, _, _⟩, _⟩, _⟩, _⟩, _⟩, _⟩, _⟩, _, _⟩ := h
 obtain rfl := Option.some.inj ((show Tryz.prog.globalNamed "flipbook/glyph.wide" = some 0 by kernel_rfl).symm.trans hg0)
 obtain rfl := Option.some.inj ((show Tryz.prog.globalNamed "flipbook/glyph.signs" = some 3 by kernel_rfl).symm.trans hg1)
 obtain rfl := Option.some.inj ((show Tryz.prog.globalNamed "internal/strconv.uint64pow10" = some 4 by kernel_rfl).symm.trans hg4)
 obtain rfl := Option.some.inj ((show Tryz.prog.globalNamed "unicode/utf8.acceptRanges" = some 2 by kernel_rfl).symm.trans hg5)
 obtain rfl := Option.some.inj ((show Tryz.prog.globalNamed "unicode/utf8.first" = some 1 by kernel_rfl).symm.trans hg6)
 obtain rfl := Option.some.inj ((show (Tryz.prog.globals[0]?).map (·.type) = some 117 by kernel_rfl).symm.trans ht0)
 obtain rfl := Option.some.inj ((show (Tryz.prog.globals[3]?).map (·.type) = some 156 by kernel_rfl).symm.trans ht1)
 obtain rfl := Option.some.inj ((show (Tryz.prog.globals[4]?).map (·.type) = some 170 by kernel_rfl).symm.trans ht4)
 obtain rfl := Option.some.inj ((show (Tryz.prog.globals[2]?).map (·.type) = some 155 by kernel_rfl).symm.trans ht5)
 obtain rfl := Option.some.inj ((show (Tryz.prog.globals[1]?).map (·.type) = some 152 by kernel_rfl).symm.trans ht6)
 have z6 : Rows.laid_unicode_utf8_first = .agg (firstL.map fun n => .lit (.int .u8 n)) := by kernel_rfl
 rw [z6] at hd6
 have z5 : (Rows.laid_unicode_utf8_acceptRanges : DataW Unit) = .agg (accL.map fun p => .agg [.lit (.int .u8 p.1), .lit (.int .u8 p.2)]) := by kernel_rfl
 rw [z5] at hd5
 refine ⟨⟨qbJ (k := .i32) (e := 21) (by kernel_rfl) (by kernel_rfl) hg0 hv0 hd0 (by kernel_rfl) rfl, qbJ (k := .i32) (e := 21) (by kernel_rfl) (by kernel_rfl) hg1 hv1 hd1 (by kernel_rfl) rfl⟩, ⟨fun c hc => ?_, fun i hi => ?_⟩, fun i hi => ?_⟩
 ·have := qbJ (k := .u8) (e := 5) (by kernel_rfl) (by kernel_rfl) hg6 hv6 hd6 (by kernel_rfl) (qfY hc).1 c (by rw [(qfY hc).1]; exact hc)
  rw [(qfY hc).2] at this; exact this
 ·exact qfX (k := .u8) (e := 154) (u := 5) Tryz.underlying154 ⟨_, rfl, rfl, rfl⟩ ⟨_, rfl, rfl, rfl⟩ rfl Tryz.underlying5 (by kernel_rfl) (by kernel_rfl) hg5 hv5 hd5 Tryz.underlying155 (by simp [accL]) i _ (acc_at hi)
 ·have h1 := qbJ (k := .u64) (e := 149) (l := [1, 10, 100, 1000, 10000, 100000, 1000000, 10000000, 100000000, 1000000000, 10000000000, 100000000000, 1000000000000, 10000000000000, 100000000000000, 1000000000000000, 10000000000000000, 100000000000000000, 1000000000000000000, 10000000000000000000]) (by kernel_rfl) (by kernel_rfl) hg4 hv4 hd4 (by kernel_rfl) rfl i (Nat.lt_of_lt_of_le hi (by decide))
  rw [h1]
  obtain rfl | rfl | rfl : i = 0 ∨ i = 1 ∨ i = 2 := by omega
  all_goals rfl
end Go.Proofs.YtjklgjjgndalcaaGreatDoor
namespace Go.Proofs.YtjklgjjgndalcaaGreatDoor
open Go.ChangeShapes Go.WideShapes Go.ChangeAt Go.RowKit
section
variable {H : Type} {enc : TypeId × Value → H} {P : Program} {w : World} {base : Nat} {spare : Nat → Bool} {held : Bool}
theorem qag {α : Type} {l : List α} {i : Nat} {x : α} (h : (l.drop i).take 1 = [x]) : l[i]? = some x := by
 have h0 : ((l.drop i).take 1)[0]? = some x := by rw [h]; rfl
 simpa using h0
theorem ql6 {r : Reach} {b0 : Nat} {t e : TypeId} {k : IntKind} {v : Value} {d : DataW H} {ps : List MemPlace} (ht : P.underlying t = some (.array 2 e)) (he : P.underlying e = some (.int k)) (ce : P.cellsOf e = 1) (ct : P.cellsOf t = 2)
  (hval : Value.okWide P w r b0 t v) (hd : DataW.Trod enc P w base spare held t v d ps) :
  ∃ a b, v = .agg #[.int k a, .int k b] ∧ d = .agg [.lit (.int k a), .lit (.int k b)] ∧ ps = [] ∧ (Lit.int k a).wf = true ∧ (Lit.int k b).wf = true := by
 obtain ⟨cs, rfl, hs, _⟩ : ∃ cs, v = .agg cs ∧ cs.size = 2 ∧ True := by
  unfold Value.okWide at hval
  rw [ht] at hval
  obtain ⟨cs, h1, h2, _⟩ := hval
  exact ⟨cs, h1, by rw [h2, ct], trivial⟩
 obtain ⟨fuel, hf⟩ := hd
 obtain ⟨xs, m, _, ex, _, hlx, hel⟩ := DataW.trod_array ht hf
 have k0 := hel 0 (by omega)
 have k1 := hel 1 (by omega)
 rw [ce, List.getElem?_eq_getElem (by omega)] at k0 k1
 obtain ⟨a, a0, b0, w0⟩ := DataW.trod_int he k0
 obtain ⟨b, a1, b1, w1⟩ := DataW.trod_int he k1
 have c0 := qag a0
 have c1 := qag a1
 simp only [Value.cells, Nat.zero_mul, Nat.one_mul] at c0 c1
 have hcs : cs = #[.int k a, .int k b] := by
  apply Array.ext'
  match hl : cs.toList, (show cs.toList.length = 2 by simpa using hs) with
  | [x, y], _ =>
   rw [hl] at c0 c1
   simp at c0 c1
   rw [c0, c1]
 have hxs : xs = [(.lit (.int k a), []), (.lit (.int k b), [])] := by
  match xs, hlx with
  | [x, y], _ =>
   simp at b0 b1
   rw [b0, b1]
 subst hcs hxs
 have e1 := (Prod.mk.inj ex)
 exact ⟨a, b, rfl, by simpa using e1.1, by simpa using e1.2, w0, w1⟩
theorem ql7 {t e : TypeId} {k : IntKind} {a b : Int} (ht : P.underlying t = some (.array 2 e)) (he : P.underlying e = some (.int k)) (ce : P.cellsOf e = 1) (ct : P.cellsOf t = 2) (wa : (Lit.int k a).wf = true) (wb : (Lit.int k b).wf = true) :
  DataW.Trod enc P w base spare held t (.agg #[.int k a, .int k b]) (.agg [.lit (.int k a), .lit (.int k b)]) [] :=
 ⟨2, by simp [DataW.trod, Value.cells, ht, he, ce, ct, wa, wb, List.range_succ]⟩
end
theorem qhA {w w' : World} (h : X.Ch (fun _ => False) w w') : Below w.heap.size w w' := ⟨h.os, h.tape, h.output, h.size, fun k hk => h.block k hk id⟩
theorem qhB {W : World} (h : laidMetH Tryz.prog qje W) : X.gTop ≤ W.heap.size := by
 rw [MakeChecks.laidMetH_plain _ _ _ (by kernel_rfl)] at h
 obtain ⟨ps, ⟨g0, t0, cs0, f0, p0, q0, hg0, ht0, hv0, hd0, ⟨g1, t1, cs1, f1, p1, q1, hg1, ht1, hv1, hd1, ⟨g2, t2, cs2, f2, p2, q2, hg2, ht2, hv2, hd2, ⟨g3, t3, cs3, f3, p3, q3, hg3, ht3, hv3, hd3, _, _⟩, _⟩, _⟩, _⟩, _, _⟩ := h
 obtain rfl := Option.some.inj ((show Tryz.prog.globalNamed "math/bits.deBruijn64tab" = some 6 by kernel_rfl).symm.trans hg3)
 obtain rfl := Option.some.inj ((show (Tryz.prog.globals[6]?).map (·.type) = some 176 by kernel_rfl).symm.trans ht3)
 obtain ⟨xs, m, _, _, hlen, _⟩ := DataW.trod_array Tryz.underlying176 hd3
 have hl : cs3.toList.length = 64 := hlen.trans (by kernel_rfl)
 have hc := World.var?_cell hg3 hv3 0
 have : ∃ v, cs3[0]? = some v := ⟨_, Array.getElem?_eq_getElem (by simpa using (show 0 < cs3.toList.length by omega))⟩
 obtain ⟨v, hv⟩ := this
 rw [hv] at hc
 have := X.cell_lt hc
 show 7 ≤ _
 omega
end Go.Proofs.YtjklgjjgndalcaaGreatDoor
namespace Go.Proofs.YtjklgjjgndalcaaGreatDoor
open Go.ChangeShapes Go.WideShapes Go.ChangeAt Go.RowKit
section
variable {H : Type} {enc : TypeId × Value → H} {w : World} {base : Nat}
theorem three_of {cs : List Value} {a b c : Value} (hl : cs.length = 3) (h0 : cs[0]? = some a) (h1 : cs[1]? = some b) (h2 : cs[2]? = some c) : cs = [a, b, c] := by
 match cs, hl with
 | [u0, u1, u2], _ =>
  simp only [List.getElem?_cons_zero, List.getElem?_cons_succ, Option.some.injEq] at h0 h1 h2
  rw [h0, h1, h2]
set_option maxRecDepth 100000 in
theorem qjh {spare : Nat → Bool} {held : Bool} {n : Nat} {cs : List Value} {x : DataW H × List MemPlace} (h : DataW.trod enc Tryz.prog w base spare held n 74 cs = some x) (hl : cs.length = 3) : ∃ y : X.Stp, cs = y.vals := by
 obtain ⟨xs, m, _, _, _, hlx, hf⟩ := DataW.trod_struct Tryz.underlying74 h
 have c1 : Tryz.prog.cellsOf 9 = 1 := by kernel_rfl
 have c2 : Tryz.prog.cellsOf 3 = 1 := by kernel_rfl
 have k0 : DataW.trod enc Tryz.prog w base spare held m 9 ((cs.drop 0).take (Tryz.prog.cellsOf 9)) = xs[0]? := hf 0 _ rfl
 have k1 : DataW.trod enc Tryz.prog w base spare held m 3 ((cs.drop 1).take (Tryz.prog.cellsOf 3)) = xs[1]? := hf 1 _ rfl
 have k2 : DataW.trod enc Tryz.prog w base spare held m 3 ((cs.drop 2).take (Tryz.prog.cellsOf 3)) = xs[2]? := hf 2 _ rfl
 rw [c1] at k0
 rw [c2] at k1 k2
 have hlx3 : xs.length = 3 := hlx
 rw [List.getElem?_eq_getElem (by omega)] at k0 k1 k2
 obtain ⟨s, a0, _⟩ := DataW.trod_string Tryz.underlying9 k0
 obtain ⟨a, a1, _⟩ := DataW.trod_int Tryz.underlying3 k1
 obtain ⟨b, a2, _⟩ := DataW.trod_int Tryz.underlying3 k2
 have g0 := qag a0
 have g1 := qag a1
 have g2 := qag a2
 exact ⟨⟨s, a, b⟩, three_of hl g0 g1 g2⟩
set_option maxRecDepth 100000 in
theorem qji {r : Reach} {b0 : Nat} {t : TypeId} {v : Value} {d : DataW H} {ps : List MemPlace} (ht : Tryz.prog.underlying t = some (.slice 74)) (hval : Value.okWide Tryz.prog w r b0 t v) (hd : DataW.Trod enc Tryz.prog w base (fun _ => true) true t v d ps) :
  ∃ (a : Option Addr) (n sc : Nat) (st : List X.Stp), v = .slice a n sc ∧ (n = 0 ∨ ∃ b off, a = some ⟨b, off, none⟩) ∧ st.length = n ∧ X.Rd w a (X.flatS st) := by
 obtain ⟨a0, n0, c0, rfl⟩ := okWide_slice ht hval
 obtain ⟨fuel, hf⟩ := hd
 have ce : Tryz.prog.cellsOf 74 = 3 := by kernel_rfl
 rcases Deep.open_slice ht hf with ⟨h0, _⟩ | ⟨a, len, cap, m, n, D, Pl, hv, _, hl, _, hm, _, hx⟩
 ·have h1 : Value.slice a0 n0 c0 = .slice none 0 0 := List.head_eq_of_cons_eq h0
  exact ⟨none, 0, 0, [], h1, .inl rfl, rfl, X.Rd.nil _ _⟩
 ·have h1 : Value.slice a0 n0 c0 = .slice (some a) len cap := List.head_eq_of_cons_eq hv
  have hm' : m = cap := by simpa using hm
  rw [ce] at hx
  have each : ∀ i, i < len → ∃ y : X.Stp, w.cells? base (a.add (i * 3)) 3 = some y.vals := fun i hi => by
   obtain ⟨cs, e1, e2⟩ := hx i (by omega)
   obtain ⟨_, hlen, _⟩ := World.cells?_some e1
   obtain ⟨y, rfl⟩ := qjh e2 hlen
   exact ⟨y, e1⟩
  have : Inhabited X.Stp := ⟨X.stp0⟩
  obtain ⟨f, hfy⟩ := Deep.choose_lt each
  refine ⟨some a, len, cap, (List.range len).map f, h1, ?_, by simp, fun e => (by cases e), fun ad e j u hj => ?_⟩
  ·rcases Nat.eq_zero_or_pos len with h0 | h0
   ·exact .inl h0
   ·right
    obtain ⟨_, _, hc⟩ := World.cells?_some (hfy 0 h0)
    have h2 := hc 0 (by omega)
    rw [Deep.add_add] at h2
    have h3 : w.cell? a = some (.string (f 0).text) := h2
    obtain ⟨b, off, sp⟩ := a
    cases sp with
    | none => exact ⟨b, off, rfl⟩
    | some q =>
     unfold World.cell? at h3
     split at h3
     ·simp at h3
     ·cases h3
  ·obtain rfl := Option.some.inj e
   have hlen : (X.flatS ((List.range len).map f)).length = len * 3 := by rw [X.flatS_len]; simp
   have hlt : j < len * 3 := by
    rw [← hlen]
    exact (List.getElem?_eq_some_iff.1 hj).1
   have hi : j / 3 < len := by omega
   have hr : j % 3 < 3 := by omega
   have hjj : j = j / 3 * 3 + j % 3 := by omega
   have h2 := X.flatS_get ((List.range len).map f) (j / 3) (j % 3) (by simpa using hi) hr
   rw [← hjj, hj] at h2
   have hg : X.gs ((List.range len).map f) (j / 3) = f (j / 3) := by simp [X.gs, List.getD, hi]
   rw [hg] at h2
   obtain ⟨_, _, hc⟩ := World.cells?_some (hfy (j / 3) hi)
   have h3 := hc (j % 3) hr
   rw [Deep.add_add, ← hjj] at h3
   rw [h3, ← h2]
end
end Go.Proofs.YtjklgjjgndalcaaGreatDoor
namespace Go.Proofs.YtjklgjjgndalcaaGreatDoor
open Go.ChangeShapes Go.WideShapes Go.ChangeAt Go.RowKit
section
variable {H : Type} {enc : TypeId × Value → H} {w : World} {base : Nat}
set_option maxRecDepth 100000 in
theorem qhC {spare : Nat → Bool} {held : Bool} {n : Nat} {cs : List Value} {x : DataW H × List MemPlace} (h : DataW.trod enc Tryz.prog w base spare held n 33 cs = some x) (hl : cs.length = 5) : ∃ y : X.Sty, cs = y.vals := by
 obtain ⟨xs, m, _, _, _, hlx, hf⟩ := DataW.trod_struct Tryz.underlying33 h
 have c1 : Tryz.prog.cellsOf 4 = 1 := by kernel_rfl
 have c2 : Tryz.prog.cellsOf 3 = 1 := by kernel_rfl
 have k0 : DataW.trod enc Tryz.prog w base spare held m 4 ((cs.drop 0).take (Tryz.prog.cellsOf 4)) = xs[0]? := hf 0 _ rfl
 have k1 : DataW.trod enc Tryz.prog w base spare held m 4 ((cs.drop 1).take (Tryz.prog.cellsOf 4)) = xs[1]? := hf 1 _ rfl
 have k2 : DataW.trod enc Tryz.prog w base spare held m 4 ((cs.drop 2).take (Tryz.prog.cellsOf 4)) = xs[2]? := hf 2 _ rfl
 have k3 : DataW.trod enc Tryz.prog w base spare held m 3 ((cs.drop 3).take (Tryz.prog.cellsOf 3)) = xs[3]? := hf 3 _ rfl
 have k4 : DataW.trod enc Tryz.prog w base spare held m 3 ((cs.drop 4).take (Tryz.prog.cellsOf 3)) = xs[4]? := hf 4 _ rfl
 rw [c1] at k0 k1 k2
 rw [c2] at k3 k4
 have hlx5 : xs.length = 5 := hlx
 rw [List.getElem?_eq_getElem (by omega)] at k0 k1 k2 k3 k4
 obtain ⟨b0, a0, _⟩ := DataW.trod_bool Tryz.underlying4 k0
 obtain ⟨b1, a1, _⟩ := DataW.trod_bool Tryz.underlying4 k1
 obtain ⟨b2, a2, _⟩ := DataW.trod_bool Tryz.underlying4 k2
 obtain ⟨b3, a3, _⟩ := DataW.trod_int Tryz.underlying3 k3
 obtain ⟨b4, a4, _⟩ := DataW.trod_int Tryz.underlying3 k4
 have g0 := qag a0
 have g1 := qag a1
 have g2 := qag a2
 have g3 := qag a3
 have g4 := qag a4
 refine ⟨⟨b0, b1, b2, b3, b4⟩, ?_⟩
 match cs, hl with
 | [u0, u1, u2, u3, u4], _ =>
  simp only [List.getElem?_cons_zero, List.getElem?_cons_succ, Option.some.injEq] at g0 g1 g2 g3 g4
  rw [g0, g1, g2, g3, g4]; rfl
set_option maxRecDepth 100000 in
theorem qjj {spare : Nat → Bool} {held : Bool} {n : Nat} {cs : List Value} {x : DataW H × List MemPlace} (h : DataW.trod enc Tryz.prog w base spare held n 66 cs = some x) (hl : cs.length = 6) : ∃ y : X.Cel, cs = y.vals := by
 obtain ⟨xs, m, _, _, _, hlx, hf⟩ := DataW.trod_struct Tryz.underlying66 h
 have c1 : Tryz.prog.cellsOf 21 = 1 := by kernel_rfl
 have c2 : Tryz.prog.cellsOf 33 = 5 := by kernel_rfl
 have k0 : DataW.trod enc Tryz.prog w base spare held m 21 ((cs.drop 0).take (Tryz.prog.cellsOf 21)) = xs[0]? := hf 0 _ rfl
 have k1 : DataW.trod enc Tryz.prog w base spare held m 33 ((cs.drop 1).take (Tryz.prog.cellsOf 33)) = xs[1]? := hf 1 _ rfl
 rw [c1] at k0
 rw [c2] at k1
 have hlx2 : xs.length = 2 := hlx
 rw [List.getElem?_eq_getElem (by omega)] at k0 k1
 obtain ⟨r, a0, _⟩ := DataW.trod_int Tryz.underlying21 k0
 obtain ⟨s, a1⟩ := qhC k1 (by rw [List.length_take, List.length_drop, hl]; rfl)
 have g0 := qag a0
 refine ⟨⟨r, s⟩, ?_⟩
 match cs, hl with
 | [u0, u1, u2, u3, u4, u5], _ =>
  simp only [List.getElem?_cons_zero, Option.some.injEq] at g0
  have a1' : [u1, u2, u3, u4, u5] = s.vals := a1
  rw [g0, a1']; rfl
set_option maxRecDepth 100000 in
theorem qjk {n0 : Nat} {v : Value} {x : DataW H × List MemPlace} (hf : DataW.trod enc Tryz.prog w base (fun _ => true) true n0 49 [v] = some x) :
  ∃ (a : Option Addr) (n c : Nat) (l : List X.Cel), v = .slice a n c ∧ (n = 0 ∨ ∃ b off, a = some ⟨b, off, none⟩) ∧ X.Rd w a (X.flat l) ∧ l.length = n := by
 have ce : Tryz.prog.cellsOf 66 = 6 := by kernel_rfl
 rcases Deep.open_slice Tryz.underlying49 hf with ⟨h0, _⟩ | ⟨a, len, cap, m, n, D, Pl, hv, _, hl, _, hm, _, hx⟩
 ·have h1 : v = .slice (none) 0 0 := List.head_eq_of_cons_eq h0
  exact ⟨none, 0, 0, [], h1, .inl rfl, X.Rd.nil _ _, rfl⟩
 ·have h1 : v = .slice (some a) len cap := List.head_eq_of_cons_eq hv
  have hm' : m = cap := by simpa using hm
  rw [ce] at hx
  have each : ∀ i, i < len → ∃ y : X.Cel, w.cells? base (a.add (i * 6)) 6 = some y.vals := fun i hi => by
   obtain ⟨cs, e1, e2⟩ := hx i (by omega)
   obtain ⟨_, hlen, _⟩ := World.cells?_some e1
   obtain ⟨y, rfl⟩ := qjj e2 hlen
   exact ⟨y, e1⟩
  have : Inhabited X.Cel := ⟨X.cel0⟩
  obtain ⟨f, hfy⟩ := Deep.choose_lt each
  refine ⟨some a, len, cap, (List.range len).map f, h1, ?_, ⟨fun e => (by cases e), fun ad e j u hj => ?_⟩, by simp⟩
  ·rcases Nat.eq_zero_or_pos len with h0 | h0
   ·exact .inl h0
   ·right
    obtain ⟨_, _, hc⟩ := World.cells?_some (hfy 0 h0)
    have h2 := hc 0 (by omega)
    rw [Deep.add_add] at h2
    have h3 : w.cell? a = some (.int .i32 (f 0).rune) := h2
    obtain ⟨b, off, sp⟩ := a
    cases sp with
    | none => exact ⟨b, off, rfl⟩
    | some q =>
     unfold World.cell? at h3
     split at h3
     ·simp at h3
     ·cases h3
  ·obtain rfl : a = ad := by injection e
   have hlen : (X.flat ((List.range len).map f)).length = len * 6 := by rw [X.flat_len]; simp
   have hlt : j < len * 6 := by
    rw [← hlen]
    exact (List.getElem?_eq_some_iff.1 hj).1
   have hi : j / 6 < len := by omega
   have hr : j % 6 < 6 := by omega
   have hjj : j = j / 6 * 6 + j % 6 := by omega
   have h2 := X.flat_get ((List.range len).map f) ((j / 6 : Nat) : Int) (j % 6) (by omega) (by simp; omega) hr
   rw [Int.toNat_natCast, ← hjj, hj] at h2
   have hg : X.gc ((List.range len).map f) ((j / 6 : Nat) : Int) = f (j / 6) := by rw [X.gc_at (by simpa using hi), List.getElem_map, List.getElem_range]
   rw [hg] at h2
   obtain ⟨_, _, hc⟩ := World.cells?_some (hfy (j / 6) hi)
   have h3 := hc (j % 6) hr
   rw [Deep.add_add, ← hjj] at h3
   rw [h3, ← h2]
end
end Go.Proofs.YtjklgjjgndalcaaGreatDoor
namespace Go.Proofs.YtjklgjjgndalcaaGreatDoor
open Go.ChangeShapes Go.WideShapes Go.ChangeAt Go.RowKit
theorem X.flat_sz {A : Type} {sz : Nat} {vals : A → List Value} (hv : ∀ x, (vals x).length = sz) : ∀ l : List A, ((l.map vals).flatten).length = l.length * sz
 | [] => by simp
 | x :: l => by rw [List.map_cons, List.flatten_cons, List.length_append, hv, X.flat_sz hv l, List.length_cons, Nat.add_mul]; omega
theorem X.flat_ix {A : Type} {sz : Nat} {vals : A → List Value} (hv : ∀ x, (vals x).length = sz) : ∀ (l : List A) (i j : Nat) (hi : i < l.length), j < sz → ((l.map vals).flatten)[i * sz + j]? = (vals l[i])[j]?
 | x :: l, 0, j, _, hj => by
  rw [List.map_cons, List.flatten_cons, Nat.zero_mul, Nat.zero_add, List.getElem?_append_left (by rw [hv]; exact hj)]; rfl
 | x :: l, i + 1, j, hi, hj => by
  have e : (i + 1) * sz = sz + i * sz := by rw [Nat.add_mul]; omega
  rw [List.map_cons, List.flatten_cons, List.getElem?_append_right (by rw [hv]; omega), hv, show (i + 1) * sz + j - sz = i * sz + j by omega, X.flat_ix hv l i j (by simpa using hi) hj]; rfl
section
variable {H : Type} {enc : TypeId × Value → H} {w : World} {base : Nat}
theorem qhD {A : Type} [Inhabited A] (sz : Nat) (h0 : 0 < sz) (vals : A → List Value) (hv : ∀ x, (vals x).length = sz) (Pq : A → Prop) {et t : TypeId} (ce : Tryz.prog.cellsOf et = sz) (ht : Tryz.prog.underlying t = some (.slice et))
  (hs : ∀ (x : A) (b off : Nat) q, w.cell? ⟨b, off, some q⟩ ≠ (vals x)[0]?) (each : ∀ n cs x, DataW.trod enc Tryz.prog w base (fun _ => true) true n et cs = some x → cs.length = sz → ∃ y, cs = vals y ∧ Pq y)
  {n0 : Nat} {v : Value} {x : DataW H × List MemPlace} (hf : DataW.trod enc Tryz.prog w base (fun _ => true) true n0 t [v] = some x) :
  ∃ (a : Option Addr) (n c : Nat) (l : List A), v = .slice a n c ∧ (n = 0 ∨ ∃ b off, a = some ⟨b, off, none⟩) ∧ X.Rd w a ((l.map vals).flatten) ∧ l.length = n ∧ (∀ y ∈ l, Pq y) ∧ (a = none → c = 0) ∧ n ≤ c ∧ c ≤ maxLen := by
 rcases Deep.open_slice ht hf with ⟨h0', _⟩ | ⟨a, len, cap, m, n, D, Pl, hv', _, hl, hmx, hm, _, hx⟩
 ·have h1 : v = .slice (none) 0 0 := List.head_eq_of_cons_eq h0'
  exact ⟨none, 0, 0, [], h1, .inl rfl, X.Rd.nil _ _, rfl, (fun y hy => by cases hy), fun _ => rfl, Nat.le_refl _, Nat.zero_le _⟩
 ·have h1 : v = .slice (some a) len cap := List.head_eq_of_cons_eq hv'
  have hm' : m = cap := by simpa using hm
  rw [ce] at hx
  have each' : ∀ i, i < len → ∃ y : A, w.cells? base (a.add (i * sz)) sz = some (vals y) ∧ Pq y := fun i hi => by
   obtain ⟨cs, e1, e2⟩ := hx i (by omega)
   obtain ⟨_, hlen, _⟩ := World.cells?_some e1
   obtain ⟨y, rfl, hy⟩ := each _ _ _ e2 hlen
   exact ⟨y, e1, hy⟩
  obtain ⟨f, hfy⟩ := Deep.choose_lt each'
  refine ⟨some a, len, cap, (List.range len).map f, h1, ?_, ⟨fun e => (by cases e), fun ad e j u hj => ?_⟩, by simp, fun y hy => ?_, (fun e => by cases e), hl, hmx⟩
  ·rcases Nat.eq_zero_or_pos len with hz | hz
   ·exact .inl hz
   ·right
    obtain ⟨_, _, hc⟩ := World.cells?_some (hfy 0 hz).1
    have h2 := hc 0 h0
    rw [Deep.add_add, Nat.zero_mul] at h2
    have h3 : w.cell? a = (vals (f 0))[0]? := h2
    obtain ⟨b, off, sp⟩ := a
    cases sp with
    | none => exact ⟨b, off, rfl⟩
    | some q => exact absurd h3 (hs _ b off q)
  ·obtain rfl : a = ad := by injection e
   have hlen : (((List.range len).map f).map vals).flatten.length = len * sz := by rw [X.flat_sz hv]; simp
   have hlt : j < len * sz := by
    rw [← hlen]
    exact (List.getElem?_eq_some_iff.1 hj).1
   have hi : j / sz < len := (Nat.div_lt_iff_lt_mul h0).2 hlt
   have hr : j % sz < sz := Nat.mod_lt _ h0
   have hjj : j = j / sz * sz + j % sz := by rw [Nat.mul_comm]; exact (Nat.div_add_mod j sz).symm
   have h2 := X.flat_ix hv ((List.range len).map f) (j / sz) (j % sz) (by simpa using hi) hr
   rw [← hjj, hj, List.getElem_map, List.getElem_range] at h2
   obtain ⟨_, _, hc⟩ := World.cells?_some (hfy (j / sz) hi).1
   have h3 := hc (j % sz) hr
   rw [Deep.add_add, ← hjj] at h3
   rw [h3, ← h2]
  ·obtain ⟨i, hi, rfl⟩ := List.mem_map.1 hy
   exact (hfy i (List.mem_range.1 hi)).2
set_option maxRecDepth 100000 in
theorem qjl {n : Nat} {cs : List Value} {x : DataW H × List MemPlace} (h : DataW.trod enc Tryz.prog w base (fun _ => true) true n 51 cs = some x) (hl : cs.length = 4) : ∃ y : X.Lk, cs = y.vals ∧ ∃ l : List X.Cel, (y.n = 0 ∨ ∃ b off, y.a = some ⟨b, off, none⟩) ∧ X.Rd w y.a (X.flat l) ∧ l.length = y.n := by
 obtain ⟨xs, m, _, _, _, hlx, hf⟩ := DataW.trod_struct Tryz.underlying51 h
 have c1 : Tryz.prog.cellsOf 4 = 1 := by kernel_rfl
 have c2 : Tryz.prog.cellsOf 3 = 1 := by kernel_rfl
 have c3 : Tryz.prog.cellsOf 49 = 1 := by kernel_rfl
 have hlx4 : xs.length = 4 := hlx
 match cs, hl with
 | [u0, u1, u2, u3], _ =>
  have k0 : DataW.trod enc Tryz.prog w base (fun _ => true) true m 49 (([u0, u1, u2, u3].drop 0).take (Tryz.prog.cellsOf 49)) = xs[0]? := hf 0 _ rfl
  have k1 : DataW.trod enc Tryz.prog w base (fun _ => true) true m 3 (([u0, u1, u2, u3].drop 1).take (Tryz.prog.cellsOf 3)) = xs[1]? := hf 1 _ rfl
  have k2 : DataW.trod enc Tryz.prog w base (fun _ => true) true m 3 (([u0, u1, u2, u3].drop 2).take (Tryz.prog.cellsOf 3)) = xs[2]? := hf 2 _ rfl
  have k3 : DataW.trod enc Tryz.prog w base (fun _ => true) true m 4 (([u0, u1, u2, u3].drop 3).take (Tryz.prog.cellsOf 4)) = xs[3]? := hf 3 _ rfl
  rw [c3] at k0
  rw [c2] at k1 k2
  rw [c1] at k3
  rw [List.getElem?_eq_getElem (by omega)] at k0 k1 k2 k3
  obtain ⟨a, n, c, l, e0, ha, hr, hn⟩ := qjk (v := u0) k0
  obtain ⟨x, a1, _⟩ := DataW.trod_int Tryz.underlying3 k1
  obtain ⟨y, a2, _⟩ := DataW.trod_int Tryz.underlying3 k2
  obtain ⟨z, a3, _⟩ := DataW.trod_bool Tryz.underlying4 k3
  have g1 := qag a1
  have g2 := qag a2
  have g3 := qag a3
  simp only [List.getElem?_cons_zero, List.getElem?_cons_succ, Option.some.injEq] at g1 g2 g3
  exact ⟨⟨a, n, c, x, y, z⟩, by rw [e0, g1, g2, g3]; rfl, l, ha, hr, hn⟩
theorem X.lkV_flat : ∀ ls : List X.Lk, X.lkV ls = (ls.map X.Lk.vals).flatten
 | [] => rfl
 | k :: l => by rw [List.map_cons, List.flatten_cons, ← X.lkV_flat l]; rfl
set_option maxRecDepth 100000 in
theorem qjm {r : Reach} {b0 : Nat} {t : TypeId} {v : Value} {d : DataW H} {ps : List MemPlace} (ht : Tryz.prog.underlying t = some (.slice 51)) (hval : Value.okWide Tryz.prog w r b0 t v) (hd : DataW.Trod enc Tryz.prog w base (fun _ => true) true t v d ps) :
  ∃ (a : Option Addr) (n c : Nat) (ls : List X.Lk), v = .slice a n c ∧ (n = 0 ∨ ∃ b off, a = some ⟨b, off, none⟩) ∧ X.Rd w a (X.lkV ls) ∧ ls.length = n ∧ (∀ y ∈ ls, ∃ l : List X.Cel, (y.n = 0 ∨ ∃ b off, y.a = some ⟨b, off, none⟩) ∧ X.Rd w y.a (X.flat l) ∧ l.length = y.n) ∧ n ≤ 9223372036854775807 := by
 obtain ⟨fuel, hf⟩ := hd
 obtain ⟨a0, n0, c0, rfl⟩ := okWide_slice ht hval
 have : Inhabited X.Lk := ⟨⟨none, 0, 0, 0, 0, false⟩⟩
 obtain ⟨a, n, c, l, e, h1, h2, h3, h4, _, h5, h6⟩ := qhD 4 (by decide) X.Lk.vals (fun _ => rfl) _ (by kernel_rfl) ht (fun x b off q h => by
  have h' : w.cell? ⟨b, off, some q⟩ = some (.slice x.a x.n x.cap) := h
  unfold World.cell? at h'
  split at h'
  ·simp at h'
  ·cases h') (fun _ _ _ => qjl) hf
 exact ⟨a, n, c, l, e, h1, X.lkV_flat l ▸ h2, h3, h4, Nat.le_trans h5 h6⟩
end
end Go.Proofs.YtjklgjjgndalcaaGreatDoor
