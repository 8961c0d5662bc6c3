/- What the proof of RenderNone needs, part 4: the walks of the program's functions and the plain laws about them. -/
import Derived.Test.YtjklgjjgndalcaaGreatDoorQE3
import Derived.Test.YtjklgjjgndalcaaGreatDoorRows
import Derived.ProofKit
import Derived.OpenShut
import Derived.ChangeArms
import Derived.LaidMore
import Derived.Lay
import Derived.Stop.Joined
import Derived.Below
import Derived.SevenTiedAt
import Derived.Deep.Slices
import Derived.Carry
set_option linter.unusedSimpArgs false
set_option linter.unusedVariables false
set_option maxHeartbeats 4000000
namespace Go.Proofs.YtjklgjjgndalcaaGreatDoor.X
open Go Go.RowKit Go.Proofs.YtjklgjjgndalcaaGreatDoor
theorem up_lim {w : World} {t : Nat} {W H : Int} {T : TS} {F : Nat → Prop} (hA : TermAt w t T F) (hT : qR w) (hL : Lim W H T) : Calls Tryz.prog 84 [pX t].toArray w fun e w' => e = .returned (.tuple #[]) ∧ TermAt w' t (upT T) (more F w w') ∧ Ch F w w' :=
  up_at hA hT (by have := hL.cu; have := hL.hb; omega)
theorem esc_at {w : World} {t : Nat} {W H : Int} {T : TS} {F : Nat → Prop} (hA0 : TermAt w t T F) (hT : LT w) (hL : Lim W H T) {ao : Option Nat} {an cc : Nat} {ac : Ac} (hV : IntsAt w .i64 ao an cc ac.params (fun b => ¬ F b ∧ b < w.heap.size)) (hV8 : an ≤ 8) (hVb : ∀ x ∈ ac.params, 0 ≤ x ∧ x ≤ 9999) : Calls Tryz.prog 63 [pX t, .agg #[iX ac.kind, rX ac.rune, uX ac.last, .string ac.marks, .slice (ao.map at0) an cc, .string ac.text]].toArray w fun e w' => e = .returned (.tuple #[]) ∧ TermAt w' t (qdU T ac) (more F w w') ∧ Ch F w w' := by
 have h := Sep.startT hA0; have hg := Gz.of hA0; have hM := hL; have P := hM.all; refine yA Tryz.func63 rfl <| ysr <| yo (zN [iX ac.kind, rX ac.rune, uX ac.last, .string ac.marks, .slice (ao.map at0) an cc, .string ac.text] 90 h fun u Q h => ?_); refine ye <| ys <| ysr <| yp 4 [] (.l (h.c 1 3) .z) <| yw [7] (rY ((ac.marks).toList == ((⟨#[40]⟩ : ByteArray)).toList)) (fun f => ?_) fun f => ?_
 ·have r := f; obtain ⟨s, v⟩ := mark40 f; refine yz 8 <| yct <| ys <| ysr <| yp 4 [] (.l (h.c 1 2) .z) <| yw [15] (rE ac.last 48) (fun j => ?_) fun j => ?_
  ·refine yz 8 <| yct <| zD [11] h fun u h => yd (uL 0 11) [4] (.l (h.c 1 3) (.i 0 ((ac.marks).size) (.p (q := InR .u8 ((bt ac.marks 0) - 40)) (in8 (by omega) (by omega)) (.l (h.c 1 2) (.i ((bt ac.marks 0) - 40) (2) .z))))) ?_; have hz : (((bt ac.marks 0) - 40) : Int).toNat = 0 := by omega
   refine yK 11 (zTi 0 ({ T with draw0 := ((ac.last : Int) == 48) } : TS) (92 + (((bt ac.marks 0) - 40) : Int).toNat * 1) [.bool ((ac.last : Int) == 48)] h (fun _ _ _ _ => by rw [hz]; kernel_rfl) fun u h => ?_); refine q9 <| yDe (nS ?_); refine q8 (rS (yR0 ?_)); refine h.tfin hg ?_; simp only [qdU, qal, *, ↓reduceIte, Int.reduceEq, Int.reduceLT, Int.reduceLE, sB]
  refine yp 8 [] (.l (h.c 1 2) .z) <| ye <| yc (rE ac.last 66) (fun d => ?_) fun d => ?_
  ·refine zD [11] h fun u h => yd (uL 0 11) [4] (.l (h.c 1 3) (.i 0 ((ac.marks).size) (.p (q := InR .u8 ((bt ac.marks 0) - 40)) (in8 (by omega) (by omega)) (.l (h.c 1 2) (.i ((bt ac.marks 0) - 40) (2) .z))))) ?_; have hz : (((bt ac.marks 0) - 40) : Int).toNat = 0 := by omega
   refine yK 11 (zTi 0 ({ T with draw0 := ((ac.last : Int) == 48) } : TS) (92 + (((bt ac.marks 0) - 40) : Int).toNat * 1) [.bool ((ac.last : Int) == 48)] h (fun _ _ _ _ => by rw [hz]; kernel_rfl) fun u h => ?_); refine q9 <| yDe (nS ?_); refine q8 (rS (yR0 ?_)); refine h.tfin hg ?_; simp only [qdU, qal, *, ↓reduceIte, Int.reduceEq, Int.reduceLT, Int.reduceLE, sB]
  refine yk <| q8 (rS (yR0 ?_)); refine h.tfin hg ?_; simp only [qdU, qal, *, ↓reduceIte, Int.reduceEq, Int.reduceLT, Int.reduceLE, sB]
 have r := f; refine yp 8 [] (.l (h.c 1 3) .z) <| ye <| yc (rY ((ac.marks).toList == ((⟨#[41]⟩ : ByteArray)).toList)) (fun g => ?_) fun g => ?_
 ·have j := g; obtain ⟨s, v⟩ := mark41 g; refine ys <| ysr <| yp 4 [] (.l (h.c 1 2) .z) <| yw [15] (rE ac.last 48) (fun d => ?_) fun d => ?_
  ·refine yz 8 <| yct <| zD [11] h fun u h => yd (uL 0 11) [4] (.l (h.c 1 3) (.i 0 ((ac.marks).size) (.p (q := InR .u8 ((bt ac.marks 0) - 40)) (in8 (by omega) (by omega)) (.l (h.c 1 2) (.i ((bt ac.marks 0) - 40) (2) .z))))) ?_; have hz : (((bt ac.marks 0) - 40) : Int).toNat = 1 := by omega
   refine yK 11 (zTi 0 ({ T with draw1 := ((ac.last : Int) == 48) } : TS) (92 + (((bt ac.marks 0) - 40) : Int).toNat * 1) [.bool ((ac.last : Int) == 48)] h (fun _ _ _ _ => by rw [hz]; kernel_rfl) fun u h => ?_); refine q9 <| yDe (nS ?_); refine q8 (rS (yR0 ?_)); refine h.tfin hg ?_; simp only [qdU, qal, *, ↓reduceIte, Int.reduceEq, Int.reduceLT, Int.reduceLE, sB]
  refine yp 8 [] (.l (h.c 1 2) .z) <| ye <| yc (rE ac.last 66) (fun k => ?_) fun k => ?_
  ·refine zD [11] h fun u h => yd (uL 0 11) [4] (.l (h.c 1 3) (.i 0 ((ac.marks).size) (.p (q := InR .u8 ((bt ac.marks 0) - 40)) (in8 (by omega) (by omega)) (.l (h.c 1 2) (.i ((bt ac.marks 0) - 40) (2) .z))))) ?_; have hz : (((bt ac.marks 0) - 40) : Int).toNat = 1 := by omega
   refine yK 11 (zTi 0 ({ T with draw1 := ((ac.last : Int) == 48) } : TS) (92 + (((bt ac.marks 0) - 40) : Int).toNat * 1) [.bool ((ac.last : Int) == 48)] h (fun _ _ _ _ => by rw [hz]; kernel_rfl) fun u h => ?_); refine q9 <| yDe (nS ?_); refine q8 (rS (yR0 ?_)); refine h.tfin hg ?_; simp only [qdU, qal, *, ↓reduceIte, Int.reduceEq, Int.reduceLT, Int.reduceLE, sB]
  refine yk <| q8 (rS (yR0 ?_)); refine h.tfin hg ?_; simp only [qdU, qal, *, ↓reduceIte, Int.reduceEq, Int.reduceLT, Int.reduceLE, sB]
 have j := g; refine yk <| ys <| ysr <| yp 3 [] (.l (h.c 1 3) .z) <| ye <| yc (rN (rY ((ac.marks).toList == (ByteArray.empty).toList))) (fun d => ?_) fun d => ?_
 ·refine q8 (rS (yR0 ?_)); refine h.tfin hg ?_; simp only [qdU, qal, *, ↓reduceIte, Int.reduceEq, Int.reduceLT, Int.reduceLE, sB]
 refine yk <| ysr <| yp 2 [] (.l (h.c 1 2) .z) <| ye <| qa <| yx 2 <| yc (rE ac.last 55) (fun k => ?_) fun k => ?_
 ·refine q7 <| yp 7 [] (.a (h.ts 0 2 8) .z) <| yo (zT 0 ({ T with saved := T.cursor } : TS) h fun u h => ?_); refine yE (nB (qB ?_)); refine h.tfin hg ?_; simp only [qdU, qal, *, ↓reduceIte, Int.reduceEq, Int.reduceLT, Int.reduceLE, sB]
 refine yx 2 <| yc (rE ac.last 56) (fun A => ?_) fun A => ?_
 ·refine q7 <| yp 7 [] (.a (h.ts 0 10 8) .z) <| yo (zT 0 ({ T with cursor := T.saved } : TS) h fun u h => ?_); refine yE (nB (qB ?_)); refine h.tfin hg ?_; simp only [qdU, qal, *, ↓reduceIte, Int.reduceEq, Int.reduceLT, Int.reduceLE, sB]
 refine yx 2 <| yc (rE ac.last 68) (fun B => ?_) fun B => ?_
 ·refine ysr <| yq 1 <| yo (yQ (h.met 0 fun F hA hF => qbr hA (h.tb hg hT.tb) hL  ) fun u h => ?_); refine ye <| q7 <| yq 4 ?_; have n : Lim W H (qay T) := (qaD hL)
  generalize C : (qay T) = T21 at h n; have D := n; have R := D.all; refine yo (zT 0 ({ T21 with cursor := (Cur.mk T21.cursor.x T21.cursor.y false T21.cursor.sty) } : TS) h fun u h => ?_); refine yE (nB (qB ?_)); subst C; refine h.tfin hg ?_; simp only [qdU, qal, *, ↓reduceIte, Int.reduceEq, Int.reduceLT, Int.reduceLE, sB]
 refine yx 2 <| yc (rE ac.last 69) (fun E => ?_) fun E => ?_
 ·refine ysr <| yq 1 <| yo (yQ (h.met 0 fun F hA hF => qbr hA (h.tb hg hT.tb) hL  ) fun u h => ?_); refine ye <| q7 ?_; have m : Lim W H (qay T) := (qaD hL)
  generalize G : (qay T) = I at h m; have J := m; have S := J.all; refine yp 6 [] (.l (h.tc 0 3) .z) <| yo (yQ (h.met 0 fun F hA hF => qW hA (h.tb hg hT.tb) m  (0) (I.cursor.y)) fun u h => ?_); refine yE (nB (qB ?_)); subst G; refine h.tfin hg ?_; simp only [qdU, qal, *, ↓reduceIte, Int.reduceEq, Int.reduceLT, Int.reduceLE, sB]
 refine yx 2 <| yc (rE ac.last 77) (fun K => ?_) fun K => ?_
 ·refine ysr <| yq 1 <| yo (yQ (h.met 0 fun F hA hF => up_lim hA (h.tb hg hT.tb) hL  ) fun u h => ?_); refine ye <| q7 <| yq 4 ?_; have o : Lim W H (upT T) := (lim_up hL)
  generalize L : (upT T) = T25 at h o; have M := o; have U := M.all; refine yo (zT 0 ({ T25 with cursor := (Cur.mk T25.cursor.x T25.cursor.y false T25.cursor.sty) } : TS) h fun u h => ?_); refine yE (nB (qB ?_)); subst L; refine h.tfin hg ?_; simp only [qdU, qal, *, ↓reduceIte, Int.reduceEq, Int.reduceLT, Int.reduceLE, sB]
 refine yx 2 <| yc (rE ac.last 72) (fun N => ?_) fun N => ?_
 ·refine zD [9] h fun u h => yd (uL 0 9) [] (.l (h.tc 0 2) (.i T.cursor.x (60) .z)) <| yK 9 (zTi 0 ({ T with tabs := (fun i => if i = (T.cursor.x : Int).toNat then true else T.tabs i) } : TS) (28 + (T.cursor.x : Int).toNat * 1) [.bool true] h (fun _ _ _ _ => qek T _ _ _ _ _ (by omega) _) fun u h => ?_); refine q9 <| yDe (nB (qB ?_)); refine h.tfin hg ?_; simp only [qdU, qal, *, ↓reduceIte, Int.reduceEq, Int.reduceLT, Int.reduceLE, sB]
 refine yx 2 <| yc (rE ac.last 99) (fun O => ?_) fun O => ?_
 ·obtain ⟨V, X, h⟩ := h.opn 0; refine zD [15] h fun u h => yd (uL 0 15) [] (.l (h.tg 0) (.l (h.gw 0).1 (.l (h.tg 0) (.l (h.gw 0).2 .z)))) <| yK 15 (yQ (h.met 0 fun F hA hF => start_at hA (h.lt hg hT) hL  (T.grid.w) (T.grid.h)) fun u h => ?_); refine q9 <| yDe (nB (qB ?_)); refine h.tfin hg ?_; simp only [qdU, qal, *, ↓reduceIte, Int.reduceEq, Int.reduceLT, Int.reduceLE, sB]
 refine qk (nB (qB ?_)); refine h.tfin hg ?_; simp only [qdU, qal, *, ↓reduceIte, Int.reduceEq, Int.reduceLT, Int.reduceLE, sB]
theorem act_at {w : World} {t : Nat} {W H : Int} {T : TS} {F : Nat → Prop} (hA0 : TermAt w t T F) (hT : LT w) (hL : Lim W H T) {ao : Option Nat} {an cc : Nat} {ac : Ac} (hV : IntsAt w .i64 ao an cc ac.params (fun b => ¬ F b ∧ b < w.heap.size)) (hV8 : an ≤ 8) (hVb : ∀ x ∈ ac.params, 0 ≤ x ∧ x ≤ 9999) (hat : ac.text.size ≤ 1000) : Calls Tryz.prog 35 [pX t, .agg #[iX ac.kind, rX ac.rune, uX ac.last, .string ac.marks, .slice (ao.map at0) an cc, .string ac.text]].toArray w fun e w' => e = .returned (.tuple #[]) ∧ TermAt w' t (qcz T ac) (more F w w') ∧ Ch F w w' := by
 have h := Sep.startT hA0; have hg := Gz.of hA0; have hM := hL; have p := hM.all; refine yA Tryz.func35 rfl <| ysr <| yo (zN [iX ac.kind, rX ac.rune, uX ac.last, .string ac.marks, .slice (ao.map at0) an cc, .string ac.text] 90 h fun u q h => ?_); refine ye <| ysr <| yp 2 [] (.l (h.c 1 0) .z) <| ye <| qa <| yx 2 <| yc (rE ac.kind 0) (fun d => ?_) fun d => ?_
 ·refine q7 <| yp 3 [] (.l (h.c 1 1) .z) <| yo (yQ (h.met 0 fun F hA hF => print_at hA (h.tb hg hT.tb) hL  (ac.rune)) fun u h => ?_); refine yE (nB (qB ?_)); refine h.tfin hg ?_; simp only [qcz, qho, d, ↓reduceIte, Int.reduceEq, Int.reduceLT, Int.reduceLE, sB]
 refine yx 2 <| yc (rE ac.kind 1) (fun f => ?_) fun f => ?_
 ·refine q7 <| yp 3 [] (.l (h.c 1 2) .z) <| yo (yQ (h.met 0 fun F hA hF => exec_at hA (h.tb hg hT.tb) hL  (ac.last)) fun u h => ?_); refine yE (nB (qB ?_)); refine h.tfin hg ?_; simp only [qcz, qho, d, f, ↓reduceIte, Int.reduceEq, Int.reduceLT, Int.reduceLE, sB]
 refine yx 2 <| yc (rE ac.kind 2) (fun g => ?_) fun g => ?_
 ·refine q7 <| yp 2 [] (.a (h.cs 1 0 6) .z) <| yo (yQ (h.met 0 fun F hA hF => esc_at hA (h.lt hg hT) hL  (h.intsF hV hF) hV8 hVb) fun u h => ?_); refine yE (nB (qB ?_)); refine h.tfin hg ?_; simp only [qcz, qho, d, f, g, ↓reduceIte, Int.reduceEq, Int.reduceLT, Int.reduceLE, sB]
 refine yx 2 <| yc (rE ac.kind 3) (fun i => ?_) fun i => ?_
 ·refine q7 <| yp 2 [] (.a (h.cs 1 0 6) .z) <| yo (yQ (h.met 0 fun F hA hF => csi_at hA (h.lt hg hT) hL  (h.intsF hV hF) hV8 hVb) fun u h => ?_); refine yE (nB (qB ?_)); refine h.tfin hg ?_; simp only [qcz, qho, d, f, g, i, ↓reduceIte, Int.reduceEq, Int.reduceLT, Int.reduceLE, sB]
 refine yx 2 <| yc (rE ac.kind 4) (fun k => ?_) fun k => ?_
 ·refine ysr <| yp 5 [] (.l (h.c 1 5) .z) <| yw [34] (rM 2 ((ac.text).size : Int)) (fun m => ?_) fun m => ?_
  ·refine yp 10 [] (.l (h.c 1 5) (.j 2 ((ac.text).size) .z)) <| yw [39] (rY ((((ac.text).extract 0 (2 : Int).toNat)).toList == ((⟨#[48, 59]⟩ : ByteArray)).toList)) (fun n => ?_) fun n => ?_
   ·refine yz 16 <| yct <| q7 <| yp 6 [] (.l (h.c 1 5) (.j 2 ((ac.text).size) .z)) <| yo (zT 0 ({ T with title := ((ac.text).extract (2 : Int).toNat (ac.text).size) } : TS) h fun u h => ?_); refine yE (nB (qB ?_)); refine h.tfin hg ?_; simp only [qcz, qho, d, f, g, i, k, m, n, ↓reduceIte, Int.reduceEq, Int.reduceLT, Int.reduceLE, sB]
   refine yp 16 [] (.l (h.c 1 5) (.j 2 ((ac.text).size) .z)) <| ye <| yc (rY ((((ac.text).extract 0 (2 : Int).toNat)).toList == ((⟨#[50, 59]⟩ : ByteArray)).toList)) (fun o => ?_) fun o => ?_
   ·refine q7 <| yp 6 [] (.l (h.c 1 5) (.j 2 ((ac.text).size) .z)) <| yo (zT 0 ({ T with title := ((ac.text).extract (2 : Int).toNat (ac.text).size) } : TS) h fun u h => ?_); refine yE (nB (qB ?_)); refine h.tfin hg ?_; simp only [qcz, qho, d, f, g, i, k, m, n, o, ↓reduceIte, Int.reduceEq, Int.reduceLT, Int.reduceLE, sB]
   refine qk (nB (qB ?_)); refine h.tfin hg ?_; simp only [qcz, qho, d, f, g, i, k, m, n, o, ↓reduceIte, Int.reduceEq, Int.reduceLT, Int.reduceLE, sB]
  refine yz 16 <| ycf <| qk (nB (qB ?_)); refine h.tfin hg ?_; simp only [qcz, qho, d, f, g, i, k, m, ↓reduceIte, Int.reduceEq, Int.reduceLT, Int.reduceLE, sB]
 refine qk (nB (qB ?_)); refine h.tfin hg ?_; simp only [qcz, qho, *, ↓reduceIte, Int.reduceEq, Int.reduceLT, Int.reduceLE, sB]
def qfO (T : TS) (c : Int) : TS := (qaz T.parser c).2.foldl qcz { T with parser := (qaz T.parser c).1 }
def qdj (T : TS) (s : ByteArray) : Nat → TS
 | 0 => T
 | k + 1 => qfO (qdj T s k) (bt s ((k : Nat) : Int))
def qis (T : TS) (s : ByteArray) : TS := qdj T s s.size
structure AcOk (a : Ac) : Prop where
 n : a.params.length ≤ 8
 b : ∀ x ∈ a.params, 0 ≤ x ∧ x ≤ 9999
 t : a.text.size ≤ 40
theorem qcf {k r l : Int} {m u : ByteArray} (h : u.size ≤ 40) : AcOk ⟨k, r, l, m, [], u⟩ := ⟨by simp, (fun x hx => by cases hx), h⟩
theorem qaC (s : Int) : (atP s).lim := ⟨qgU, (by decide : (0 : Nat) ≤ 2), (by decide : (0 : Nat) ≤ 40), (by decide : (0 : Nat) ≤ 8), fun x hx => by cases hx⟩
def qet (r : PS × List Ac) : Prop := r.1.lim ∧ ∀ a ∈ r.2, AcOk a
theorem qL {p : PS} (h : p.lim) : qet (p, []) := ⟨h, fun a ha => by cases ha⟩
theorem qcg {p : PS} {a : Ac} (h : p.lim) (ha : AcOk a) : qet (p, [a]) := ⟨h, fun b hb => by obtain rfl := List.mem_singleton.1 hb; exact ha⟩
theorem qch (l : List Int) : ∀ a ∈ l.map acP, AcOk a := fun a ha => by
 obtain ⟨r, _, rfl⟩ := List.mem_map.1 ha
 exact qcf (by decide)
theorem qgg {l m : List Ac} (h : ∀ a ∈ l, AcOk a) (h' : ∀ a ∈ m, AcOk a) : ∀ a ∈ l ++ m, AcOk a := fun a ha => (List.mem_append.1 ha).elim (h a) (h' a)
theorem ql {P : PS × List Ac → Prop} {c : Prop} [Decidable c] {a b : PS × List Ac} (h1 : c → P a) (h2 : ¬ c → P b) : P (if c then a else b) := by
 by_cases h : c
 ·rw [if_pos h]; exact h1 h
 ·rw [if_neg h]; exact h2 h
theorem qdY {p : PS} (h : p.lim) (s : Int) : qet (qm p s) := qcg (qaC 0) (qcf h.t)
theorem qh4 {p : PS} (h : p.lim) (c : Int) : qet (qj p c) := by
 unfold qj
 refine ql (fun _ => qL ?_) fun _ => ql (fun _ => qL (qaC 3)) fun _ => ql (fun _ => qL (qaC 5)) fun _ => ql (fun _ => qL (qaC 6)) fun _ => qcg (qaC 0) (qcf (by decide))
 split
 ·exact ⟨h.u, by show (p.marks ++ qD [c]).size ≤ 2; rw [ByteArray.size_append, qam]; omega, h.t, h.n, h.b⟩
 ·exact ⟨h.u, h.m, h.t, h.n, h.b⟩
theorem qh5 {p : PS} (h : p.lim) (c : Int) : qet (qz p c) := by
 unfold qz
 refine ql (fun _ => qL ⟨h.u, h.m, h.t, h.n, h.b⟩) fun _ => ql (fun _ => qdY h 5) fun _ => ql (fun _ => qL (qaC 0)) fun _ => ql (fun h3 => qL ⟨h.u, h.m, ?_, h.n, h.b⟩) fun _ => qL h
 show (p.text ++ qD [c]).size ≤ 40
 rw [ByteArray.size_append, qam]; omega
theorem someL_bd {l : List Int} (h : ∀ x ∈ l, 0 ≤ x ∧ x ≤ 9999) : ∀ x ∈ qah l, 0 ≤ x ∧ x ≤ 9999 := fun x hx => by
 unfold qah at hx
 split at hx
 ·simp at hx; omega
 ·exact h x hx
theorem fed_csi {p : PS} (h : p.lim) (c : Int) : qet (qaE p c) := by
 have h1 := qd9 p.params
 have h2 := someL_bd h.b
 have h3 := qgc h.b
 have h4 := h.n
 unfold qaE
 refine ql (fun hc => qL ⟨h.u, h.m, h.t, ?_, ?_⟩) fun _ => ql (fun _ => qL ?_) fun _ => ql (fun _ => ql (fun _ => qL (qaC 0)) fun _ => qcg (qaC 0) ⟨h.n, h.b, (by decide : (0 : Nat) ≤ 40)⟩) fun _ => ql (fun _ => qL ⟨h.u, h.m, h.t, h.n, h.b⟩) fun h5 => qL ⟨h.u, ?_, h.t, h.n, h.b⟩
 ·show (qcw _ _).length ≤ 8
  unfold qcw; rw [List.length_set]; omega
 ·intro x hx
  have hx' : x ∈ (qah p.params).set ((qah p.params).length - 1) (min (10 * qda (qah p.params) + (c - 48)) 9999) := hx
  rcases List.mem_or_eq_of_mem_set hx' with hx | rfl
  ·exact h2 x hx
  ·omega
 ·split
  ·refine ⟨h.u, h.m, h.t, ?_, ?_⟩
   ·show (qah p.params ++ [0]).length ≤ 8
    rw [List.length_append]; simp only [List.length_cons, List.length_nil]; omega
   ·intro x hx
    rcases List.mem_append.1 hx with hx | hx
    ·exact h2 x hx
    ·simp at hx; omega
  ·exact ⟨h.u, h.m, h.t, by show (qah p.params).length ≤ 8; omega, h2⟩
 ·show (p.marks ++ qD [c]).size ≤ 2
  have := h.m
  rw [ByteArray.size_append, qam]; omega
theorem qgh {u : US} (h : u.ok) {c : Int} (hc : 0 ≤ c ∧ c ≤ 255) : (qbC u c).1.ok := by
 have hb : ∀ x ∈ u.pend ++ [c], 0 ≤ x ∧ x ≤ 255 := fun x hx => (List.mem_append.1 hx).elim (h.pend x) (fun h => by simp at h; omega)
 exact mkU_ok (fun x hx => qdb hb 4 x (List.mem_of_mem_take hx)) (by rw [List.length_take]; omega)
theorem qh6 {p : PS} (h : p.lim) {c : Int} (hc : 0 ≤ c ∧ c ≤ 255) : qet (qA p c) := by
 unfold qA
 refine ql (fun _ => ql (fun _ => ⟨qaC 1, qch _⟩) fun _ => ql (fun _ => ⟨⟨qgU, h.m, h.t, h.n, h.b⟩, qgg (qch _) fun a ha => by obtain rfl := List.mem_singleton.1 ha; exact qcf (by decide)⟩) fun _ => ⟨⟨qgh qgU hc, h.m, h.t, h.n, h.b⟩, qgg (qch _) (qch _)⟩) fun _ => ⟨⟨qgh h.u hc, h.m, h.t, h.n, h.b⟩, qch _⟩
theorem qfg {p : PS} (h : p.lim) {c : Int} (hc : 0 ≤ c ∧ c ≤ 255) : qet (qaa p c) := by
 unfold qaa
 exact ql (fun _ => qh6 h hc) fun _ => ql (fun _ => qh5 h c) fun _ => ql (fun _ => qL (qaC 0)) fun _ => ql (fun _ => qL (qaC 1)) fun _ => ql (fun _ => qcg h (qcf (by decide))) fun _ => ql (fun _ => qL h) fun _ => ql (fun _ => fed_csi h c) fun _ => qh4 h c
theorem qgi {p : PS} (h : p.lim) {c : Int} (hc : 0 ≤ c ∧ c ≤ 255) : qet (qaz p c) := by
 unfold qaz
 exact ql (fun _ => ql (fun _ => qdY h _) fun _ => qfg (qaC 1) hc) fun _ => qfg h hc
theorem fed_len {p : PS} (h : p.lim) (c : Int) : (qaz p c).2.length ≤ 8 := by
 have hf : (qac p.utf).length ≤ 3 := by unfold qac; rw [List.length_replicate]; have := h.u.n; omega
 have hu := qcc h.u c
 have h0 := qcc qgU c
 have l1 : ∀ (q : PS) (s : Int), (qm q s).2.length ≤ 8 := fun _ _ => by simp [qm]
 have l2 : ∀ q : PS, (qj q c).2.length ≤ 8 := fun q => by
  unfold qj
  exact ql (P := fun r => r.2.length ≤ 8) (fun _ => by simp) fun _ => ql (P := fun r => r.2.length ≤ 8) (fun _ => by simp) fun _ => ql (P := fun r => r.2.length ≤ 8) (fun _ => by simp) fun _ => ql (P := fun r => r.2.length ≤ 8) (fun _ => by simp) fun _ => by simp
 have l3 : ∀ q : PS, (qz q c).2.length ≤ 8 := fun q => by
  unfold qz
  exact ql (P := fun r => r.2.length ≤ 8) (fun _ => by simp) fun _ => ql (P := fun r => r.2.length ≤ 8) (fun _ => l1 _ _) fun _ => ql (P := fun r => r.2.length ≤ 8) (fun _ => by simp) fun _ => ql (P := fun r => r.2.length ≤ 8) (fun _ => by simp) fun _ => by simp
 have l4 : ∀ q : PS, (qaE q c).2.length ≤ 8 := fun q => by
  unfold qaE
  exact ql (P := fun r => r.2.length ≤ 8) (fun _ => by simp) fun _ => ql (P := fun r => r.2.length ≤ 8) (fun _ => by simp) fun _ => ql (P := fun r => r.2.length ≤ 8) (fun _ => ql (P := fun r => r.2.length ≤ 8) (fun _ => by simp) fun _ => by simp) fun _ => ql (P := fun r => r.2.length ≤ 8) (fun _ => by simp) fun _ => by simp
 have l5 : (qA p c).2.length ≤ 8 := by
  unfold qA
  exact ql (P := fun r => r.2.length ≤ 8) (fun _ => ql (P := fun r => r.2.length ≤ 8) (fun _ => by simp; omega) fun _ => ql (P := fun r => r.2.length ≤ 8) (fun _ => by simp; omega) fun _ => by simp; omega) fun _ => by simp; omega
 have l6 : ∀ q : PS, (qA q c).2.length ≤ 8 → (qaa q c).2.length ≤ 8 := fun q hq => by
  unfold qaa
  exact ql (P := fun r => r.2.length ≤ 8) (fun _ => hq) fun _ => ql (P := fun r => r.2.length ≤ 8) (fun _ => l3 _) fun _ => ql (P := fun r => r.2.length ≤ 8) (fun _ => by simp) fun _ => ql (P := fun r => r.2.length ≤ 8) (fun _ => by simp) fun _ => ql (P := fun r => r.2.length ≤ 8) (fun _ => by simp) fun _ => ql (P := fun r => r.2.length ≤ 8) (fun _ => by simp) fun _ => ql (P := fun r => r.2.length ≤ 8) (fun _ => l4 _) fun _ => l2 _
 have l7 : (qA (atP 1) c).2.length ≤ 8 := by
  have hz : (qac (atP 1).utf).length ≤ 3 := by simp [qac, atP]
  have hv : (qbC (atP 1).utf c).2.length ≤ 4 := h0
  unfold qA
  exact ql (P := fun r => r.2.length ≤ 8) (fun _ => ql (P := fun r => r.2.length ≤ 8) (fun _ => by simp; omega) fun _ => ql (P := fun r => r.2.length ≤ 8) (fun _ => by simp; omega) fun _ => by simp; omega) fun _ => by simp; omega
 unfold qaz
 exact ql (P := fun r => r.2.length ≤ 8) (fun _ => ql (P := fun r => r.2.length ≤ 8) (fun _ => l1 _ _) fun _ => l6 _ l7) fun _ => l6 _ l5
theorem TermIn.newPs {w w' : World} {t g o : Nat} {ba : Option Addr} {bn bc : Nat} {pa : Option Addr} {pn pc : Nat} {T : TS} {F F1 F2 FB FP K : Nat → Prop} (h : TermIn w t g o ba bn bc pa pn pc T F F1 F2 FB FP) (hc : Ch (fun j => j = t) w w') {p' : PS} {po : Option Nat} {pn' pc' : Nat}
  (hb : Blk w' t (({ T with parser := p' } : TS).vals g o (.slice ba bn bc) (.slice (po.map at0) pn' pc')) qbo) (hp : IntsAt w' .i64 po pn' pc' p'.params K) (hK : ∀ b, po = some b → FP b ∨ (¬ F b ∧ gTop ≤ b)) :
  TermIn w' t g o ba bn bc (po.map at0) pn' pc' ({ T with parser := p' } : TS) (fun b => F b ∨ po = some b) F1 F2 FB (fun b => FP b ∨ po = some b) := by
 obtain ⟨rows, hL, hl⟩ := h.bk
 have key : ∀ (X : Nat → Prop), (∀ b, X b → F b) → (∀ b, X b → ¬ FP b) → ∀ b, X b → ¬ (FP b ∨ po = some b) := fun X h1 h2 b hx hy => hy.elim (h2 b hx) fun e => (hK b e).elim (h2 b hx) fun h3 => h3.1 (h1 b hx)
 exact
 {blk := hb
  g1 := h.g1.ch hc fun b hb e => h.t1 (e ▸ hb)
  g2 := h.g2.ch hc fun b hb e => h.t2 (e ▸ hb)
  bk := ⟨rows, hL.ch hc fun b hb e => h.tB (e ▸ hb), hl⟩
  bcap := h.bcap
  ps := ⟨hp.1, hp.2.1, (fun e => hp.2.2.1 (by cases po <;> simp_all)), fun ad e => by
   cases po with
   | none => cases e
   | some b => cases e; exact .inr rfl⟩
  pz := ⟨po, rfl⟩
  bz := h.bz
  t1 := h.t1, t2 := h.t2, tB := h.tB
  tP := key (fun b => b = t) (fun b e => e ▸ h.inF.1) (fun b e => e ▸ h.tP) t rfl
  a12 := h.a12, a1B := h.a1B, a2B := h.a2B
  a1P := key F1 h.inF.2.1 h.a1P
  a2P := key F2 h.inF.2.2.1 h.a2P
  inF := ⟨.inl h.inF.1, fun b hb => .inl (h.inF.2.1 b hb), fun b hb => .inl (h.inF.2.2.1 b hb), fun b hb => .inl (h.inF.2.2.2.1 b hb), fun b hb => hb.imp (h.inF.2.2.2.2 b) id⟩
  lt := fun b hb => hb.elim (fun hb => Nat.lt_of_lt_of_le (h.lt b hb) hc.size) fun e => (hp.2.2.2 b e).2
  hi := fun b hb => hb.elim (h.hi b) fun e => (hK b e).elim (fun hb => h.hi b (h.inF.2.2.2.2 b hb)) fun h3 => h3.2 }
theorem TermIn.ints {w : World} {t g o : Nat} {ba : Option Addr} {bn bc : Nat} {pa : Option Addr} {pn pc : Nat} {T : TS} {F F1 F2 FB FP : Nat → Prop} (h : TermIn w t g o ba bn bc pa pn pc T F F1 F2 FB FP) :
  ∃ po : Option Nat, pa = po.map at0 ∧ IntsAt w .i64 po pn pc T.parser.params (fun b => po = some b) ∧ ∀ b, po = some b → FP b := by
 obtain ⟨po, rfl⟩ := h.pz
 have hf : ∀ b, po = some b → FP b := fun b e => by subst e; exact h.ps.2.2.2 _ rfl
 refine ⟨po, rfl, ⟨h.ps.1, h.ps.2.1, fun e => h.ps.2.2.1 (by rw [e]; rfl), fun b e => ⟨e, h.lt b (h.inF.2.2.2.2 b (hf b e))⟩⟩, hf⟩
theorem ActsAt.at {w : World} {b n c : Nat} {l : List Ac} {K : Nat → Prop} (h : ActsAt w (some b) n c l K) {j : Nat} (hj : j < n) : ∃ ac ao an cc, l[j]? = some ac ∧ IntsAt w .i64 ao an cc ac.params K ∧
  w.cell? ⟨b, (0 + ((j : Nat) : Int).toNat * 6), none⟩ = some (.int .i64 ac.kind) ∧ w.cell? ⟨b, (0 + ((j : Nat) : Int).toNat * 6) + 1, none⟩ = some (.int .i32 ac.rune) ∧ w.cell? ⟨b, (0 + ((j : Nat) : Int).toNat * 6) + 2, none⟩ = some (.int .u8 ac.last) ∧
  w.cell? ⟨b, (0 + ((j : Nat) : Int).toNat * 6) + 3, none⟩ = some (.string ac.marks) ∧ w.cell? ⟨b, (0 + ((j : Nat) : Int).toNat * 6) + 4, none⟩ = some (.slice (ao.map at0) an cc) ∧ w.cell? ⟨b, (0 + ((j : Nat) : Int).toNat * 6) + 5, none⟩ = some (.string ac.text) := by
 obtain ⟨vss, h1, h2, h3⟩ := h.ex
 have hl := h.len
 have hj1 : j < l.length := by omega
 have hj2 : j < vss.length := by omega
 obtain ⟨ao, an, cc, e, hv⟩ := h3 j hj1 hj2
 have h6 : ∀ v ∈ vss, v.length = 6 := fun v hv => by
  obtain ⟨i, hi, rfl⟩ := List.getElem_of_mem hv
  exact (h3 i (by omega) hi).len
 have key : ∀ k, k < 6 → ∀ v, (l[j].vals (.slice (ao.map at0) an cc))[k]? = some v → w.cell? ⟨b, 0 + (j * 6 + k), none⟩ = some v := fun k hk v hv => qbe h1.rd _ _ (by rw [qgQ h6 hj2 hk, e]; exact hv)
 refine ⟨l[j], ao, an, cc, List.getElem?_eq_getElem hj1, hv, ?_⟩
 rw [Int.toNat_natCast, Nat.zero_add]
 have k0 := key 0 (by decide) _ rfl
 have k1 := key 1 (by decide) _ rfl
 have k2 := key 2 (by decide) _ rfl
 have k3 := key 3 (by decide) _ rfl
 have k4 := key 4 (by decide) _ rfl
 have k5 := key 5 (by decide) _ rfl
 simp only [Nat.zero_add, Nat.add_zero] at k0 k1 k2 k3 k4 k5
 exact ⟨k0, k1, k2, k3, k4, k5⟩
theorem qit {l : List Ac} {j : Nat} {ac : Ac} (h : l[j]? = some ac) (T : TS) : (l.take (j + 1)).foldl qcz T = qcz ((l.take j).foldl qcz T) ac := by
 obtain ⟨hj, rfl⟩ := List.getElem?_eq_some_iff.1 h
 rw [List.take_succ_eq_append_getElem hj, List.foldl_append]
 rfl
theorem qiu {F F2 : Nat → Prop} {w u v : World} (h : ∀ b, F2 b → more F w u b) (h1 : w.heap.size ≤ u.heap.size) (h2 : u.heap.size ≤ v.heap.size) : ∀ b, more F2 u v b → more F w v b := fun b hb => hb.elim (fun hb => (h b hb).imp id fun h => ⟨h.1, by omega⟩) fun hb => .inr ⟨by omega, hb.2⟩
theorem ch_in {F F2 : Nat → Prop} {w u v : World} (hc : Ch F w u) (h : ∀ b, F2 b → more F w u b) (hc2 : Ch F2 u v) : Ch F w v := hc.trans hc2 fun i hi h2 => (h i h2).elim id fun h => by omega
theorem qeu {W H : Int} {T : TS} (h : Lim W H T) (l : List Ac) : Lim W H (l.foldl qcz T) := by
 induction l generalizing T with
 | nil => exact h
 | cons a l ih => exact ih (qin h a)
theorem qdZ {W H : Int} {T : TS} (h : Lim W H T) (p : PS) : Lim W H { T with parser := p } := h.flags rfl rfl rfl rfl rfl rfl rfl rfl rfl
theorem lim_feed {W H : Int} {T : TS} (h : Lim W H T) (c : Int) : Lim W H (qfO T c) := qeu (qdZ h _) _
theorem qiv {W H : Int} {T : TS} (h : Lim W H T) (s : ByteArray) (k : Nat) : Lim W H (qdj T s k) := by
 induction k with
 | zero => exact h
 | succ k ih => exact lim_feed ih _
theorem qr {c : Prop} [Decidable c] {a b : TS} {p : PS} (h1 : a.parser = p) (h2 : b.parser = p) : (if c then a else b).parser = p := by
 split <;> assumption
theorem qfh (T : TS) (n : Int) : (qaL T n).parser = T.parser := qr rfl rfl
theorem qev (T : TS) (x y : Int) : (qcN T x y).parser = T.parser := qr rfl rfl
theorem qc0 (T : TS) : (qay T).parser = T.parser := qr (qfh T 1) (qr rfl rfl)
theorem upT_p (T : TS) : (upT T).parser = T.parser := qr rfl (qr rfl rfl)
theorem printT_p (T : TS) (r : Int) : (qd8 T r).parser = T.parser := by
 have hA : ∀ T, (qbB T).parser = T.parser := fun T => qr (qc0 _) rfl
 have hB : ∀ T n, (qbj T n).parser = T.parser := fun T n => qr (qr (qc0 _) rfl) rfl
 have hC : ∀ T n, (qbt T n).parser = T.parser := fun T n => qr rfl rfl
 have hE : ∀ T n, (qdK T n).parser = T.parser := fun T n => qr rfl rfl
 unfold qd8
 rw [hE]
 exact (hC _ _).trans ((hB _ _).trans (hA _))
theorem execT_p (T : TS) (c : Int) : (qbX T c).parser = T.parser :=
 qr rfl (qr rfl (qr (qc0 T) (qr (qc0 T) (qr (qc0 T) (qr rfl (qr rfl (qr rfl rfl)))))))
theorem escT_p (T : TS) (a : Ac) : (qdU T a).parser = T.parser :=
 qr (qr rfl rfl) (qr (qr rfl rfl) (qr rfl (qr rfl (qr rfl (qr (qc0 T) (qr (qc0 T) (qr (upT_p T) (qr rfl (qr rfl rfl)))))))))
theorem qew (T : TS) (s : ByteArray) : (qcd T s).parser = T.parser := qr rfl rfl
theorem tellT_p (T : TS) (c k : Int) : (qbv T c k).parser = T.parser := qr rfl (qr rfl (qr rfl (qr (qew _ _) (qr (qew _ _) (qr (qew _ _) rfl)))))
theorem eraseN_p (T : TS) (k x y : Int) (s : Sty) (a : Int) (j : Nat) : (qcL T k x y s a j).parser = T.parser := by
 induction j with
 | zero => rfl
 | succ j ih => exact (qr rfl (qr rfl (qr rfl rfl)) : (qap (qcL T k x y s a j) k x y s (a + (j : Int))).parser = _).trans ih
theorem qex (T : TS) (k a b : Int) : (qdT T k a b).parser = T.parser := eraseN_p _ _ _ _ _ _ _
theorem editT_p (T : TS) (c n : Int) (l : List Int) : (qat T c n l).parser = T.parser :=
 qr rfl (qr rfl (qr rfl (qr (qex _ _ _ _) (qr (qr (qex _ _ _ _) (qex _ _ _ _)) (qr (qr rfl rfl) (qr (qr rfl rfl) (qr (qfh _ _) (qr rfl (tellT_p _ _ _)))))))))
theorem plainT_p (T : TS) (c : Int) (l : List Int) : (qU T c l).parser = T.parser :=
 qr rfl (qr rfl (qr rfl (qr rfl (qr rfl (qr (qev _ _ _) (qr (qev _ _ _) (qr rfl (qr (qr (qev _ _ _) rfl) (editT_p _ _ _ _)))))))))
theorem turnT_p (T : TS) (b : Bool) : (qik T b).parser = T.parser := qr rfl (qr rfl rfl)
theorem modeT_p (T : TS) (n : Int) (b : Bool) : (qaA T n b).parser = T.parser := qr (qev _ _ _) (qr rfl (qr rfl (qr (turnT_p _ _) rfl)))
theorem modes_p (T : TS) (l : List Int) (b : Bool) : (l.foldl (fun T n => qaA T n b) T).parser = T.parser := by
 induction l generalizing T with
 | nil => rfl
 | cons n l ih => exact (ih _).trans (modeT_p _ _ _)
theorem csiT_p (T : TS) (a : Ac) : (qhn T a).parser = T.parser := qr (plainT_p _ _ _) (qr (modes_p _ _ _) rfl)
theorem actT_p (T : TS) (a : Ac) : (qcz T a).parser = T.parser := qr (printT_p _ _) (qr (execT_p _ _) (qr (escT_p _ _) (qr (csiT_p _ _) (qr (qr rfl rfl) rfl))))
theorem acts_p (T : TS) (l : List Ac) : (l.foldl qcz T).parser = T.parser := by
 induction l generalizing T with
 | nil => rfl
 | cons a l ih => exact (ih _).trans (actT_p _ _)
theorem feedT_p (T : TS) (c : Int) : (qfO T c).parser = (qaz T.parser c).1 := acts_p _ _
theorem qh7 {T : TS} (h : T.parser.lim) (s : ByteArray) (k : Nat) : (qdj T s k).parser.lim := by
 induction k with
 | zero => exact h
 | succ k ih => exact (feedT_p _ _) ▸ (qgi ih (qc2 s _)).1
def zeroT : TS := { grid := ⟨0, 0, []⟩, other := ⟨0, 0, []⟩, cursor := cur0, saved := cur0, away := cur0, top := 0, bot := 0, tabs := fun _ => false, wrap := false, origin := false, insert := false, hidden := false, draw0 := false, draw1 := false, shift := false, alt := false, title := ByteArray.empty, back := [], parser := ⟨0, ⟨0, 0, 0, 0⟩, ByteArray.empty, [], ByteArray.empty, 0⟩, reply := ByteArray.empty }
theorem qgj (p1 p2 : Int) (w : World) (hT : LT w) (h7 : gTop ≤ w.heap.size) : Calls Tryz.prog 10 [iX p1, iX p2].toArray w fun e w' => ∃ t, e = .returned (pX t) ∧ TermAt w' t (startT zeroT p1 p2) (fun b => w.heap.size ≤ b ∧ b < w'.heap.size) ∧ Ch (fun _ => False) w w' := by
 refine yA Tryz.func10 rfl <| yx 1 <| ysr <| yq 1 <| yo (yN [.pointer none, .pointer none, iX 0, iX 0, .bool false, .bool false, .bool false, .bool false, iX 0, iX 0, iX 0, iX 0, .bool false, .bool false, .bool false, .bool false, iX 0, iX 0, iX 0, iX 0, .bool false, .bool false, .bool false, .bool false, iX 0, iX 0, iX 0, iX 0, .bool false, .bool false, .bool false, .bool false, .bool false, .bool false, .bool false, .bool false, .bool false, .bool false, .bool false, .bool false, .bool false, .bool false, .bool false, .bool false, .bool false, .bool false, .bool false, .bool false, .bool false, .bool false, .bool false, .bool false, .bool false, .bool false, .bool false, .bool false, .bool false, .bool false, .bool false, .bool false, .bool false, .bool false, .bool false, .bool false, .bool false, .bool false, .bool false, .bool false, .bool false, .bool false, .bool false, .bool false, .bool false, .bool false, .bool false, .bool false, .bool false, .bool false, .bool false, .bool false, .bool false, .bool false, .bool false, .bool false, .bool false, .bool false, .bool false, .bool false, .bool false, .bool false, .bool false, .bool false, .bool false, .bool false, .bool false, .bool false, oX, nX, iX 0, uX 0, uX 0, uX 0, iX 0, oX, nX, oX, iX 0, oX] 46 fun d a j p k l => ?_); have q := zn j (zm w); have c := zu (zm w) l iZ; refine yz 3 <| ysr <| yq 3 ?_; have f : Blk d a (zeroT.valsG (.pointer none) (.pointer none) (nX) (nX)) qbo := Blk.to k (by kernel_rfl); have r := zzs c
 have m : PsAt d a none 0 0 zeroT.parser.params (fun _ => False) := ⟨⟨Rd.nil _ _, rfl, fun _ => rfl, fun ad e => by cases e⟩, ⟨none, rfl⟩, fun b h => h.elim⟩
 have n := qq (Up.ch c) hT (fun _ h => h.elim); refine yo (yQ (qff f m (by omega) n (by decide) p1 p2) ?_); rintro s ⟨o, g⟩; refine ye <| yx 2 <| q8 (yR1 (pX a) ?_); refine ⟨a, rfl, TermAt.mono o (fun b hb => ?_) (fun b hb => ⟨hb.2, by omega⟩), zt (Up.ch c) g (fun i hi h => ?_)⟩
 ·have hz := zzs g; rcases hb with rfl | hb | hb
  ·exact ⟨by omega, by have := f.lt; omega⟩
  ·exact hb.elim
  exact ⟨by omega, hb.2⟩
 rcases h with rfl | h
 ·omega
 exact h
theorem qiw {X : PS × List Ac} {w : World} {po : Option Nat} {pn pc : Nat} {p : PS} {c : Int} (hX : qaz p c = X) (hP : IntsAt w .i64 po pn pc p.params (fun b => po = some b)) (hcB : 0 ≤ c ∧ c ≤ 255) (hU : qc9 w) (hp : p.lim) (hn8 : pn ≤ 8) : Calls Tryz.prog 34 [.agg #[iX p.state, uX p.utf.b0, uX p.utf.b1, uX p.utf.b2, iX p.utf.n, .string p.marks, .slice (po.map at0) pn pc, .string p.text, iX p.within], uX c].toArray w fun e w' => Fed w w' e po X.1 X.2 := by
 subst hX; exact feed_any hP c hcB hU hp hn8
theorem write_at {w : World} {t : Nat} {W H : Int} {T : TS} {F : Nat → Prop} (hA0 : TermAt w t T F) (hT : LT w) (hL : Lim W H T) (hp : T.parser.lim) (s : ByteArray) (hs : s.size ≤ 1000000) : Calls Tryz.prog 13 [pX t, .string s].toArray w fun e w' => e = .returned (.tuple #[]) ∧ TermAt w' t (qis T s) (more F w w') ∧ Ch F w w' := by
 obtain ⟨g, o, ba, bn, bc, pa, pn, pc, F1, r, FB, FP, hI⟩ := hA0; have hA0 : TermAt w t T F := ⟨g, o, ba, bn, bc, pa, pn, pc, F1, r, FB, FP, hI⟩
 have l := hI.inF.1; obtain ⟨gv, cA⟩ := hI.g1.head; have cB : Df t g := fun e => hI.t1 (e ▸ hI.g1.inF); obtain ⟨⟨cC, cD⟩, ⟨cE, cF⟩, cG, cH⟩ := hI.g1.ok; have bf := hL; have cI := bf.all; refine yA Tryz.func13 rfl <| yx 3 <| qa ?_; have az := hI.cht (Ch.refl (· = t) w); have bg := hI.pk1 hI az; refine qa2 [0, 1, 9, 10] (f' := [(0, pX t), (1, .string s), (9, iX ((s).size : Int)), (10, iX 0)]) <| qG (σ := Nat) (fun k => [(0, pX t), (1, .string s), (9, iX ((s).size : Int)), (10, iX ((k : Nat) : Int))]) (fun k u => k ≤ s.size ∧ (TermAt u t (qdj T s k) (more F w u) ∧ Ch F w u)) (fun k => s.size - k) 0 rfl ?_ ?_
 ·exact ⟨Nat.zero_le _, (TermAt.eq' bg rfl), az⟩
 intro k ah bh cJ aA; obtain ⟨hk, aB, ai⟩ := bh; have bi := qq ai hT (fun b hb => hI.hi b hb); have aj : Lim W H (qdj T s k) := (qiv hL s k)
 generalize U : (qdj T s k) = y at aB aj; have bj := aj; have cK := bj.all; obtain ⟨ak, bk, bl, bm, bo, cL, cM, cN, cO, cP, cQ, cR, C⟩ := aB; obtain ⟨cS, cT⟩ := C.g1.head; have cU : Df t ak := fun e => C.t1 (e ▸ C.g1.inF); obtain ⟨bp, bq, br, V⟩ := C.ints; subst bq; refine yx 1 <| ys <| yc (rL ((k : Nat) : Int) ((s).size : Int)) (fun bs => ?_) fun bs => ?_
 ·refine yk <| ys <| qa <| yx 2 <| yx 1 <| ys <| yD [8, 14] fun D cV Y => ?_; have N := zt (Ch.refl (· = t) ah) Y eZ; have aC := qq Y bi (fun _ h => h.elim); have Z := C.blk.ch Y id; have aD := br.ch Y iZ; refine yd (uL 0 8) [] (.a (Z.cs 98 9) (.i ((k : Nat) : Int) ((s).size) .z)) ?_; have cW := C.scalar (T' := y) N Z rfl rfl rfl rfl; have aE := C.scalar (T' := y) N Z rfl rfl rfl rfl; have O := Ch.on ai N l; have cX := aE.pk2 N hI O; have bu := aE.mono (F' := more F w D) (fun b hb => hb.elim .inl (fun x => .inr ⟨x.1, by have := zzs N; omega⟩)) (hI.moreOk O.size); obtain ⟨d, a0⟩ : ∃ X, qaz y.parser (bt s ((k : Nat) : Int)) = X := ⟨_, rfl⟩
  have a1 : (y.parser).lim := (U ▸ qh7 hp s k)
  have aF := qgi a1 (qc2 s ((k : Nat) : Int)); have bv := fed_len a1 (bt s ((k : Nat) : Int)); rw [a0] at aF bv; refine yK 8 (yC ((qiw a0 (p := y.parser) aD (qc2 s _) aC.ut a1 (by have := a1.n; have := aD.2.1; omega))) ?_); rintro _ al ⟨E, aG, aH, bw, c, a2, rfl, aI, bx, P⟩; refine ⟨_, rfl, ?_⟩; have cY := zzs P; have bz := qq P aC (fun _ h => h.elim); have bA := Z.ch P id; refine q9 <| yd (uL 9 5) [] .z ?_; have a3 := bu.same P iZ; refine yK 14 (qY 98 [iX d.1.state, uX d.1.utf.b0, uX d.1.utf.b1, uX d.1.utf.b2, iX d.1.utf.n, .string d.1.marks, .slice (E.map at0) aG aH, .string d.1.text, iX d.1.within] none (by kernel_rfl) bA (qbb (by kernel_rfl)) ?_); intro q am A; replace am : Blk q t (TS.vals ({ y with parser := d.1 } : TS) ak bk (.slice bl bm bo) (.slice (E.map at0) aG aH)) qbo := Blk.to am (by kernel_rfl); have ap : ∀ b, E = some b → bp = some b ∨ (D.heap.size ≤ b ∧ b < al.heap.size) := fun b e => (aI.2.2.2 b e).1; have G : ∀ b, more F w D b → b < D.heap.size ∧ gTop ≤ b := hI.moreOk O.size; have cZ : ∀ b, E = some b → ¬ b = t := fun b e h => (ap b e).elim (fun x => a3.tP (h ▸ V b x)) (fun x => by have := (G t (.inl l)).1; omega); have bB := aI.ch A (fun b hb (h : b = t) => hb.elim (fun x => a3.tP (h ▸ V b x)) (fun x => by have := (G t (.inl l)).1; omega)); have f := a3.newPs A (p' := d.1) am bB (fun b e => (ap b e).imp (fun h => V b h) (fun h => ⟨fun x => by have := (G b x).1; omega, by have := (G t (.inl l)).2; have := (G t (.inl l)).1; omega⟩))
  obtain ⟨r, aq⟩ : ∃ F' : Nat → Prop, F' = fun b => more F w D b ∨ E = some b := ⟨_, rfl⟩
  rw [← aq] at f; have a4 : ∀ b, r b → more F w q b := fun b hb => by
   rw [aq] at hb; rcases hb with hb | hb
   ·exact hb.imp id fun h => ⟨h.1, by have := zzs A; omega⟩
   rcases ap b hb with h | h
   ·exact (a3.inF.2.2.2.2 b (V b h)).imp id fun h => ⟨h.1, by have := zzs A; omega⟩
   exact .inr ⟨by have := zzs O; omega, by have := zzs A; omega⟩
  have J : Ch F w q := zt (zt O P eZ) A (fun i _ h => h ▸ l); have ar : ∀ b, ((D.heap.size ≤ b ∧ b < al.heap.size) ∧ E ≠ some b) → b < q.heap.size := fun b hb => by have := zzs A; omega
  have aJ : ∀ b, ((D.heap.size ≤ b ∧ b < al.heap.size) ∧ E ≠ some b) → ¬ r b := fun b hb h => by
   rw [aq] at h; rcases h with h | h
   ·have := (G b h).1; omega
   exact hb.2 h
  have bC := qq A bz (fun b (h : b = t) => h ▸ hI.hi t l); have a5 := bx.ch A (fun b hb (h : b = t) => by have := (G t (.inl l)).1; omega); have Q : r t := f.inF.1; have aK : TermAt q t ({ y with parser := d.1 } : TS) r := ⟨_, _, _, _, _, _, _, _, _, _, _, _, f⟩
  have au : Lim W H ({ y with parser := d.1 } : TS) := qdZ aj _; generalize aL : ({ y with parser := d.1 } : TS) = T68 at f aK au; obtain ⟨d0, d1⟩ := f.g1.head; have d2 : Df t ak := fun e => f.t1 (e ▸ f.g1.inF); refine q9 <| yd [15] [] .z <| yDe (nS ?_); refine yx 3 <| qa ?_; rcases bw with _ | ab
  ·have av : d.2.length = c := a5.len; have d3 : c = 0 := by
    obtain ⟨d4, h1, x, h3⟩ := a5.ex; exact (h1.2.2.2.1 rfl).1
   have aM := f.cht (Ch.refl (· = t) q); have bE := f.pk1 f aM; refine qa2 [0, 1, 9, 10, 27, 28, 29] (f' := [(0, pX t), (1, .string s), (9, iX ((s).size : Int)), (10, iX ((k : Nat) : Int)), (27, .slice none c a2), (28, iX ((c : Nat) : Int)), (29, iX 0)]) <| qG (σ := Nat) (fun j => [(0, pX t), (1, .string s), (9, iX ((s).size : Int)), (10, iX ((k : Nat) : Int)), (27, .slice none c a2), (28, iX ((c : Nat) : Int)), (29, iX ((j : Nat) : Int))]) (fun j v => j ≤ c ∧ (TermAt v t ((d.2.take j).foldl qcz T68) (more r q v) ∧ Ch r q v)) (fun j => c - j) 0 rfl ?_ ?_
   ·exact ⟨Nat.zero_le _, (TermAt.eq' bE rfl), aM⟩
   intro j a6 bF d6 d7; obtain ⟨hj, aN, bG⟩ := bF; have aw : Lim W H ((d.2.take j).foldl qcz T68) := (qeu au _)
   generalize bH : ((d.2.take j).foldl qcz T68) = T83 at aN aw; have bI := aw; have d8 := bI.all; obtain ⟨bJ, d9, da, db, dc, dd, de, df, dg, dh, di, dj, a7⟩ := aN; obtain ⟨dk, dl⟩ := a7.g1.head; have dm : Df t bJ := fun e => a7.t1 (e ▸ a7.g1.inF); refine yx 1 <| ys <| yc (rL ((j : Nat) : Int) ((c : Nat) : Int)) (fun bK => ?_) fun bK => ?_
   ·exfalso; omega
   have ax : j = c := by omega
   have a8 := Ch.on bG (Ch.refl (· = t) a6) Q; have bL := a7.pk2 (Ch.refl (· = t) a6) f a8; have aO := bL.mono (qiu a4 (zzs J) (zzs a8)) (hI.moreOk (Nat.le_trans (zzs J) (zzs a8))); have bM := ch_in J a4 a8; have aP : Lim W H T83 := aw; generalize bN : T83 = T92 at aO aP; have bO := aP; have dn := bO.all; obtain ⟨bP, dp, dq, dr, ds, dt, du, dv, dw, dx, dy, dz, a9⟩ := aO; obtain ⟨dA, dB⟩ := a9.g1.head; have dC : Df t bP := fun e => a9.t1 (e ▸ a9.g1.inF); refine qv (eS (qe (qb (nB (nS ?_))))); refine q7 <| yp 2 [] (.q6 (((k : Nat) : Int) + 1) .z) ?_; have aQ := Ch.on bM (Ch.refl (· = t) a6) l; have bQ := a9.pk2 (Ch.refl (· = t) a6) hI aQ; refine yE (fun a ha => aA (k + 1) _ ⟨(by omega), (TermAt.eq' bQ (by subst bN; subst bH; subst aL; subst U; show qfO _ _ = _; unfold qfO; rw [a0, ax, ← av, List.take_length])), aQ⟩ (by show s.size - (k + 1) < s.size - k; omega) a (ha.kp [0, 1, 9, 10]))
  have av : d.2.length = c := a5.len; have aR := f.cht (Ch.refl (· = t) q); have bR := f.pk1 f aR; refine qa2 [0, 1, 9, 10, 27, 28, 29] (f' := [(0, pX t), (1, .string s), (9, iX ((s).size : Int)), (10, iX ((k : Nat) : Int)), (27, .slice (some ⟨ab, 0, none⟩) c a2), (28, iX ((c : Nat) : Int)), (29, iX 0)]) <| qG (σ := Nat) (fun j => [(0, pX t), (1, .string s), (9, iX ((s).size : Int)), (10, iX ((k : Nat) : Int)), (27, .slice (some ⟨ab, 0, none⟩) c a2), (28, iX ((c : Nat) : Int)), (29, iX ((j : Nat) : Int))]) (fun j v => j ≤ c ∧ (TermAt v t ((d.2.take j).foldl qcz T68) (more r q v) ∧ Ch r q v)) (fun j => c - j) 0 rfl ?_ ?_
  ·exact ⟨Nat.zero_le _, (TermAt.eq' bR rfl), aR⟩
  intro j I bS dD bT; obtain ⟨hj, aS, K⟩ := bS; have bU := qq K bC (fun b hb => f.hi b hb); have bV := a5.ch K (fun b hb h => aJ b hb h); have R : Lim W H ((d.2.take j).foldl qcz T68) := (qeu au _)
  generalize aT : ((d.2.take j).foldl qcz T68) = L at aS R; have bW := R; have dE := bW.all; obtain ⟨bX, dF, dG, dH, dI, dJ, dK, dL, dM, dN, dO, dP, B⟩ := aS; obtain ⟨dQ, dR⟩ := B.g1.head; have dS : Df t bX := fun e => B.t1 (e ▸ B.g1.inF); refine yx 1 <| ys <| yc (rL ((j : Nat) : Int) ((c : Nat) : Int)) (fun bY => ?_) fun bY => ?_
  ·obtain ⟨ac, ao, an, cc, aU, bZ, c0, c1, c2, c3, c4, c5⟩ := bV.at (j := j) (by omega); have ay := aF.2 ac (List.mem_of_getElem? aU); refine yk <| ys <| qa <| ysr <| yp 2 [] (.i ((j : Nat) : Int) (c) (.m c0 (.m c1 (.m c2 (.m c3 (.m c4 (.m c5 (.e .z)))))))) <| yo (yN [iX 0, rX 0, uX 0, oX, nX, oX] 90 fun dT S c6 dU c7 aa => ?_); have dV : I.heap.size ≤ S := by rw [c6]; exact zzs (Ch.refl (· = t) I)
   have c8 := zt (Ch.refl (· = t) I) aa eZ; have c9 := qq aa bU (fun _ h => h.elim); have ca := B.blk.ch aa id; have cb := bZ.ch aa iZ; refine yo (yT [iX ac.kind, rX ac.rune, uX ac.last, .string ac.marks, .slice (ao.map at0) an cc, .string ac.text] c7 fun aV cd ad => ?_); have M := zt c8 ad (fun i hi (h : i = S) => by omega); have ce := qq ad c9 (fun b (h : b = S) => by have := hI.hi t l; have := B.blk.lt; omega); have aW := ca.ch ad (fun (h : t = S) => by have := B.blk.lt; omega); have cf := cb.ch ad (fun b hb (h : b = S) => by have := ar b hb; have := zzs K; omega); refine ye <| q7 <| yp 2 [] (.a (cd.cs 0 6) .z) ?_; have cg := B.scalar (T' := L) M aW rfl rfl rfl rfl; have aX := Ch.on K M Q; have dW := cg.pk2 M f aX; have aY := cf.mono (K' := fun b => ¬ more r q aV b ∧ b < aV.heap.size) (fun b hb => ⟨fun h => h.elim (aJ b hb) (fun h => by have := ar b hb; omega), by have := ar b hb; have := zzs aX; omega⟩); have ci := B.scalar (T' := L) M aW rfl rfl rfl rfl; have aZ := Ch.on K M Q; have cj := ci.pk2 M f aZ; refine yo (yQ (act_at cj ce R  aY (by have := ay.n; have := aY.2.1; omega) ay.b (by have := ay.t; omega)) ?_); rintro b3 ⟨ck, cl⟩; obtain ⟨b4, cm⟩ := TermAt.next aK aZ cl ck; have b5 : Lim W H (qcz L ac) := (qin R ac)
   generalize cn : (qcz L ac) = T150 at b4 b5; have co := b5; have dX := co.all; obtain ⟨cp, dY, dZ, e0, e1, e2, e3, e4, e5, e6, e7, e8, ae⟩ := b4; obtain ⟨e9, ea⟩ := ae.g1.head; have eb : Df t cp := fun e => ae.t1 (e ▸ ae.g1.inF); refine yE (nB (nS ?_)); refine q7 <| yp 2 [] (.q6 (((j : Nat) : Int) + 1) .z) ?_; have b6 := Ch.on cm (Ch.refl (· = t) b3) Q; have cq := ae.pk2 (Ch.refl (· = t) b3) f b6; refine yE (fun a ha => bT (j + 1) _ ⟨(by omega), (TermAt.eq' cq (by subst cn; subst aT; exact qit aU _)), b6⟩ (by show c - (j + 1) < c - j; omega) a (ha.kp [0, 1, 9, 10, 27, 28, 29]))
  have ax : j = c := by omega
  have af := Ch.on K (Ch.refl (· = t) I) Q; have cr := B.pk2 (Ch.refl (· = t) I) f af; have b7 := cr.mono (qiu a4 (zzs J) (zzs af)) (hI.moreOk (Nat.le_trans (zzs J) (zzs af))); have ct := ch_in J a4 af; have b8 : Lim W H L := R; generalize cu : L = T160 at b7 b8; have cv := b8; have ec := cv.all; obtain ⟨cw, ed, ee, ef, eg, eh, ei, ej, ek, el, em, en, ag⟩ := b7; obtain ⟨eo, ep⟩ := ag.g1.head; have er : Df t cw := fun e => ag.t1 (e ▸ ag.g1.inF); refine qv (eS (qe (qb (nB (nS ?_))))); refine q7 <| yp 2 [] (.q6 (((k : Nat) : Int) + 1) .z) ?_; have b9 := Ch.on ct (Ch.refl (· = t) I) l; have cx := ag.pk2 (Ch.refl (· = t) I) hI b9; refine yE (fun a ha => aA (k + 1) _ ⟨(by omega), (TermAt.eq' cx (by subst cu; subst aT; subst aL; subst U; show qfO _ _ = _; unfold qfO; rw [a0, ax, ← av, List.take_length])), b9⟩ (by show s.size - (k + 1) < s.size - k; omega) a (ha.kp [0, 1, 9, 10]))
 have cy : k = s.size := by omega
 refine qv (eS (qe (qb (qB ?_)))); have bb := Ch.on ai (Ch.refl (· = t) ah) l; have cz := C.pk2 (Ch.refl (· = t) ah) hI bb; subst U; subst cy; exact ⟨rfl, cz, bb⟩
theorem qdk {α : Type} {l m : List α} {k : Nat} (h : l.take k = m.take k) (h1 : k < l.length) (h2 : k < m.length) (he : l[k] = m[k]) : l.take (k + 1) = m.take (k + 1) := by
 rw [List.take_succ_eq_append_getElem h1, List.take_succ_eq_append_getElem h2, h, he]
theorem ne_at {α : Type} {l m : List α} {k : Nat} (h1 : k < l.length) (h2 : k < m.length) (he : l[k] ≠ m[k]) : l ≠ m := fun e => he (by subst e; rfl)
theorem gc_at {l : List Cel} {k : Nat} (h : k < l.length) : gc l ((k : Nat) : Int) = l[k] := by simp [gc, List.getD, List.getElem?_eq_getElem h]
def eqLB (l m : List Cel) : Bool := decide (l = m)
def eqRB (l m : List (List Cel)) : Bool := decide (l = m)
theorem eqLB_t {l m : List Cel} (h : l = m) : eqLB l m = true := decide_eq_true h
theorem eqLB_f {l m : List Cel} (h : l ≠ m) : eqLB l m = false := decide_eq_false h
theorem eqRB_t {l m : List (List Cel)} (h : l = m) : eqRB l m = true := decide_eq_true h
theorem eqRB_f {l m : List (List Cel)} (h : l ≠ m) : eqRB l m = false := decide_eq_false h
def grB (G G' : Gr) : Bool := decide (G.w = G'.w) && (decide (G.h = G'.h) && eqRB G.lines G'.lines)
theorem grB_t {G G' : Gr} (h1 : G.w = G'.w) (h2 : G.h = G'.h) (h3 : G.lines = G'.lines) : grB G G' = true := by simp [grB, h1, h2, eqRB_t h3]
theorem grB_refl (G : Gr) : grB G G = true := grB_t rfl rfl rfl
theorem grB_w {G G' : Gr} (h : G.w ≠ G'.w) : grB G G' = false := by simp [grB, h]
theorem grB_h {G G' : Gr} (h : G.h ≠ G'.h) : grB G G' = false := by simp [grB, h]
theorem grB_l {G G' : Gr} (h : G.lines ≠ G'.lines) : grB G G' = false := by simp [grB, eqRB_f h]
theorem qfi {rows : List Row} {L : List (List Cel)} (h : rows.map Row.l = L) {k : Nat} {x : Row} (hx : rows[k]? = some x) : ∃ hk : k < L.length, L[k] = x.l := by
 subst h
 obtain ⟨hk, rfl⟩ := List.getElem?_eq_some_iff.1 hx
 exact ⟨by simpa using hk, by simp⟩
theorem qfj {rows : List Row} {k : Nat} (h : k < rows.length) : ∃ x, rows[k]? = some x := ⟨_, List.getElem?_eq_getElem h⟩
theorem qfk {w : World} {b off : Nat} {rows : List Row} (h : Rd w (some ⟨b, off, none⟩) (rows.map Row.val)) {k : Nat} {x : Row} (hx : rows[k]? = some x) : w.cell? ⟨b, off + ((k : Nat) : Int).toNat * 1, none⟩ = some x.val := by
 rw [Int.toNat_natCast, Nat.mul_one]
 exact qbe h k _ (by rw [List.getElem?_map, hx]; rfl)
theorem qbF (a b : Cel) : (((a.rune : Int) == b.rune) && (((a.sty.bold == b.sty.bold) && ((a.sty.under == b.sty.under) && ((a.sty.turned == b.sty.turned) && (((a.sty.fore : Int) == b.sty.fore) && (((a.sty.back : Int) == b.sty.back) && true))))) && true)) = (a == b) := qhO a b
theorem eqcells0 (b1 b2 c1 c2 : Nat) (l m : List Cel) (w : World) (h1 : Rd w (some ⟨b1, 0, none⟩) (flat l)) (h2 : Rd w (some ⟨b2, 0, none⟩) (flat m)) (hl : l.length ≤ maxLen) : Calls Tryz.prog 40 [.slice (some ⟨b1, 0, none⟩) l.length c1, .slice (some ⟨b2, 0, none⟩) m.length c2].toArray w fun e w' => e = .returned (.bool (eqLB l m)) ∧ Ch (fun _ => False) w w' := by
 simp only [maxLen] at hl; refine yA Tryz.func40 rfl <| yx 1 <| ys <| yx 5 <| yc (rI ((l.length : Nat) : Int) ((m.length : Nat) : Int)) (fun j => ?_) fun j => ?_
 ·have p := j; refine yx 1 <| q8 (rS (yR1 (.bool false) ?_)); refine ⟨?_, Up.ch (zm w)⟩; rw [eqLB_f (fun e => p (by rw [e]))]
 have C := j; refine yk <| ys <| yx 3 <| qa <| qa2 [0, 1, 12, 13] (f' := [(0, .slice (some ⟨b1, 0, none⟩) l.length c1), (1, .slice (some ⟨b2, 0, none⟩) m.length c2), (12, iX ((l.length : Nat) : Int)), (13, iX 0)]) <| qG (σ := Nat) (fun k => [(0, .slice (some ⟨b1, 0, none⟩) l.length c1), (1, .slice (some ⟨b2, 0, none⟩) m.length c2), (12, iX ((l.length : Nat) : Int)), (13, iX ((k : Nat) : Int))]) (fun k u => k ≤ l.length ∧ l.take k = m.take k ∧ Ch (fun _ => False) w u) (fun k => l.length - k) 0 rfl ?_ ?_
 ·exact ⟨Nat.zero_le _, rfl, Ch.refl _ _⟩
 intro k D q E r; obtain ⟨hk, n, f⟩ := q; have o := zu (zm w) f iZ; have s := Ch.rd f h1 id; have t := Ch.rd f h2 id; refine yx 1 <| ys <| yc (rL ((k : Nat) : Int) ((l.length : Nat) : Int)) (fun v => ?_) fun v => ?_
 ·refine yk <| ys <| qa <| yx 2 <| ys <| yD [] fun F G g => ?_; have x := zu o g iZ; have y := zt f g eZ; have b := Ch.rd g s id; have c := Ch.rd g t id; refine yd (uL 0 9) [] (.i ((k : Nat) : Int) (l.length) (.m (qdB (i := ((k : Nat) : Int)) b (by omega) (by omega)) (.m (qdC (i := ((k : Nat) : Int)) b (by omega) (by omega)) (.m (qcp (i := ((k : Nat) : Int)) b (by omega) (by omega)) (.m (qbK (i := ((k : Nat) : Int)) b (by omega) (by omega)) (.m (qdD (i := ((k : Nat) : Int)) b (by omega) (by omega)) (.m (qdE (i := ((k : Nat) : Int)) b (by omega) (by omega)) (.e (.i ((k : Nat) : Int) (m.length) (.m (qdB (i := ((k : Nat) : Int)) c (by omega) (by omega)) (.m (qdC (i := ((k : Nat) : Int)) c (by omega) (by omega)) (.m (qcp (i := ((k : Nat) : Int)) c (by omega) (by omega)) (.m (qbK (i := ((k : Nat) : Int)) c (by omega) (by omega)) (.m (qdD (i := ((k : Nat) : Int)) c (by omega) (by omega)) (.m (qdE (i := ((k : Nat) : Int)) c (by omega) (by omega)) (.e .z)))))))))))))))) <| yDe (nS ?_); refine yc (rN (rY ((((gc l ((k : Nat) : Int)).rune : Int) == (gc m ((k : Nat) : Int)).rune) && ((((gc l ((k : Nat) : Int)).sty.bold == (gc m ((k : Nat) : Int)).sty.bold) && (((gc l ((k : Nat) : Int)).sty.under == (gc m ((k : Nat) : Int)).sty.under) && (((gc l ((k : Nat) : Int)).sty.turned == (gc m ((k : Nat) : Int)).sty.turned) && ((((gc l ((k : Nat) : Int)).sty.fore : Int) == (gc m ((k : Nat) : Int)).sty.fore) && ((((gc l ((k : Nat) : Int)).sty.back : Int) == (gc m ((k : Nat) : Int)).sty.back) && true))))) && true)))) (fun d => ?_) fun d => ?_
  ·rw [qbF] at d; have h := d; refine yx 1 <| q8 (rB (rS (qcQ (rB (rS (yR1 (.bool false) ?_)))))); refine ⟨?_, Up.ch x⟩; rw [eqLB_f (ne_at (k := k) (by omega) (by omega) (fun e => by rw [← gc_at (by omega), ← gc_at (by omega)] at e; rw [e] at h; simp at h))]
  rw [qbF] at d; have h := eq_of_beq d; refine qk (nB (nS ?_)); refine q7 <| yp 2 [] (.q6 (((k : Nat) : Int) + 1) .z) <| yE (fun a ha => r (k + 1) _ ⟨by omega, qdk n (by omega) (by omega) (by rw [← gc_at (by omega), ← gc_at (by omega)]; exact h), y⟩ (by show l.length - (k + 1) < l.length - k; omega) a (ha.kp [0, 1, 12, 13]))
 have A : k = l.length := by omega
 refine qv (eS (qe (qb (nS ?_)))); refine yx 1 <| q8 (yR1 (.bool true) ?_); refine ⟨?_, Up.ch o⟩; have B : m.length = l.length := by omega
 rw [eqLB_t (by rw [A, List.take_length, ← B, List.take_length] at n; exact n)]
theorem qfP (b1 b2 c1 c2 : Nat) {n1 n2 : Nat} (l m : List Cel) (w : World) (h1 : Rd w (some ⟨b1, 0, none⟩) (flat l)) (h2 : Rd w (some ⟨b2, 0, none⟩) (flat m)) (hl : l.length ≤ maxLen) (e1 : l.length = n1) (e2 : m.length = n2) : Calls Tryz.prog 40 [.slice (some ⟨b1, 0, none⟩) n1 c1, .slice (some ⟨b2, 0, none⟩) n2 c2].toArray w fun e w' => e = .returned (.bool (eqLB l m)) ∧ Ch (fun _ => False) w w' := by
 subst e1 e2; exact eqcells0 b1 b2 c1 c2 l m w h1 h2 hl
theorem gsame0 {w : World} (g1 r1 rc1 : Nat) (rows1 : List Row) (G1 : Gr) (M1 : List (List Cel)) (hM1 : rows1.map Row.l = M1) (hG1 : G1.lines = M1) (hh1 : Blk w g1 [iX G1.w, iX G1.h, .slice (some ⟨r1, 0, none⟩) rows1.length rc1] qeb) (hb1 : Rd w (some ⟨r1, 0, none⟩) (rows1.map Row.val)) (hl1 : ∀ x ∈ rows1, LineAt w x.b x.l x.cap ∧ x.l.length = x.n) (hn1 : rows1.length = G1.h.toNat) (hk10 : 1 ≤ G1.h ∧ G1.h ≤ 60) (g2 r2 rc2 : Nat) (rows2 : List Row) (G2 : Gr) (M2 : List (List Cel)) (hM2 : rows2.map Row.l = M2) (hG2 : G2.lines = M2) (hh2 : Blk w g2 [iX G2.w, iX G2.h, .slice (some ⟨r2, 0, none⟩) rows2.length rc2] qeb) (hb2 : Rd w (some ⟨r2, 0, none⟩) (rows2.map Row.val)) (hl2 : ∀ x ∈ rows2, LineAt w x.b x.l x.cap ∧ x.l.length = x.n) (hn2 : rows2.length = G2.h.toNat) (hk20 : 1 ≤ G2.h ∧ G2.h ≤ 60) : Calls Tryz.prog 17 [pX g1, pX g2].toArray w fun e w' => e = .returned (.bool (grB G1 G2)) ∧ Ch (fun _ => False) w w' := by
 refine yA Tryz.func17 rfl <| yx 1 <| ys <| ys <| yD [] fun q ah g => ?_; have r := zu (zm w) g iZ; have o := hh1.ch g id; have s := hh2.ch g id; have W := Ch.rd g hb1 id; have X := Ch.rd g hb2 id; have J : ∀ x ∈ rows1, LineAt q x.b x.l x.cap ∧ x.l.length = x.n := fun x hx => ⟨(hl1 x hx).1.ch g id, (hl1 x hx).2⟩
 have K : ∀ x ∈ rows2, LineAt q x.b x.l x.cap ∧ x.l.length = x.n := fun x hx => ⟨(hl2 x hx).1.ch g id, (hl2 x hx).2⟩
 refine yd (uL 0 10) [] (.l (o.c 0) (.l (s.c 0) .z)) <| yv [15] (rI G1.w G2.w) (fun t => ?_) fun t => ?_
 ·have v := t; refine yd (uL 10 10) [] .z <| yDe (nS ?_); refine yct <| yx 1 <| q8 (rS (yR1 (.bool false) ?_)); refine ⟨?_, Up.ch r⟩; rw [grB_w v]
 have v : G1.w = G2.w := by have := t; omega
 refine yd (uL 10 10) [] (.l (o.c 1) (.l (s.c 1) .z)) <| yDe (nS ?_); refine yc (rI G1.h G2.h) (fun y => ?_) fun y => ?_
 ·have A := y; refine yx 1 <| q8 (rS (yR1 (.bool false) ?_)); refine ⟨?_, Up.ch r⟩; rw [grB_h A]
 have A : G1.h = G2.h := by have := y; omega
 refine yk <| ys <| ysr <| yp 5 [] (.l (o.c 1) .z) <| ye <| qa <| qa2 [0, 1, 29, 30] (f' := [(0, pX g1), (1, pX g2), (29, iX G1.h), (30, iX 0)]) <| qG (σ := Nat) (fun k => [(0, pX g1), (1, pX g2), (29, iX G1.h), (30, iX ((k : Nat) : Int))]) (fun k u => k ≤ rows1.length ∧ M1.take k = M2.take k ∧ Ch (fun _ => False) q u) (fun k => rows1.length - k) 0 rfl ?_ ?_
 ·exact ⟨Nat.zero_le _, rfl, Ch.refl _ _⟩
 intro k L Y ai Z; obtain ⟨hk, B, d⟩ := Y; have M := zu r d iZ; have a0 := o.ch d id; have a1 := s.ch d id; have a2 := Ch.rd d W id; have a3 := Ch.rd d X id; have N : ∀ x ∈ rows1, LineAt L x.b x.l x.cap ∧ x.l.length = x.n := fun x hx => ⟨(J x hx).1.ch d id, (J x hx).2⟩
 have O : ∀ x ∈ rows2, LineAt L x.b x.l x.cap ∧ x.l.length = x.n := fun x hx => ⟨(K x hx).1.ch d id, (K x hx).2⟩
 refine yx 1 <| ys <| yc (rL ((k : Nat) : Int) G1.h) (fun a4 => ?_) fun a4 => ?_
 ·obtain ⟨j, C⟩ := qfj (rows := rows1) (k := k) (by omega); obtain ⟨m, D⟩ := qfj (rows := rows2) (k := k) (by omega); obtain ⟨P, Q⟩ := qfi hM1 C; obtain ⟨R, S⟩ := qfi hM2 D; refine yk <| ys <| qa <| yx 2 <| ys <| yD [14] fun T aj f => ?_; have a5 := zu M f iZ; have a6 := zt d f eZ; have a7 := a0.ch f id; have a8 := a1.ch f id; have a9 := Ch.rd f a2 id; have aa := Ch.rd f a3 id; have E : ∀ x ∈ rows1, LineAt T x.b x.l x.cap ∧ x.l.length = x.n := fun x hx => ⟨(N x hx).1.ch f id, (N x hx).2⟩
  have F : ∀ x ∈ rows2, LineAt T x.b x.l x.cap ∧ x.l.length = x.n := fun x hx => ⟨(O x hx).1.ch f id, (O x hx).2⟩
  refine yd (uL 0 14) [] (.l (a7.c 2) (.i ((k : Nat) : Int) (rows1.length) (.l (qfk a9 C) (.l (a8.c 2) (.i ((k : Nat) : Int) (rows2.length) (.l (qfk aa D) .z)))))) ?_; obtain ⟨G, ab⟩ := E j (List.mem_of_getElem? C); obtain ⟨ac, ad⟩ := F m (List.mem_of_getElem? D); refine yK 14 (yQ ((qfP j.b m.b j.cap m.cap j.l m.l _ G.rd ac.rd (Nat.le_trans G.2.1 G.2.2.1) ab ad)) fun U p => ?_); have ae := zu a5 p iZ; have af := zt a6 p eZ; have ak : ∀ x ∈ rows1, LineAt U x.b x.l x.cap ∧ x.l.length = x.n := fun x hx => ⟨(E x hx).1.ch p id, (E x hx).2⟩
  have al : ∀ x ∈ rows2, LineAt U x.b x.l x.cap ∧ x.l.length = x.n := fun x hx => ⟨(F x hx).1.ch p id, (F x hx).2⟩
  refine q9 <| yd [15] [] .z <| yDe (nS ?_); refine yc (rN (rY (eqLB j.l m.l))) (fun H => ?_) fun H => ?_
  ·have I : ¬ j.l = m.l := of_decide_eq_false H; refine yx 1 <| q8 (rB (rS (qcQ (rB (rS (yR1 (.bool false) ?_)))))); refine ⟨?_, Up.ch ae⟩; rw [grB_l (by rw [hG1, hG2]; exact ne_at P R (by rw [Q, S]; exact I))]
  have I : j.l = m.l := of_decide_eq_true H; refine qk (nB (nS ?_)); refine q7 <| yp 2 [] (.q6 (((k : Nat) : Int) + 1) .z) <| yE (fun a ha => Z (k + 1) _ ⟨by omega, qdk B P R (by rw [Q, S]; exact I), af⟩ (by show rows1.length - (k + 1) < rows1.length - k; omega) a (ha.kp [0, 1, 29, 30]))
 have am : k = rows1.length := by omega
 refine qv (eS (qe (qb (nS ?_)))); refine yx 1 <| q8 (yR1 (.bool true) ?_); refine ⟨?_, Up.ch M⟩; have V : M1.length = k := by rw [← hM1, List.length_map]; omega
 have ag : M2.length = k := by rw [← hM2, List.length_map]; omega
 rw [grB_t v A (by rw [hG1, hG2]; rw [← V, List.take_length, V, ← ag, List.take_length] at B; exact B)]
theorem qfl {w : World} {g1 g2 : Nat} {G1 G2 : Gr} {F1 F2 : Nat → Prop} (h1 : GridAt w g1 G1 F1) (h2 : GridAt w g2 G2 F2) : Calls Tryz.prog 17 [pX g1, pX g2].toArray w fun e w' => e = .returned (.bool (grB G1 G2)) ∧ Ch (fun _ => False) w w' := by
 obtain ⟨a, b, c, h1⟩ := h1; obtain ⟨d, f, g, h2⟩ := h2; exact gsame0 g1 a b c G1 G1.lines h1.lines rfl h1.head h1.body.rd h1.line h1.len h1.ok.2.1 g2 d f g G2 G2.lines h2.lines rfl h2.head h2.body.rd h2.line h2.len h2.ok.2.1
theorem qfQ {w : World} {b off : Nat} {rows : List Row} (h : Rd w (some ⟨b, off, none⟩) (rows.map Row.val)) {k : Nat} {x : Row} (hx : rows[k]? = some x) : w.cell? ⟨b, off + ((k : Nat) : Int).toNat * 1, none⟩ = some x.val := by
 rw [Int.toNat_natCast, Nat.mul_one]
 exact qbe h k _ (by rw [List.getElem?_map, hx]; rfl)
theorem qix {rows : List Row} {k : Nat} (h : k < rows.length) : ∃ q, rows[k]? = some q ∧ q ∈ rows := ⟨_, List.getElem?_eq_getElem h, List.getElem_mem h⟩
def qa5 (s : Sty) : List Bool := [s.bold, s.under, s.turned, decide (0 < s.fore), decide (0 < s.back)]
def numsS (s : Sty) : List Int := [1, 4, 7, 29 + s.fore, 39 + s.back]
def qcB (s : Sty) : Nat → List Int
 | 0 => [0]
 | k + 1 => if (qa5 s).getD k false = true then qcB s k ++ [(numsS s).getD k 0] else qcB s k
abbrev qH (s : Sty) : List Int := qcB s 5
theorem qaM {s : Sty} {k : Nat} (h : (qa5 s).getD k false = true) : qcB s (k + 1) = qcB s k ++ [(numsS s).getD k 0] := if_pos h
theorem qak {s : Sty} {k : Nat} (h : ¬ (qa5 s).getD k false = true) : qcB s (k + 1) = qcB s k := if_neg h
theorem qbs (s : Sty) (k : Nat) : (qcB s k).length ≤ k + 1 := by
 induction k with
 | zero => exact Nat.le_refl _
 | succ k ih =>
  by_cases h : (qa5 s).getD k false = true
  ·rw [qaM h, List.length_append]; simp only [List.length_cons, List.length_nil]; omega
  ·rw [qak h]; omega
theorem qfR {s : Sty} (h : (0 ≤ s.fore ∧ s.fore ≤ 8) ∧ 0 ≤ s.back ∧ s.back ≤ 8) (k : Nat) (hk : k ≤ 5) : ∀ x ∈ qcB s k, 0 ≤ x ∧ x ≤ 47 := by
 induction k with
 | zero => intro x hx; simp [qcB] at hx; omega
 | succ k ih =>
  intro x hx
  by_cases e : (qa5 s).getD k false = true
  ·rw [qaM e, List.mem_append] at hx
   rcases hx with hx | hx
   ·exact ih (by omega) x hx
   ·obtain rfl := List.mem_singleton.1 hx
    match k, hk with
    | 0, _ | 1, _ | 2, _ => simp [numsS]
    | 3, _ | 4, _ => simp [numsS]; omega
  ·rw [qak e] at hx; exact ih (by omega) x hx
def csiB : ByteArray := ⟨#[27, 91]⟩
def semB : ByteArray := ⟨#[59]⟩
def mB : ByteArray := ⟨#[109]⟩
def hB : ByteArray := ⟨#[72]⟩
theorem qaF : csiB.size = 2 := rfl
theorem qaG : semB.size = 1 := rfl
theorem qbS : mB.size = 1 := rfl
theorem qci : hB.size = 1 := rfl
def qfu (l : List Int) : Nat → ByteArray
 | 0 => csiB
 | k + 1 => (if 0 < k then qfu l k ++ semB else qfu l k) ++ qa1 (l.getD k 0)
theorem styK_on {l : List Int} {k : Nat} (h : 0 < k) : qfu l (k + 1) = qfu l k ++ semB ++ qa1 (l.getD k 0) := congrArg (· ++ qa1 (l.getD k 0)) (if_pos h)
theorem styK_off {l : List Int} {k : Nat} (h : ¬ 0 < k) : qfu l (k + 1) = qfu l k ++ qa1 (l.getD k 0) := congrArg (· ++ qa1 (l.getD k 0)) (if_neg h)
def qfv (s : Sty) : ByteArray := qfu (qH s) (qH s).length ++ mB
def toB (x y : Int) : ByteArray := csiB ++ qa1 (y + 1) ++ semB ++ qa1 (x + 1) ++ hB
theorem qbk {n : Int} (h0 : -99 ≤ n) (h1 : n ≤ 99) : (qa1 n).size ≤ 3 := by
 have key : ∀ k : Nat, k ≤ 198 → (qa1 ((k : Int) - 99)).size ≤ 3 := by decide +kernel
 have := key (n + 99).toNat (by omega)
 rwa [show (((n + 99).toNat : Int) - 99) = n by omega] at this
theorem qiy {l : List Int} {k : Nat} (hk : k < l.length) : l.getD k 0 ∈ l := by
 rw [List.getD_eq_getElem?_getD, List.getElem?_eq_getElem hk, Option.getD_some]
 exact List.getElem_mem hk
theorem qfm {l : List Int} (hl : ∀ x ∈ l, 0 ≤ x ∧ x ≤ 99) (k : Nat) (hk : k ≤ l.length) : (qfu l k).size ≤ 2 + 4 * k := by
 induction k with
 | zero => exact Nat.le_refl _
 | succ k ih =>
  have h1 := ih (by omega)
  have h2 := hl _ (qiy (l := l) (k := k) (by omega))
  have h3 := qbk (n := l.getD k 0) (by omega) (by omega)
  unfold qfu
  rw [ByteArray.size_append]
  split
  ·rw [ByteArray.size_append]
   have := qaG
   omega
  ·omega
theorem qbQ {s : Sty} (h : (0 ≤ s.fore ∧ s.fore ≤ 8) ∧ 0 ≤ s.back ∧ s.back ≤ 8) : (qfv s).size ≤ 27 := by
 have h1 := qfm (l := qH s) (fun x hx => by have := qfR h 5 (Nat.le_refl _) x hx; omega) _ (Nat.le_refl _)
 have h2 : (qH s).length ≤ 6 := qbs s 5
 unfold qfv
 rw [ByteArray.size_append]
 have := qbS
 omega
theorem qey {x y : Int} (hx : 0 ≤ x ∧ x ≤ 60) (hy : 0 ≤ y ∧ y ≤ 60) : (toB x y).size ≤ 10 := by
 have h1 := qbk (n := x + 1) (by omega) (by omega)
 have h2 := qbk (n := y + 1) (by omega) (by omega)
 unfold toB
 simp only [ByteArray.size_append]
 have := qaF
 have := qaG
 have := qci
 omega
theorem qiz (c : Cel) (l : List Cel) (k : Nat) : gc (c :: l) ((k + 1 : Nat) : Int) = gc l (k : Int) := by
 unfold gc
 rw [Int.toNat_natCast, Int.toNat_natCast, List.getD_cons_succ]
def qad : List Cel → List Cel → Nat
 | c :: l, d :: m => if c = d then qad l m + 1 else 0
 | _, _ => 0
theorem qcj : ∀ (k : Nat) (a b : List Cel), k ≤ a.length → k ≤ b.length → a.take k = b.take k → (k = a.length ∨ k = b.length ∨ gc a k ≠ gc b k) → qad a b = k
 | 0, [], b, _, _, _, _ => by cases b <;> rfl
 | 0, c :: l, [], _, _, _, _ => rfl
 | 0, c :: l, d :: m, _, _, _, h => by
  have h' : c ≠ d := by
   rcases h with h | h | h
   ·simp at h
   ·simp at h
   ·exact h
  unfold qad
  rw [if_neg h']
 | k + 1, [], b, ha, _, _, _ => by simp at ha
 | k + 1, c :: l, [], _, hb, _, _ => by simp at hb
 | k + 1, c :: l, d :: m, ha, hb, ht, h => by
  simp only [List.take_succ_cons, List.cons.injEq] at ht
  unfold qad
  rw [if_pos ht.1, qcj k l m (by simpa using ha) (by simpa using hb) ht.2]
  rcases h with h | h | h
  ·exact .inl (by simpa using h)
  ·exact .inr (.inl (by simpa using h))
  ·refine .inr (.inr fun e => h ?_)
   rw [qiz, qiz]; exact e
def qbG (a b : List Cel) : Nat × Nat := (qad a b, b.length - qad (a.drop (qad a b)).reverse (b.drop (qad a b)).reverse)
theorem qcY {a b : List Cel} {x j : Nat} (hl : a.length = b.length) (hx : qad a b = x) (h1 : x ≤ j) (h2 : j ≤ b.length) (hd : a.drop j = b.drop j) (he : j = x ∨ gc a ((j : Int) - 1) ≠ gc b ((j : Int) - 1)) : qbG a b = (x, j) := by
 unfold qbG
 rw [hx]
 have hr : ∀ l : List Cel, l.length = b.length → (l.drop x).reverse.take (b.length - j) = (l.drop j).reverse := fun l h => by
  rw [List.take_reverse, List.drop_drop, List.length_drop, h, show x + (b.length - x - (b.length - j)) = j by omega]
 have hg : ∀ l : List Cel, l.length = b.length → x < j → gc (l.drop x).reverse ((b.length - j : Nat) : Int) = gc l ((j : Int) - 1) := fun l h hj => by
  unfold gc
  rw [Int.toNat_natCast, List.getD_eq_getElem?_getD, List.getD_eq_getElem?_getD, List.getElem?_reverse (by rw [List.length_drop]; omega), List.getElem?_drop, List.length_drop, h, show x + (b.length - x - 1 - (b.length - j)) = ((j : Int) - 1).toNat by omega]
 rw [qcj (b.length - j) _ _ (by rw [List.length_reverse, List.length_drop]; omega) (by rw [List.length_reverse, List.length_drop]; omega) (by rw [hr a hl, hr b rfl, hd])]
 ·rw [show b.length - (b.length - j) = j by omega]
 ·by_cases hj : j = x
  ·refine .inl ?_
   rw [List.length_reverse, List.length_drop]; omega
  ·exact .inr (.inr (by rw [hg a hl (by omega), hg b rfl (by omega)]; exact he.resolve_left hj))
def wrK (l : List Cel) : Nat → ByteArray
 | 0 => ByteArray.empty
 | k + 1 =>
  let o := if k = 0 ∨ ¬ (gc l (k : Int)).sty = (gc l ((k : Int) - 1)).sty then wrK l k ++ qfv (gc l (k : Int)).sty else wrK l k
  if (gc l (k : Int)).rune = 0 then o else o ++ Utf8.encode (gc l (k : Int)).rune
def wrB (l : List Cel) : ByteArray := wrK l l.length
theorem qiA (a b : Sty) : ((a.bold == b.bold) && ((a.under == b.under) && ((a.turned == b.turned) && (((a.fore : Int) == b.fore) && (((a.back : Int) == b.back) && true))))) = decide (a = b) := by
 obtain ⟨b1, b2, b3, f, k⟩ := a
 obtain ⟨c1, c2, c3, f', k'⟩ := b
 rw [Bool.eq_iff_iff]
 simp
theorem gc_in {l : List Cel} {k : Nat} (h : k < l.length) : gc l (k : Int) ∈ l := by
 rw [gc_at h]; exact List.getElem_mem h
section
variable {l : List Cel} {k : Nat}
theorem wrK_ss (h : k = 0 ∨ ¬ (gc l (k : Int)).sty = (gc l ((k : Int) - 1)).sty) (h2 : ¬ (gc l (k : Int)).rune = 0) : wrK l (k + 1) = wrK l k ++ qfv (gc l (k : Int)).sty ++ Utf8.encode (gc l (k : Int)).rune := by
 unfold wrK; dsimp only; rw [if_neg h2, if_pos h]; cases k <;> rfl
theorem wrK_sn (h : k = 0 ∨ ¬ (gc l (k : Int)).sty = (gc l ((k : Int) - 1)).sty) (h2 : (gc l (k : Int)).rune = 0) : wrK l (k + 1) = wrK l k ++ qfv (gc l (k : Int)).sty := by
 unfold wrK; dsimp only; rw [if_pos h2, if_pos h]; cases k <;> rfl
theorem wrK_ns (h : ¬ k = 0) (h1 : (gc l (k : Int)).sty = (gc l ((k : Int) - 1)).sty) (h2 : ¬ (gc l (k : Int)).rune = 0) : wrK l (k + 1) = wrK l k ++ Utf8.encode (gc l (k : Int)).rune := by
 unfold wrK; dsimp only; rw [if_neg h2, if_neg (fun h' => h'.elim h fun h' => h' h1)]; cases k <;> rfl
theorem wrK_nn (h : ¬ k = 0) (h1 : (gc l (k : Int)).sty = (gc l ((k : Int) - 1)).sty) (h2 : (gc l (k : Int)).rune = 0) : wrK l (k + 1) = wrK l k := by
 conv => lhs; unfold wrK
 dsimp only; rw [if_pos h2, if_neg (fun h' => h'.elim h fun h' => h' h1)]
end
theorem qfn {l m : List Cel} {j : Nat} (h0 : 0 < j) (hl : l.length = m.length) (hj : j ≤ m.length) (h : l.drop j = m.drop j) (e : gc l ((j : Int) - 1) = gc m ((j : Int) - 1)) : l.drop (j - 1) = m.drop (j - 1) := by
 rw [show ((j : Int) - 1) = ((j - 1 : Nat) : Int) by omega, gc_at (by omega), gc_at (by omega)] at e
 rw [List.drop_eq_getElem_cons (show j - 1 < l.length by omega), List.drop_eq_getElem_cons (show j - 1 < m.length by omega), e, show j - 1 + 1 = j by omega, h]
def dfK (A B : Gr) : Nat → ByteArray
 | 0 => ByteArray.empty
 | k + 1 =>
  let q := qbG (gl A (k : Int)) (gl B (k : Int))
  if q.1 < q.2 then dfK A B k ++ (toB q.1 k ++ wrB (((gl B (k : Int)).take q.2).drop q.1)) else dfK A B k
def hideB : ByteArray := ⟨#[27, 91, 63, 50, 53, 108]⟩
def showB : ByteArray := ⟨#[27, 91, 63, 50, 53, 104]⟩
structure Vw where
 g : Gr
 x : Int
 y : Int
 hid : Bool
abbrev qiB (o : ByteArray) : Bool := o.toList == ByteArray.empty.toList
theorem none_iff {o : ByteArray} : qiB o = true ↔ o.size = 0 := by
 constructor
 ·intro h
  rw [qir (u := ByteArray.empty) h]; rfl
 ·intro h
  have : o = ByteArray.empty := ByteArray.ext (Array.ext (by simpa using h) (fun i hi => by have : o.data.size = 0 := h; omega))
  rw [this]; exact beq_self_eq_true _
theorem none_f {o : ByteArray} (h : qiB o = false) : ¬ o.size = 0 := fun e => Bool.false_ne_true (h.symm.trans (none_iff.2 e))
def df1 (A B : Vw) : ByteArray := if (dfK A.g B.g B.g.h.toNat).size = 0 then dfK A.g B.g B.g.h.toNat else dfK A.g B.g B.g.h.toNat ++ qfv qbU
def df2 (A B : Vw) : ByteArray := if ¬ (df1 A B).size = 0 ∨ ¬ A.x = B.x ∨ ¬ A.y = B.y then df1 A B ++ toB B.x B.y else df1 A B
def qaN (A B : Vw) : ByteArray := if B.hid = true ∧ A.hid = false then df2 A B ++ hideB else if A.hid = true ∧ B.hid = false then df2 A B ++ showB else df2 A B
theorem qav : hideB.size = 6 := rfl
theorem qaw : showB.size = 6 := rfl
theorem dfK_on {A B : Gr} {k x e : Nat} {l m : List Cel} (e1 : gl A (k : Int) = l) (e2 : gl B (k : Int) = m) (hE : qbG l m = (x, e)) (h : (x : Int) < e) : dfK A B (k + 1) = dfK A B k ++ (toB (x : Int) (k : Int) ++ wrB ((m.take e).drop x)) := by
 conv => lhs; unfold dfK
 dsimp only
 rw [e1, e2, hE, if_pos (by dsimp only; omega)]
theorem dfK_off {A B : Gr} {k x e : Nat} {l m : List Cel} (e1 : gl A (k : Int) = l) (e2 : gl B (k : Int) = m) (hE : qbG l m = (x, e)) (h : ¬ (x : Int) < e) : dfK A B (k + 1) = dfK A B k := by
 conv => lhs; unfold dfK
 dsimp only
 rw [e1, e2, hE, if_neg (by dsimp only; omega)]
def qcC (s : Sty) : Prop := (0 ≤ s.fore ∧ s.fore ≤ 8) ∧ 0 ≤ s.back ∧ s.back ≤ 8
theorem qgk (r : Int) : (Utf8.encode r).size ≤ 4 := by
 unfold Utf8.encode
 generalize (if Utf8.valid r = true then r.toNat else Utf8.runeError) = c
 dsimp only
 split
 ·exact (show (1 : Nat) ≤ 4 by decide)
 ·split
  ·exact (show (2 : Nat) ≤ 4 by decide)
  ·split
   ·exact (show (3 : Nat) ≤ 4 by decide)
   ·exact Nat.le_refl 4
theorem qez {l : List Cel} (h : ∀ c ∈ l, qcC c.sty) (k : Nat) (hk : k ≤ l.length) : (wrK l k).size ≤ 31 * k := by
 induction k with
 | zero => exact Nat.le_refl _
 | succ k ih =>
  have h1 := ih (by omega)
  have hm : gc l (k : Int) ∈ l := by
   unfold gc
   rw [Int.toNat_natCast, List.getD_eq_getElem?_getD, List.getElem?_eq_getElem (by omega), Option.getD_some]
   exact List.getElem_mem _
  have h2 := qbQ (h _ hm)
  have h3 := qgk (gc l (k : Int)).rune
  unfold wrK
  dsimp only
  split <;> split <;> (try rw [ByteArray.size_append]) <;> (try rw [ByteArray.size_append]) <;> omega
theorem qgl (a b : List Cel) : (qbG a b).2 ≤ b.length := Nat.sub_le _ _
theorem qeA {A B : Gr} (h : ∀ l ∈ B.lines, l.length ≤ 60 ∧ ∀ c ∈ l, qcC c.sty) (k : Nat) (hk : k ≤ B.lines.length) (hk2 : k ≤ 60) : (dfK A B k).size ≤ 1870 * k := by
 induction k with
 | zero => exact Nat.le_refl _
 | succ k ih =>
  have h1 := ih (by omega) (by omega)
  have hm : gl B (k : Int) ∈ B.lines := by
   unfold gl
   rw [Int.toNat_natCast, List.getD_eq_getElem?_getD, List.getElem?_eq_getElem (by omega), Option.getD_some]
   exact List.getElem_mem _
  have h2 := h _ hm
  have h3 := qgl (gl A (k : Int)) (gl B (k : Int))
  unfold dfK
  dsimp only
  split
  ·rename_i hq
   have h4 := qey (x := ((qbG (gl A (k : Int)) (gl B (k : Int))).1 : Int)) (y := (k : Int)) (by omega) (by omega)
   have h5 := qez (l := ((gl B (k : Int)).take (qbG (gl A (k : Int)) (gl B (k : Int))).2).drop (qbG (gl A (k : Int)) (gl B (k : Int))).1) (fun c hc => h2.2 c (List.mem_of_mem_take (List.mem_of_mem_drop hc))) _ (Nat.le_refl _)
   have h6 : (((gl B (k : Int)).take (qbG (gl A (k : Int)) (gl B (k : Int))).2).drop (qbG (gl A (k : Int)) (gl B (k : Int))).1).length ≤ 60 := by
    rw [List.length_drop, List.length_take]; omega
   unfold wrB
   simp only [ByteArray.size_append]
   omega
  ·omega
section
variable {w : World} {b o : Nat} {l : List Cel} {i : Int} (h : Rd w (some ⟨b, o, none⟩) (flat l)) (h0 : 0 ≤ i) (h1 : i < (l.length : Nat))
include h h0 h1
theorem qck : w.cell? ⟨b, o + i.toNat * 6, none⟩ = some (.int .i32 (gc l i).rune) := qbe h (i.toNat * 6) _ (flat_get l i 0 h0 h1 (by decide))
theorem qs (k : Nat) (v : Value) (hk : k < 6) (hv : (gc l i).vals[k]? = some v) : w.cell? ⟨b, o + i.toNat * 6 + k, none⟩ = some v := by rw [Nat.add_assoc]; exact qbe h (i.toNat * 6 + k) _ (by rw [flat_get l i k h0 h1 hk]; exact hv)
end
section
variable {A B : Vw} (hok : ∀ l ∈ B.g.lines, l.length ≤ 60 ∧ ∀ c ∈ l, qcC c.sty) (hl : B.g.h.toNat ≤ B.g.lines.length) (h60 : B.g.h.toNat ≤ 60)
include hok hl h60
theorem qgm : (df1 A B).size ≤ 112300 := by
 have h1 := qeA (A := A.g) hok B.g.h.toNat hl h60
 have h2 := qbQ (s := qbU) ⟨⟨Int.le_refl _, by decide⟩, Int.le_refl _, by decide⟩
 unfold df1
 split
 ·omega
 ·rw [ByteArray.size_append]; omega
theorem df2_size (hx : 0 ≤ B.x ∧ B.x ≤ 60) (hy : 0 ≤ B.y ∧ B.y ≤ 60) : (df2 A B).size ≤ 112400 := by
 have h1 := qgm (A := A) hok hl h60
 have h2 := qey hx hy
 unfold df2
 split
 ·rw [ByteArray.size_append]; omega
 ·omega
end
theorem qh8 {w : World} {b cap n : Nat} {l : List Cel} (h : Rd w (some ⟨b, 0, none⟩) (flat l)) (hl : l.length ≤ cap) : Rd w (some ⟨b, if cap = n then 0 else 0 + n * 6, none⟩) (flat (l.drop n)) := by
 by_cases e : cap = n
 ·rw [show l.drop n = [] from List.drop_eq_nil_of_le (by omega)]; exact Rd.nil _ _
 ·rw [if_neg e, ← qeQ]
  refine ⟨(fun e => by cases e), fun ad e2 j u hj => ?_⟩
  cases e2
  rw [qb1, Nat.zero_add]
  rw [List.getElem?_drop] at hj
  have := qbe h (n * 6 + j) u hj
  rw [Nat.zero_add] at this
  exact this
theorem glq {w : World} {g r cap : Nat} {rows : List Row} {G : Gr} {F : Nat → Prop} {k : Nat} {q : Row} (h : GridIn w g r cap rows G F) (hq : rows[k]? = some q) : gl G (k : Int) = q.l := by
 unfold gl
 rw [Int.toNat_natCast, List.getD_eq_getElem?_getD, ← h.lines, List.getElem?_map, hq]; rfl
theorem qbl {P : Program} {N : Nat} {Q : Exit → Act → World → Prop} {f : Fr} {w : World} {x y : Code} {σ : Type} (f' : σ → Fr) (I : σ → World → Prop)
  (h1 : ∀ K : Act → World → Prop, (∀ s u, I s u → ∀ a, Has N (f' s) a → K a u) → WC P N (Exit.then K Q) x f w) (h2 : ∀ s u, I s u → WC P N Q y (f' s) u) : WC P N Q (.seq x y) f w :=
 x_seq fun K hK => h1 K fun s u hI a ha => hK (f' s) u (h2 s u hI) a ha
section
variable {w0 w w' : World} {F0 : Nat → Prop} {l : List Asn} {i : Nat}
theorem Sep.toOwn {b : Nat} {cs : List Value} {t : TypeId} (h : Sep w0 F0 w l) (i n sz : Nat) (hi : l[i]? = some (qg b cs t) := by rfl) (hl : cs.length = n * sz := by rfl) (hn : n ≤ maxLen := by decide) : Sep w0 F0 w (l.set i (qdv t sz (some b) n n cs)) := by
 obtain ⟨_, h⟩ := h.ref (B := fun _ : Unit => qdv t sz (some b) n n cs) hi fun F hA => ⟨(), Own.blk hA.1 hl hn, fun c e => Option.some.inj e ▸ hA.2⟩
 exact h
theorem SepOn.ch {is : List Nat} (h : SepOn w0 F0 l is w) : Ch F0 w0 w := h.elim fun _ h => h.1.ch
theorem SepOn.rd {is : List Nat} {b o : Nat} {ys : List Value} (h : SepOn w0 (fun _ => False) l is w) (hr : Rd w0 (some ⟨b, o, none⟩) ys) : Rd w (some ⟨b, o, none⟩) ys := hr.ch h.ch fun _ _ h => h
def qE (p : Nat) (G : Gr) : Asn := ⟨fun w F => GridAt w p G F, fun h hc hn => h.ch hc hn, fun h hF hl => h.mono hF hl⟩
theorem Sep.grid {p : Nat} {G : Gr} (h : Sep w0 F0 w l) (i : Nat) (hi : l[i]? = some (qE p G) := by rfl) : ∃ F, GridAt w p G F := by
 obtain ⟨F, h1, _⟩ := h.at hi
 exact ⟨F, h1⟩
theorem Sep.gridNew {p : Nat} {G : Gr} (h : Sep w0 (fun _ => False) w l) (i : Nat) (hi : l[i]? = some (qE p G) := by rfl) : ∃ F, GridAt w p G F ∧ ∀ b, F b → w0.heap.size ≤ b := by
 obtain ⟨F, h1, h2, h3⟩ := h.ex
 exact ⟨F i, h1 i _ hi, fun b hb => (h3 i b hb).1.elim False.elim id⟩
theorem Sep.newGrid {p : Nat} {G : Gr} {F : Nat → Prop} (h : Sep w0 F0 w l) (hG : GridAt w' p G F) (hlo : ∀ b, F b → w.heap.size ≤ b) (hc : Ch (fun _ => False) w w') : Sep w0 F0 w' (l ++ [qE p G]) :=
 h.add (A := qE p G) hG (fun b hb => ⟨hlo b hb, hG.lt b hb⟩) hc
theorem Sep.gwh {p : Nat} {G : Gr} (h : Sep w0 F0 w l) (i : Nat) (hi : l[i]? = some (qE p G) := by rfl) : w.cell? ⟨p, 0, none⟩ = some (.int .i64 G.w) ∧ w.cell? ⟨p, 1, none⟩ = some (.int .i64 G.h) := by
 obtain ⟨F, r, rc, rows, hI⟩ := h.grid i hi
 exact ⟨hI.head.c 0, hI.head.c 1⟩
theorem Sep.glines {p : Nat} {G : Gr} (h : Sep w0 F0 w l) (i : Nat) (hi : l[i]? = some (qE p G) := by rfl) : ∃ r rc, w.cell? ⟨p, 2, none⟩ = some (.slice (some ⟨r, 0, none⟩) G.h.toNat rc) := by
 obtain ⟨F, r, rc, rows, hI⟩ := h.grid i hi
 exact ⟨r, rc, hI.len ▸ hI.head.c 2⟩
theorem SepOn.gwh {is : List Nat} {p : Nat} {G : Gr} (h : SepOn w0 F0 l is w) (i : Nat) (hm : is.contains i = true := by rfl) (hi : l[i]? = some (qE p G) := by rfl) : w.cell? ⟨p, 0, none⟩ = some (.int .i64 G.w) ∧ w.cell? ⟨p, 1, none⟩ = some (.int .i64 G.h) := by
 obtain ⟨l', h, e⟩ := h
 exact h.gwh i ((List.map_inj_left.1 e i (by simpa using hm)).trans hi)
theorem Sep.ownRd {e : TypeId} {sz b n cap : Nat} {xs : List Value} (h : Sep w0 F0 w l) (i : Nat) (hi : l[i]? = some (qdv e sz (some b) n cap xs) := by rfl) : Rd w (some ⟨b, 0, none⟩) xs := (h.own i hi).rd
theorem Sep.own0 (h : Sep w0 F0 w l) (e : TypeId) (sz : Nat) : Sep w0 F0 w (l ++ [qdv e sz none 0 0 []]) := h.fresh (Own.nil w e sz) (fun g e => by cases e) (Ch.refl _ _)
end
theorem qh9 (s : Sty) (w : World) (hs : qcC s) : Calls Tryz.prog 66 [.agg #[.bool s.bold, .bool s.under, .bool s.turned, iX s.fore, iX s.back]].toArray w fun e w' => ∃ b n c, e = .returned (.slice (some ⟨b, 0, none⟩) n c) ∧ (qH s).length = n ∧ Own w' tInt 1 (some b) n c ((qH s).map (Value.int .i64)) ∧ w.heap.size ≤ b ∧ Ch (fun _ => False) w w' := by
 obtain ⟨⟨O, P⟩, Q, R⟩ := hs; have h := Sep.nil w; refine yA Tryz.func66 rfl <| ysr <| yo (zN [.bool s.bold, .bool s.under, .bool s.turned, iX s.fore, iX s.back] 33 h fun u f h => ?_); refine yz 2 <| ysr <| yo (zB [iX 0] 3 1 h fun u x h => ?_); refine yz 2 <| ys <| ysr <| yp 14 [] (.l (h.c 0 0) (.l (h.c 0 1) (.l (h.c 0 2) (.l (h.c 0 3) (.l (h.c 0 4) .z))))) <| ye <| qa ?_; have h := h.toOwn 1 1 1; refine yU 6 (yU1 ?_); refine yx 1 <| ys <| yct <| yk <| qbl (σ := Nat × Nat × Nat) (fun ⟨o, n, c⟩ => [(1, pX f), (3, .slice (some ⟨o, 0, none⟩) n c), (19, .agg #[.bool s.bold, .bool s.under, .bool s.turned, .bool (decide (0 < s.fore)), .bool (decide (0 < s.back))]), (20, iX 0)]) (fun ⟨o, n, c⟩ u => (qcB s 1).length = n ∧ Sep w (fun _ => False) u [qg f [.bool s.bold, .bool s.under, .bool s.turned, iX s.fore, iX s.back] 33, qdv 3 1 (some o) n c ((qcB s 1).map (Value.int .i64))]) (fun S p => ?_) (fun gs u h => ?_)
 ·refine qa <| yx 4 <| yx 1 <| yc (rY s.bold) (fun g => ?_) fun g => ?_
  ·have d : (qa5 s).getD 0 false = true := by simp [qa5, g]
   refine q7 <| yp 10 [] (.l (h.c 0 3) (.q6 (29 + s.fore) (.l (h.c 0 4) (.q6 (39 + s.back) .z)))) <| yo (zB [iX 1] 3 1 h fun u T h => ?_); refine yo (zA 1 8 1 1 (1 + 1) ((qcB s 1).map (Value.int .i64)) h (Rd.all (h.b 2)) rfl (hz := by rw [qaM d, List.map_append]; rfl) (hb := by have := qbs s 0; simp only [maxLen]; omega) fun u U y h A => ?_); obtain ⟨B, rfl⟩ := A (by omega); refine yq 13 <| yE (nB (fun a ha => p (B, (1 + 1), y) _ ⟨by rw [qaM d, List.length_append, (show (qcB s 0).length = 1 from rfl)]; rfl, h.take 2⟩ a (ha.kp [1, 3, 19, 20])))
  have d : ¬ (qa5 s).getD 0 false = true := by simp [qa5, g]
  refine qk (nB (fun a ha => p (x, 1, 1) _ ⟨by rw [qak d]; exact (show (qcB s 0).length = 1 from rfl), by rw [qak d]; exact h.take 2⟩ a (ha.kp [1, 3, 19, 20])))
 obtain ⟨o, n, c⟩ := gs; obtain ⟨hl, h⟩ := h; refine q7 <| yp 2 [] (.q6 1 .z) <| yE (nU (yU1 ?_)); refine yx 1 <| ys <| yct <| yk <| qbl (σ := Nat × Nat × Nat) (fun ⟨o, n, c⟩ => [(1, pX f), (3, .slice (some ⟨o, 0, none⟩) n c), (19, .agg #[.bool s.bold, .bool s.under, .bool s.turned, .bool (decide (0 < s.fore)), .bool (decide (0 < s.back))]), (20, iX 1)]) (fun ⟨o, n, c⟩ u => (qcB s 2).length = n ∧ Sep w (fun _ => False) u [qg f [.bool s.bold, .bool s.under, .bool s.turned, iX s.fore, iX s.back] 33, qdv 3 1 (some o) n c ((qcB s 2).map (Value.int .i64))]) (fun V q => ?_) (fun gs u h => ?_)
 ·refine qa <| yx 4 <| yx 1 <| yc (rY s.under) (fun i => ?_) fun i => ?_
  ·have d : (qa5 s).getD 1 false = true := by simp [qa5, i]
   refine q7 <| yp 10 [] (.l (h.c 0 3) (.q6 (29 + s.fore) (.l (h.c 0 4) (.q6 (39 + s.back) .z)))) <| yo (zB [iX 4] 3 1 h fun u W h => ?_); refine yo (zA 1 8 1 1 (n + 1) ((qcB s 2).map (Value.int .i64)) h (Rd.all (h.b 2)) rfl (hz := by rw [qaM d, List.map_append]; rfl) (hb := by have := qbs s 1; simp only [maxLen]; omega) fun u X C h D => ?_); obtain ⟨E, rfl⟩ := D (by omega); refine yq 13 <| yE (nB (fun a ha => q (E, (n + 1), C) _ ⟨by rw [qaM d, List.length_append, hl]; rfl, h.take 2⟩ a (ha.kp [1, 3, 19, 20])))
  have d : ¬ (qa5 s).getD 1 false = true := by simp [qa5, i]
  refine qk (nB (fun a ha => q (o, n, c) _ ⟨by rw [qak d]; exact hl, by rw [qak d]; exact h.take 2⟩ a (ha.kp [1, 3, 19, 20])))
 obtain ⟨o, n, c⟩ := gs; obtain ⟨hl, h⟩ := h; refine q7 <| yp 2 [] (.q6 2 .z) <| yE (nU (yU1 ?_)); refine yx 1 <| ys <| yct <| yk <| qbl (σ := Nat × Nat × Nat) (fun ⟨o, n, c⟩ => [(1, pX f), (3, .slice (some ⟨o, 0, none⟩) n c), (19, .agg #[.bool s.bold, .bool s.under, .bool s.turned, .bool (decide (0 < s.fore)), .bool (decide (0 < s.back))]), (20, iX 2)]) (fun ⟨o, n, c⟩ u => (qcB s 3).length = n ∧ Sep w (fun _ => False) u [qg f [.bool s.bold, .bool s.under, .bool s.turned, iX s.fore, iX s.back] 33, qdv 3 1 (some o) n c ((qcB s 3).map (Value.int .i64))]) (fun Y r => ?_) (fun gs u h => ?_)
 ·refine qa <| yx 4 <| yx 1 <| yc (rY s.turned) (fun j => ?_) fun j => ?_
  ·have d : (qa5 s).getD 2 false = true := by simp [qa5, j]
   refine q7 <| yp 10 [] (.l (h.c 0 3) (.q6 (29 + s.fore) (.l (h.c 0 4) (.q6 (39 + s.back) .z)))) <| yo (zB [iX 7] 3 1 h fun u Z h => ?_); refine yo (zA 1 8 1 1 (n + 1) ((qcB s 3).map (Value.int .i64)) h (Rd.all (h.b 2)) rfl (hz := by rw [qaM d, List.map_append]; rfl) (hb := by have := qbs s 2; simp only [maxLen]; omega) fun u a0 F h G => ?_); obtain ⟨H, rfl⟩ := G (by omega); refine yq 13 <| yE (nB (fun a ha => r (H, (n + 1), F) _ ⟨by rw [qaM d, List.length_append, hl]; rfl, h.take 2⟩ a (ha.kp [1, 3, 19, 20])))
  have d : ¬ (qa5 s).getD 2 false = true := by simp [qa5, j]
  refine qk (nB (fun a ha => r (o, n, c) _ ⟨by rw [qak d]; exact hl, by rw [qak d]; exact h.take 2⟩ a (ha.kp [1, 3, 19, 20])))
 obtain ⟨o, n, c⟩ := gs; obtain ⟨hl, h⟩ := h; refine q7 <| yp 2 [] (.q6 3 .z) <| yE (nU (yU1 ?_)); refine yx 1 <| ys <| yct <| yk <| qbl (σ := Nat × Nat × Nat) (fun ⟨o, n, c⟩ => [(1, pX f), (3, .slice (some ⟨o, 0, none⟩) n c), (19, .agg #[.bool s.bold, .bool s.under, .bool s.turned, .bool (decide (0 < s.fore)), .bool (decide (0 < s.back))]), (20, iX 3)]) (fun ⟨o, n, c⟩ u => (qcB s 4).length = n ∧ Sep w (fun _ => False) u [qg f [.bool s.bold, .bool s.under, .bool s.turned, iX s.fore, iX s.back] 33, qdv 3 1 (some o) n c ((qcB s 4).map (Value.int .i64))]) (fun a1 t => ?_) (fun gs u h => ?_)
 ·refine qa <| yx 4 <| yx 1 <| yc (rL 0 s.fore) (fun k => ?_) fun k => ?_
  ·have d : (qa5 s).getD 3 false = true := by simp [qa5, k]
   refine q7 <| yp 10 [] (.l (h.c 0 3) (.q6 (29 + s.fore) (.l (h.c 0 4) (.q6 (39 + s.back) .z)))) <| yo (zB [iX (29 + s.fore)] 3 1 h fun u a2 h => ?_); refine yo (zA 1 8 1 1 (n + 1) ((qcB s 4).map (Value.int .i64)) h (Rd.all (h.b 2)) rfl (hz := by rw [qaM d, List.map_append]; rfl) (hb := by have := qbs s 3; simp only [maxLen]; omega) fun u a3 I h J => ?_); obtain ⟨K, rfl⟩ := J (by omega); refine yq 13 <| yE (nB (fun a ha => t (K, (n + 1), I) _ ⟨by rw [qaM d, List.length_append, hl]; rfl, h.take 2⟩ a (ha.kp [1, 3, 19, 20])))
  have d : ¬ (qa5 s).getD 3 false = true := by simp [qa5, k]
  refine qk (nB (fun a ha => t (o, n, c) _ ⟨by rw [qak d]; exact hl, by rw [qak d]; exact h.take 2⟩ a (ha.kp [1, 3, 19, 20])))
 obtain ⟨o, n, c⟩ := gs; obtain ⟨hl, h⟩ := h; refine q7 <| yp 2 [] (.q6 4 .z) <| yE (nU (yU1 ?_)); refine yx 1 <| ys <| yct <| yk <| qbl (σ := Nat × Nat × Nat) (fun ⟨o, n, c⟩ => [(1, pX f), (3, .slice (some ⟨o, 0, none⟩) n c), (19, .agg #[.bool s.bold, .bool s.under, .bool s.turned, .bool (decide (0 < s.fore)), .bool (decide (0 < s.back))]), (20, iX 4)]) (fun ⟨o, n, c⟩ u => (qcB s 5).length = n ∧ Sep w (fun _ => False) u [qg f [.bool s.bold, .bool s.under, .bool s.turned, iX s.fore, iX s.back] 33, qdv 3 1 (some o) n c ((qcB s 5).map (Value.int .i64))]) (fun a4 v => ?_) (fun gs u h => ?_)
 ·refine qa <| yx 4 <| yx 1 <| yc (rL 0 s.back) (fun m => ?_) fun m => ?_
  ·have d : (qa5 s).getD 4 false = true := by simp [qa5, m]
   refine q7 <| yp 10 [] (.l (h.c 0 3) (.q6 (29 + s.fore) (.l (h.c 0 4) (.q6 (39 + s.back) .z)))) <| yo (zB [iX (39 + s.back)] 3 1 h fun u a5 h => ?_); refine yo (zA 1 8 1 1 (n + 1) ((qcB s 5).map (Value.int .i64)) h (Rd.all (h.b 2)) rfl (hz := by rw [qaM d, List.map_append]; rfl) (hb := by have := qbs s 4; simp only [maxLen]; omega) fun u a6 L h M => ?_); obtain ⟨N, rfl⟩ := M (by omega); refine yq 13 <| yE (nB (fun a ha => v (N, (n + 1), L) _ ⟨by rw [qaM d, List.length_append, hl]; rfl, h.take 2⟩ a (ha.kp [1, 3, 19, 20])))
  have d : ¬ (qa5 s).getD 4 false = true := by simp [qa5, m]
  refine qk (nB (fun a ha => v (o, n, c) _ ⟨by rw [qak d]; exact hl, by rw [qak d]; exact h.take 2⟩ a (ha.kp [1, 3, 19, 20])))
 obtain ⟨o, n, c⟩ := gs; obtain ⟨hl, h⟩ := h; refine q7 <| yp 2 [] (.q6 5 .z) <| yE (nU (yU1 ?_)); refine yx 1 <| ys <| ycf <| qv (eS (qe (qb (nS ?_)))); refine yx 2 <| q8 (yR1 (.slice (some ⟨o, 0, none⟩) n c) ?_); exact ⟨o, n, c, rfl, hl, h.own 1, ((h.newo 1) _ rfl).1, h.ch⟩
theorem qcD (s : Sty) (w : World) (hT : LT w) (hs : qcC s) : Calls Tryz.prog 39 [.agg #[.bool s.bold, .bool s.under, .bool s.turned, iX s.fore, iX s.back]].toArray w fun e w' => e = .returned (.string (qfv s)) ∧ Ch (fun _ => False) w w' := by
 have h := Sep.nil w; refine yA Tryz.func39 rfl <| ysr <| yo (zN [.bool s.bold, .bool s.under, .bool s.turned, iX s.fore, iX s.back] 33 h fun u j h => ?_); refine yz 2 <| yx 1 <| ys <| ysr <| yp 1 [] (.a (h.cs 0 0 5) .z) <| yo (yC (qh9 s _ hs) ?_); rintro _ u ⟨c, b, d, rfl, m, r, t, v⟩; refine ⟨_, rfl, ?_⟩; have h := h.fresh r (fun g e => zi e ▸ t) v; refine yz 4 <| qa <| qa2 [3, 7, 8, 9] (f' := [(3, .string csiB), (7, .slice (some ⟨c, 0, none⟩) b d), (8, iX ((b : Nat) : Int)), (9, iX 0)]) <| qG (σ := Nat) (fun k => [(3, .string (qfu (qH s) k)), (7, .slice (some ⟨c, 0, none⟩) b d), (8, iX ((b : Nat) : Int)), (9, iX ((k : Nat) : Int))]) (fun k u => k ≤ (qH s).length ∧ Sep w (fun _ => False) u [qg j [.bool s.bold, .bool s.under, .bool s.turned, iX s.fore, iX s.back] 33, qdv 3 1 (some c) b d ((qH s).map (Value.int .i64))]) (fun k => (qH s).length - k) 0 rfl ?_ ?_
 ·exact ⟨Nat.zero_le _, h.take 2⟩
 intro k u y D f; obtain ⟨hk, h⟩ := y; have E : (qfu (qH s) k).size ≤ 2 + 4 * k := qfm (fun x hx => by have := qfR hs 5 (Nat.le_refl _) x hx; omega) k (by omega); have F : (qH s).length ≤ 6 := qbs s 5; refine yx 1 <| ys <| yc (rL ((k : Nat) : Int) ((b : Nat) : Int)) (fun A => ?_) fun A => ?_
 ·have hg := qfR hs 5 (Nat.le_refl _) _ (qiy (l := qH s) (k := k) (by omega)); have G := qbk (n := (qH s).getD k 0) (by omega) (by omega); refine yk <| ys <| qa <| ysr <| yp 5 [] (.i ((k : Nat) : Int) (b) (.l (o := (0 + (((k : Nat) : Int)).toNat * 1)) (qaX (h.own 1).rd k (by omega)) .z)) <| ye <| ys <| yx 2 <| yc (rL 0 ((k : Nat) : Int)) (fun B => ?_) fun B => ?_
  ·refine q7 <| yp 3 [] (.p (q := ((qfu (qH s) k)).size + (semB).size ≤ 9223372036854775807) (by (try simp only [ByteArray.size_append, qaF, qaG, qbS, qci]); omega) .z) <| ye <| q7 <| yq 2 <| yo (yQ (h.look (qb6 ((qH s).getD k 0) _ (qq h.ch hT (fun _ h => h.elim)).pt (by omega) (by omega))) fun u h => ?_); refine yp 5 [] (.p (q := (((qfu (qH s) k) ++ semB)).size + ((qa1 ((qH s).getD k 0))).size ≤ 9223372036854775807) (by (try simp only [ByteArray.size_append, qaF, qaG, qbS, qci]); omega) .z) <| yE (nB (nS ?_)); refine q7 <| yp 2 [] (.q6 (((k : Nat) : Int) + 1) .z) <| yE (fun a ha => f (k + 1) _ ⟨by omega, h.take 2⟩ (by show (qH s).length - (k + 1) < (qH s).length - k; omega) a (by rw [styK_on (by omega)]; exact ha.kp [3, 7, 8, 9]))
  refine yk <| q7 <| yq 2 <| yo (yQ (h.look (qb6 ((qH s).getD k 0) _ (qq h.ch hT (fun _ h => h.elim)).pt (by omega) (by omega))) fun u h => ?_); refine yp 5 [] (.p (q := ((qfu (qH s) k)).size + ((qa1 ((qH s).getD k 0))).size ≤ 9223372036854775807) (by (try simp only [ByteArray.size_append, qaF, qaG, qbS, qci]); omega) .z) <| yE (nB (nS ?_)); refine q7 <| yp 2 [] (.q6 (((k : Nat) : Int) + 1) .z) <| yE (fun a ha => f (k + 1) _ ⟨by omega, h.take 2⟩ (by show (qH s).length - (k + 1) < (qH s).length - k; omega) a (by rw [styK_off (by omega)]; exact ha.kp [3, 7, 8, 9]))
 have C : k = b := by omega
 refine qv (eS (qe (qb (nS ?_)))); refine ysr <| yp 3 [] (.p (q := ((qfu (qH s) k)).size + (mB).size ≤ 9223372036854775807) (by (try simp only [ByteArray.size_append, qaF, qaG, qbS, qci]); omega) .z) <| ye <| q8 (yR1 (.string ((qfu (qH s) k) ++ mB)) ?_); refine ⟨?_, h.ch⟩; unfold qfv; rw [m, ← C]
theorem qgn (x y : Int) (w : World) (hT : LT w) (hx : 0 ≤ x ∧ x ≤ 60) (hy : 0 ≤ y ∧ y ≤ 60) : Calls Tryz.prog 37 [iX x, iX y].toArray w fun e w' => e = .returned (.string (toB x y)) ∧ Ch (fun _ => False) w w' := by
 have a := qbk (n := x + 1) (by omega) (by omega); have b := qbk (n := y + 1) (by omega) (by omega); have h := Sep.nil w; refine yA Tryz.func37 rfl <| yx 1 <| ysr <| yp 2 [] (.q6 (y + 1) .z) <| yo (yQ (h.look (qb6 (y + 1) _ (qq h.ch hT (fun _ h => h.elim)).pt (by omega) (by omega))) fun u h => ?_); refine yp 7 [] (.p (q := (csiB).size + ((qa1 (y + 1))).size ≤ 9223372036854775807) (by (try simp only [ByteArray.size_append, qaF, qaG, qbS, qci]); omega) (.p (q := ((csiB ++ (qa1 (y + 1)))).size + (semB).size ≤ 9223372036854775807) (by (try simp only [ByteArray.size_append, qaF, qaG, qbS, qci]); omega) (.q6 (x + 1) .z))) <| yo (yQ (h.look (qb6 (x + 1) _ (qq h.ch hT (fun _ h => h.elim)).pt (by omega) (by omega))) fun u h => ?_); refine yp 11 [] (.p (q := (((csiB ++ (qa1 (y + 1))) ++ semB)).size + ((qa1 (x + 1))).size ≤ 9223372036854775807) (by (try simp only [ByteArray.size_append, qaF, qaG, qbS, qci]); omega) (.p (q := ((((csiB ++ (qa1 (y + 1))) ++ semB) ++ (qa1 (x + 1)))).size + (hB).size ≤ 9223372036854775807) (by (try simp only [ByteArray.size_append, qaF, qaG, qbS, qci]); omega) .z)) <| ye <| q8 (yR1 (.string ((((csiB ++ (qa1 (y + 1))) ++ semB) ++ (qa1 (x + 1))) ++ hB)) ?_); exact ⟨rfl, h.ch⟩
theorem ends_any (b1 b2 c1 c2 n1 n2 x e : Nat) (l m : List Cel) (w : World) (h1 : Rd w (some ⟨b1, 0, none⟩) (flat l)) (h2 : Rd w (some ⟨b2, 0, none⟩) (flat m)) (hn1 : l.length = n1) (hn2 : m.length = n2) (hl : l.length = m.length) (hm : m.length ≤ 60) (hE : qbG l m = (x, e)) : Calls Tryz.prog 36 [.slice (some ⟨b1, 0, none⟩) n1 c1, .slice (some ⟨b2, 0, none⟩) n2 c2].toArray w fun r w' => r = .returned (.tuple #[iX (x : Int), iX (e : Int)]) ∧ Ch (fun _ => False) w w' := by
 subst hn1 hn2; have h := Sep.nil w; refine yA Tryz.func36 rfl <| yx 2 <| yx 4 <| ys <| qa <| qa2 [0, 1, 6, 7] (f' := [(0, .slice (some ⟨b1, 0, none⟩) l.length c1), (1, .slice (some ⟨b2, 0, none⟩) m.length c2), (6, iX 0), (7, iX ((m.length : Nat) : Int))]) <| qG (σ := Nat) (fun k => [(0, .slice (some ⟨b1, 0, none⟩) l.length c1), (1, .slice (some ⟨b2, 0, none⟩) m.length c2), (6, iX ((k : Nat) : Int)), (7, iX ((m.length : Nat) : Int))]) (fun k u => k ≤ m.length ∧ l.take k = m.take k ∧ Sep w (fun _ => False) u []) (fun k => m.length - k) 0 rfl ?_ ?_
 ·exact ⟨Nat.zero_le _, rfl, h.take 0⟩
 intro k u s E t; obtain ⟨hk, o, h⟩ := s; refine ys <| ys <| zD [] h fun u h => yd (uL 0 4) [] .z <| yv [13] (rL ((k : Nat) : Int) ((m.length : Nat) : Int)) (fun v => ?_) fun v => ?_
 ·refine yd (uL 4 10) [] (.i ((k : Nat) : Int) (l.length) (.m (qck (i := ((k : Nat) : Int)) (h.rd h1) (by omega) (by omega)) (.m (qs (i := ((k : Nat) : Int)) (h.rd h1) (by omega) (by omega) 1 _ (by decide) rfl) (.m (qs (i := ((k : Nat) : Int)) (h.rd h1) (by omega) (by omega) 2 _ (by decide) rfl) (.m (qs (i := ((k : Nat) : Int)) (h.rd h1) (by omega) (by omega) 3 _ (by decide) rfl) (.m (qs (i := ((k : Nat) : Int)) (h.rd h1) (by omega) (by omega) 4 _ (by decide) rfl) (.m (qs (i := ((k : Nat) : Int)) (h.rd h1) (by omega) (by omega) 5 _ (by decide) rfl) (.e (.i ((k : Nat) : Int) (m.length) (.m (qck (i := ((k : Nat) : Int)) (h.rd h2) (by omega) (by omega)) (.m (qs (i := ((k : Nat) : Int)) (h.rd h2) (by omega) (by omega) 1 _ (by decide) rfl) (.m (qs (i := ((k : Nat) : Int)) (h.rd h2) (by omega) (by omega) 2 _ (by decide) rfl) (.m (qs (i := ((k : Nat) : Int)) (h.rd h2) (by omega) (by omega) 3 _ (by decide) rfl) (.m (qs (i := ((k : Nat) : Int)) (h.rd h2) (by omega) (by omega) 4 _ (by decide) rfl) (.m (qs (i := ((k : Nat) : Int)) (h.rd h2) (by omega) (by omega) 5 _ (by decide) rfl) (.e .z)))))))))))))))) <| yDe (nS ?_); refine yc (rY ((((gc l ((k : Nat) : Int)).rune : Int) == (gc m ((k : Nat) : Int)).rune) && ((((gc l ((k : Nat) : Int)).sty.bold == (gc m ((k : Nat) : Int)).sty.bold) && (((gc l ((k : Nat) : Int)).sty.under == (gc m ((k : Nat) : Int)).sty.under) && (((gc l ((k : Nat) : Int)).sty.turned == (gc m ((k : Nat) : Int)).sty.turned) && ((((gc l ((k : Nat) : Int)).sty.fore : Int) == (gc m ((k : Nat) : Int)).sty.fore) && ((((gc l ((k : Nat) : Int)).sty.back : Int) == (gc m ((k : Nat) : Int)).sty.back) && true))))) && true))) (fun c => ?_) fun c => ?_
  ·rw [qbF] at c; have d := eq_of_beq c; refine yk <| qa <| q7 <| yp 3 [] (.q6 (((k : Nat) : Int) + 1) .z) <| yE (nB  (fun a ha => t (k + 1) _ ⟨by omega, qdk o (by omega) (by omega) (by rw [← gc_at (by omega), ← gc_at (by omega)]; exact d), h.take 0⟩ (by show m.length - (k + 1) < m.length - k; omega) a (ha.kp [0, 1, 6, 7])))
  rw [qbF] at c; have y : ¬ _ := fun e => absurd (beq_iff_eq.2 e) (by rw [c]; decide); have hx : qad l m = k := qcj k l m (by omega) (by omega) o (.inr (.inr y)); refine qv (eS (qe (qb (nS ?_)))); refine ys <| qa <| qa2 [0, 1, 6, 7] (f' := [(0, .slice (some ⟨b1, 0, none⟩) l.length c1), (1, .slice (some ⟨b2, 0, none⟩) m.length c2), (6, iX ((k : Nat) : Int)), (7, iX ((m.length : Nat) : Int))]) <| qG (σ := Nat) (fun j => [(0, .slice (some ⟨b1, 0, none⟩) l.length c1), (1, .slice (some ⟨b2, 0, none⟩) m.length c2), (6, iX ((k : Nat) : Int)), (7, iX ((j : Nat) : Int))]) (fun j u => k ≤ j ∧ j ≤ m.length ∧ l.drop j = m.drop j ∧ Sep w (fun _ => False) u []) (fun j => j) m.length rfl ?_ ?_
  ·exact ⟨hk, Nat.le_refl _, by rw [List.drop_length, ← hl, List.drop_length], h.take 0⟩
  intro j u A F B; obtain ⟨f, b, hd, h⟩ := A; refine ys <| ys <| zD [] h fun u h => yd (uL 0 4) [] .z <| yv [29] (rL ((k : Nat) : Int) ((j : Nat) : Int)) (fun p => ?_) fun p => ?_
  ·refine yd (uL 4 12) [] (.q6 (((j : Nat) : Int) - 1) (.i (((j : Nat) : Int) - 1) (l.length) (.m (qck (i := (((j : Nat) : Int) - 1)) (h.rd h1) (by omega) (by omega)) (.m (qs (i := (((j : Nat) : Int) - 1)) (h.rd h1) (by omega) (by omega) 1 _ (by decide) rfl) (.m (qs (i := (((j : Nat) : Int) - 1)) (h.rd h1) (by omega) (by omega) 2 _ (by decide) rfl) (.m (qs (i := (((j : Nat) : Int) - 1)) (h.rd h1) (by omega) (by omega) 3 _ (by decide) rfl) (.m (qs (i := (((j : Nat) : Int) - 1)) (h.rd h1) (by omega) (by omega) 4 _ (by decide) rfl) (.m (qs (i := (((j : Nat) : Int) - 1)) (h.rd h1) (by omega) (by omega) 5 _ (by decide) rfl) (.e (.q6 (((j : Nat) : Int) - 1) (.i (((j : Nat) : Int) - 1) (m.length) (.m (qck (i := (((j : Nat) : Int) - 1)) (h.rd h2) (by omega) (by omega)) (.m (qs (i := (((j : Nat) : Int) - 1)) (h.rd h2) (by omega) (by omega) 1 _ (by decide) rfl) (.m (qs (i := (((j : Nat) : Int) - 1)) (h.rd h2) (by omega) (by omega) 2 _ (by decide) rfl) (.m (qs (i := (((j : Nat) : Int) - 1)) (h.rd h2) (by omega) (by omega) 3 _ (by decide) rfl) (.m (qs (i := (((j : Nat) : Int) - 1)) (h.rd h2) (by omega) (by omega) 4 _ (by decide) rfl) (.m (qs (i := (((j : Nat) : Int) - 1)) (h.rd h2) (by omega) (by omega) 5 _ (by decide) rfl) (.e .z)))))))))))))))))) <| yDe (nS ?_); refine yc (rY ((((gc l (((j : Nat) : Int) - 1)).rune : Int) == (gc m (((j : Nat) : Int) - 1)).rune) && ((((gc l (((j : Nat) : Int) - 1)).sty.bold == (gc m (((j : Nat) : Int) - 1)).sty.bold) && (((gc l (((j : Nat) : Int) - 1)).sty.under == (gc m (((j : Nat) : Int) - 1)).sty.under) && (((gc l (((j : Nat) : Int) - 1)).sty.turned == (gc m (((j : Nat) : Int) - 1)).sty.turned) && ((((gc l (((j : Nat) : Int) - 1)).sty.fore : Int) == (gc m (((j : Nat) : Int) - 1)).sty.fore) && ((((gc l (((j : Nat) : Int) - 1)).sty.back : Int) == (gc m (((j : Nat) : Int) - 1)).sty.back) && true))))) && true))) (fun g => ?_) fun g => ?_
   ·rw [qbF] at g; have d := eq_of_beq g; refine yk <| qa <| q7 <| yp 3 [] (.q6 (((j : Nat) : Int) - 1) .z) <| yE (nB  (fun a ha => B (j - 1) _ ⟨by omega, by omega, qfn (by omega) hl b hd d, h.take 0⟩ (by show j - 1 < j; omega) a (by rw [show ((j - 1 : Nat) : Int) = (j : Int) - 1 by omega]; exact ha.kp [0, 1, 6, 7])))
   rw [qbF] at g; have q : ¬ _ := fun e => absurd (beq_iff_eq.2 e) (by rw [g]; decide); refine qv (eS (qe (qb (nS ?_)))); refine yx 4 <| q8 (yR2 [iX ((k : Nat) : Int), iX ((j : Nat) : Int)] .z ?_); obtain ⟨rfl, rfl⟩ := Prod.mk.inj ((qcY hl hx f b hd (.inr q)).symm.trans hE); exact ⟨rfl, h.ch⟩
  refine yd (uL 4 12) [] .z <| yDe (nS ?_); refine ycf <| qv (eS (qe (qb (nS ?_)))); refine yx 4 <| q8 (yR2 [iX ((k : Nat) : Int), iX ((j : Nat) : Int)] .z ?_); obtain ⟨rfl, rfl⟩ := Prod.mk.inj ((qcY hl hx f b hd (.inl (by omega))).symm.trans hE); exact ⟨rfl, h.ch⟩
 have hx : qad l m = k := qcj k l m (by omega) (by omega) o (.inl (by omega)); refine yd (uL 4 10) [] .z <| yDe (nS ?_); refine ycf <| qv (eS (qe (qb (nS ?_)))); refine ys <| qa <| qa2 [0, 1, 6, 7] (f' := [(0, .slice (some ⟨b1, 0, none⟩) l.length c1), (1, .slice (some ⟨b2, 0, none⟩) m.length c2), (6, iX ((k : Nat) : Int)), (7, iX ((m.length : Nat) : Int))]) <| qG (σ := Nat) (fun j => [(0, .slice (some ⟨b1, 0, none⟩) l.length c1), (1, .slice (some ⟨b2, 0, none⟩) m.length c2), (6, iX ((k : Nat) : Int)), (7, iX ((j : Nat) : Int))]) (fun j u => k ≤ j ∧ j ≤ m.length ∧ l.drop j = m.drop j ∧ Sep w (fun _ => False) u []) (fun j => j) m.length rfl ?_ ?_
 ·exact ⟨hk, Nat.le_refl _, by rw [List.drop_length, ← hl, List.drop_length], h.take 0⟩
 intro j u C G D; obtain ⟨f, b, hd, h⟩ := C; refine ys <| ys <| zD [] h fun u h => yd (uL 0 4) [] .z <| yv [29] (rL ((k : Nat) : Int) ((j : Nat) : Int)) (fun p => ?_) fun p => ?_
 ·refine yd (uL 4 12) [] (.q6 (((j : Nat) : Int) - 1) (.i (((j : Nat) : Int) - 1) (l.length) (.m (qck (i := (((j : Nat) : Int) - 1)) (h.rd h1) (by omega) (by omega)) (.m (qs (i := (((j : Nat) : Int) - 1)) (h.rd h1) (by omega) (by omega) 1 _ (by decide) rfl) (.m (qs (i := (((j : Nat) : Int) - 1)) (h.rd h1) (by omega) (by omega) 2 _ (by decide) rfl) (.m (qs (i := (((j : Nat) : Int) - 1)) (h.rd h1) (by omega) (by omega) 3 _ (by decide) rfl) (.m (qs (i := (((j : Nat) : Int) - 1)) (h.rd h1) (by omega) (by omega) 4 _ (by decide) rfl) (.m (qs (i := (((j : Nat) : Int) - 1)) (h.rd h1) (by omega) (by omega) 5 _ (by decide) rfl) (.e (.q6 (((j : Nat) : Int) - 1) (.i (((j : Nat) : Int) - 1) (m.length) (.m (qck (i := (((j : Nat) : Int) - 1)) (h.rd h2) (by omega) (by omega)) (.m (qs (i := (((j : Nat) : Int) - 1)) (h.rd h2) (by omega) (by omega) 1 _ (by decide) rfl) (.m (qs (i := (((j : Nat) : Int) - 1)) (h.rd h2) (by omega) (by omega) 2 _ (by decide) rfl) (.m (qs (i := (((j : Nat) : Int) - 1)) (h.rd h2) (by omega) (by omega) 3 _ (by decide) rfl) (.m (qs (i := (((j : Nat) : Int) - 1)) (h.rd h2) (by omega) (by omega) 4 _ (by decide) rfl) (.m (qs (i := (((j : Nat) : Int) - 1)) (h.rd h2) (by omega) (by omega) 5 _ (by decide) rfl) (.e .z)))))))))))))))))) <| yDe (nS ?_); refine yc (rY ((((gc l (((j : Nat) : Int) - 1)).rune : Int) == (gc m (((j : Nat) : Int) - 1)).rune) && ((((gc l (((j : Nat) : Int) - 1)).sty.bold == (gc m (((j : Nat) : Int) - 1)).sty.bold) && (((gc l (((j : Nat) : Int) - 1)).sty.under == (gc m (((j : Nat) : Int) - 1)).sty.under) && (((gc l (((j : Nat) : Int) - 1)).sty.turned == (gc m (((j : Nat) : Int) - 1)).sty.turned) && ((((gc l (((j : Nat) : Int) - 1)).sty.fore : Int) == (gc m (((j : Nat) : Int) - 1)).sty.fore) && ((((gc l (((j : Nat) : Int) - 1)).sty.back : Int) == (gc m (((j : Nat) : Int) - 1)).sty.back) && true))))) && true))) (fun n => ?_) fun n => ?_
  ·rw [qbF] at n; have d := eq_of_beq n; refine yk <| qa <| q7 <| yp 3 [] (.q6 (((j : Nat) : Int) - 1) .z) <| yE (nB  (fun a ha => D (j - 1) _ ⟨by omega, by omega, qfn (by omega) hl b hd d, h.take 0⟩ (by show j - 1 < j; omega) a (by rw [show ((j - 1 : Nat) : Int) = (j : Int) - 1 by omega]; exact ha.kp [0, 1, 6, 7])))
  rw [qbF] at n; have q : ¬ _ := fun e => absurd (beq_iff_eq.2 e) (by rw [n]; decide); refine qv (eS (qe (qb (nS ?_)))); refine yx 4 <| q8 (yR2 [iX ((k : Nat) : Int), iX ((j : Nat) : Int)] .z ?_); obtain ⟨rfl, rfl⟩ := Prod.mk.inj ((qcY hl hx f b hd (.inr q)).symm.trans hE); exact ⟨rfl, h.ch⟩
 refine yd (uL 4 12) [] .z <| yDe (nS ?_); refine ycf <| qv (eS (qe (qb (nS ?_)))); refine yx 4 <| q8 (yR2 [iX ((k : Nat) : Int), iX ((j : Nat) : Int)] .z ?_); obtain ⟨rfl, rfl⟩ := Prod.mk.inj ((qcY hl hx f b hd (.inl (by omega))).symm.trans hE); exact ⟨rfl, h.ch⟩
theorem qha (b o c n : Nat) (l : List Cel) (w : World) (hT : LT w) (hr : Rd w (some ⟨b, o, none⟩) (flat l)) (hn : l.length = n) (hl : l.length ≤ 60) (hok : ∀ c ∈ l, qcC c.sty) : Calls Tryz.prog 38 [.slice (some ⟨b, o, none⟩) n c].toArray w fun e w' => e = .returned (.string (wrB l)) ∧ Ch (fun _ => False) w w' := by
 subst hn; have h := Sep.nil w; refine yA Tryz.func38 rfl <| yx 1 <| yx 1 <| ys <| yx 3 <| qa <| qa2 [0, 3, 6, 7, 8] (f' := [(0, .slice (some ⟨b, o, none⟩) l.length c), (3, oX), (6, .slice (some ⟨b, o, none⟩) l.length c), (7, iX ((l.length : Nat) : Int)), (8, iX 0)]) <| qG (σ := Nat) (fun k => [(0, .slice (some ⟨b, o, none⟩) l.length c), (3, .string (wrK l k)), (6, .slice (some ⟨b, o, none⟩) l.length c), (7, iX ((l.length : Nat) : Int)), (8, iX ((k : Nat) : Int))]) (fun k u => k ≤ l.length ∧ Sep w (fun _ => False) u []) (fun k => l.length - k) 0 rfl ?_ ?_
 ·exact ⟨Nat.zero_le _, h.take 0⟩
 intro k u t A f; obtain ⟨hk, h⟩ := t; have B : (wrK l k).size ≤ 31 * k := qez hok k (by omega); refine yx 1 <| ys <| yc (rL ((k : Nat) : Int) ((l.length : Nat) : Int)) (fun v => ?_) fun v => ?_
 ·have s := hok _ (gc_in (l := l) (k := k) (by omega)); have C := qbQ s; have D := qgk (gc l ((k : Nat) : Int)).rune; refine yk <| ys <| qa <| ysr <| yp 3 [] (.i ((k : Nat) : Int) (l.length) (.m (qck (i := ((k : Nat) : Int)) (h.rd hr) (by omega) (by omega)) (.m (qs (i := ((k : Nat) : Int)) (h.rd hr) (by omega) (by omega) 1 _ (by decide) rfl) (.m (qs (i := ((k : Nat) : Int)) (h.rd hr) (by omega) (by omega) 2 _ (by decide) rfl) (.m (qs (i := ((k : Nat) : Int)) (h.rd hr) (by omega) (by omega) 3 _ (by decide) rfl) (.m (qs (i := ((k : Nat) : Int)) (h.rd hr) (by omega) (by omega) 4 _ (by decide) rfl) (.m (qs (i := ((k : Nat) : Int)) (h.rd hr) (by omega) (by omega) 5 _ (by decide) rfl) (.e .z)))))))) <| yo (zN [rX 0, .bool false, .bool false, .bool false, iX 0, iX 0] 66 h fun u E h => ?_); refine yq 5 <| yo (zs h 0 fun u h => ?_); refine ye <| ys <| ys <| zD [] h fun u h => yd (uL 0 3) [] .z <| yv [15] (rE ((k : Nat) : Int) 0) (fun x => ?_) fun x => ?_
  ·have g : k = 0 := by omega
   refine yd (uL 3 10) [] .z <| yDe (nS ?_); refine yct <| q7 <| yp 3 [] (.a (h.cs 0 1 5) .z) <| yo (yQ (h.look (qcD (gc l ((k : Nat) : Int)).sty _ (qq h.ch hT (fun _ h => h.elim)) s)) fun u h => ?_); refine yp 6 [] (.p (q := ((wrK l k)).size + ((qfv (gc l ((k : Nat) : Int)).sty)).size ≤ 9223372036854775807) (by (try simp only [ByteArray.size_append]); omega) .z) <| ye <| ysr <| yp 3 [] (.l (h.c 0 0) .z) <| ye <| yc (rI (gc l ((k : Nat) : Int)).rune 0) (fun d => ?_) fun d => ?_
   ·refine q7 <| yp 6 [] (.l (h.c 0 0) (.p (q := (((wrK l k) ++ (qfv (gc l ((k : Nat) : Int)).sty))).size + ((Utf8.encode (gc l ((k : Nat) : Int)).rune)).size ≤ 9223372036854775807) (by (try simp only [ByteArray.size_append]); omega) .z)) <| yE (nB (nS ?_)); refine q7 <| yp 2 [] (.q6 (((k : Nat) : Int) + 1) .z) ?_; have h := h.nrm 0 [rX (gc l ((k : Nat) : Int)).rune, .bool (gc l ((k : Nat) : Int)).sty.bold, .bool (gc l ((k : Nat) : Int)).sty.under, .bool (gc l ((k : Nat) : Int)).sty.turned, iX (gc l ((k : Nat) : Int)).sty.fore, iX (gc l ((k : Nat) : Int)).sty.back]; refine yE (fun a ha => f (k + 1) _ ⟨by omega, h.take 0⟩ (by show l.length - (k + 1) < l.length - k; omega) a (by rw [wrK_ss (.inl g) d]; exact ha.kp [0, 3, 6, 7, 8]))
   refine qk (nB (nS ?_)); refine q7 <| yp 2 [] (.q6 (((k : Nat) : Int) + 1) .z) ?_; have h := h.nrm 0 [rX (gc l ((k : Nat) : Int)).rune, .bool (gc l ((k : Nat) : Int)).sty.bold, .bool (gc l ((k : Nat) : Int)).sty.under, .bool (gc l ((k : Nat) : Int)).sty.turned, iX (gc l ((k : Nat) : Int)).sty.fore, iX (gc l ((k : Nat) : Int)).sty.back]; refine yE (fun a ha => f (k + 1) _ ⟨by omega, h.take 0⟩ (by show l.length - (k + 1) < l.length - k; omega) a (by rw [wrK_sn (.inl g) d]; exact ha.kp [0, 3, 6, 7, 8]))
  have g : ¬ k = 0 := by omega
  refine yd (uL 3 10) [] (.a (h.cs 0 1 5) (.q6 (((k : Nat) : Int) - 1) (.i (((k : Nat) : Int) - 1) (l.length) (.m (qs (i := (((k : Nat) : Int) - 1)) (h.rd hr) (by omega) (by omega) 1 _ (by decide) rfl) (.m (qs (i := (((k : Nat) : Int) - 1)) (h.rd hr) (by omega) (by omega) 2 _ (by decide) rfl) (.m (qs (i := (((k : Nat) : Int) - 1)) (h.rd hr) (by omega) (by omega) 3 _ (by decide) rfl) (.m (qs (i := (((k : Nat) : Int) - 1)) (h.rd hr) (by omega) (by omega) 4 _ (by decide) rfl) (.m (qs (i := (((k : Nat) : Int) - 1)) (h.rd hr) (by omega) (by omega) 5 _ (by decide) rfl) (.e .z))))))))) <| yDe (nS ?_); refine yc (rN (rY (((gc l ((k : Nat) : Int)).sty.bold == (gc l (((k : Nat) : Int) - 1)).sty.bold) && (((gc l ((k : Nat) : Int)).sty.under == (gc l (((k : Nat) : Int) - 1)).sty.under) && (((gc l ((k : Nat) : Int)).sty.turned == (gc l (((k : Nat) : Int) - 1)).sty.turned) && ((((gc l ((k : Nat) : Int)).sty.fore : Int) == (gc l (((k : Nat) : Int) - 1)).sty.fore) && ((((gc l ((k : Nat) : Int)).sty.back : Int) == (gc l (((k : Nat) : Int) - 1)).sty.back) && true))))))) (fun j => ?_) fun j => ?_
  ·rw [qiA] at j; have r := of_decide_eq_false j; refine q7 <| yp 3 [] (.a (h.cs 0 1 5) .z) <| yo (yQ (h.look (qcD (gc l ((k : Nat) : Int)).sty _ (qq h.ch hT (fun _ h => h.elim)) s)) fun u h => ?_); refine yp 6 [] (.p (q := ((wrK l k)).size + ((qfv (gc l ((k : Nat) : Int)).sty)).size ≤ 9223372036854775807) (by (try simp only [ByteArray.size_append]); omega) .z) <| ye <| ysr <| yp 3 [] (.l (h.c 0 0) .z) <| ye <| yc (rI (gc l ((k : Nat) : Int)).rune 0) (fun d => ?_) fun d => ?_
   ·refine q7 <| yp 6 [] (.l (h.c 0 0) (.p (q := (((wrK l k) ++ (qfv (gc l ((k : Nat) : Int)).sty))).size + ((Utf8.encode (gc l ((k : Nat) : Int)).rune)).size ≤ 9223372036854775807) (by (try simp only [ByteArray.size_append]); omega) .z)) <| yE (nB (nS ?_)); refine q7 <| yp 2 [] (.q6 (((k : Nat) : Int) + 1) .z) ?_; have h := h.nrm 0 [rX (gc l ((k : Nat) : Int)).rune, .bool (gc l ((k : Nat) : Int)).sty.bold, .bool (gc l ((k : Nat) : Int)).sty.under, .bool (gc l ((k : Nat) : Int)).sty.turned, iX (gc l ((k : Nat) : Int)).sty.fore, iX (gc l ((k : Nat) : Int)).sty.back]; refine yE (fun a ha => f (k + 1) _ ⟨by omega, h.take 0⟩ (by show l.length - (k + 1) < l.length - k; omega) a (by rw [wrK_ss (.inr r) d]; exact ha.kp [0, 3, 6, 7, 8]))
   refine qk (nB (nS ?_)); refine q7 <| yp 2 [] (.q6 (((k : Nat) : Int) + 1) .z) ?_; have h := h.nrm 0 [rX (gc l ((k : Nat) : Int)).rune, .bool (gc l ((k : Nat) : Int)).sty.bold, .bool (gc l ((k : Nat) : Int)).sty.under, .bool (gc l ((k : Nat) : Int)).sty.turned, iX (gc l ((k : Nat) : Int)).sty.fore, iX (gc l ((k : Nat) : Int)).sty.back]; refine yE (fun a ha => f (k + 1) _ ⟨by omega, h.take 0⟩ (by show l.length - (k + 1) < l.length - k; omega) a (by rw [wrK_sn (.inr r) d]; exact ha.kp [0, 3, 6, 7, 8]))
  rw [qiA] at j; have r := of_decide_eq_true j; refine yk <| ysr <| yp 3 [] (.l (h.c 0 0) .z) <| ye <| yc (rI (gc l ((k : Nat) : Int)).rune 0) (fun d => ?_) fun d => ?_
  ·refine q7 <| yp 6 [] (.l (h.c 0 0) (.p (q := ((wrK l k)).size + ((Utf8.encode (gc l ((k : Nat) : Int)).rune)).size ≤ 9223372036854775807) (by (try simp only [ByteArray.size_append]); omega) .z)) <| yE (nB (nS ?_)); refine q7 <| yp 2 [] (.q6 (((k : Nat) : Int) + 1) .z) ?_; have h := h.nrm 0 [rX (gc l ((k : Nat) : Int)).rune, .bool (gc l ((k : Nat) : Int)).sty.bold, .bool (gc l ((k : Nat) : Int)).sty.under, .bool (gc l ((k : Nat) : Int)).sty.turned, iX (gc l ((k : Nat) : Int)).sty.fore, iX (gc l ((k : Nat) : Int)).sty.back]; refine yE (fun a ha => f (k + 1) _ ⟨by omega, h.take 0⟩ (by show l.length - (k + 1) < l.length - k; omega) a (by rw [wrK_ns g r d]; exact ha.kp [0, 3, 6, 7, 8]))
  refine qk (nB (nS ?_)); refine q7 <| yp 2 [] (.q6 (((k : Nat) : Int) + 1) .z) ?_; have h := h.nrm 0 [rX (gc l ((k : Nat) : Int)).rune, .bool (gc l ((k : Nat) : Int)).sty.bold, .bool (gc l ((k : Nat) : Int)).sty.under, .bool (gc l ((k : Nat) : Int)).sty.turned, iX (gc l ((k : Nat) : Int)).sty.fore, iX (gc l ((k : Nat) : Int)).sty.back]; refine yE (fun a ha => f (k + 1) _ ⟨by omega, h.take 0⟩ (by show l.length - (k + 1) < l.length - k; omega) a (by rw [wrK_nn g r d]; exact ha.kp [0, 3, 6, 7, 8]))
 have y : k = l.length := by omega
 refine qv (eS (qe (qb (nS ?_)))); refine yx 2 <| q8 (yR1 (.string (wrK l k)) ?_); refine ⟨?_, h.ch⟩; unfold wrB; rw [← y]
theorem qaR {p q : Nat} {A B : Vw} {F1 F2 : Nat → Prop} (w : World) (hT : LT w) (hA : GridAt w p A.g F1) (hB : GridAt w q B.g F2) (hw : A.g.w = B.g.w) (hh : A.g.h = B.g.h) (hx : 0 ≤ B.x ∧ B.x ≤ 60) (hy : 0 ≤ B.y ∧ B.y ≤ 60) (hst : ∀ l ∈ B.g.lines, ∀ c ∈ l, qcC c.sty) : Calls Tryz.prog 14 [.agg #[pX p, iX A.x, iX A.y, .bool A.hid], .agg #[pX q, iX B.x, iX B.y, .bool B.hid]].toArray w fun e w' => e = .returned (.string (qaN A B)) ∧ Ch (fun _ => False) w w' := by
 obtain ⟨r1, aq, V, o⟩ := hA; obtain ⟨r2, au, F, f⟩ := hB; have av := o.len; have aw := f.len; have ax := f.ok.2.1; have ay := f.ok.1; have az := f.ok.2.2.1; have C : ∀ l ∈ B.g.lines, l.length ≤ 60 ∧ ∀ c ∈ l, qcC c.sty := fun l hl => ⟨by have := f.ok.2.2.2 l hl; omega, hst l hl⟩
 have aA := qgm (A := A) C (by omega) (by omega); have aB := df2_size (A := A) C (by omega) (by omega) hx hy; have aC := qeA (A := A.g) C B.g.h.toNat (by omega) (by omega); have W : qcC qbU := ⟨⟨Int.le_refl _, by decide⟩, Int.le_refl _, by decide⟩
 have aD := qbQ W; have aE := qey hx hy; have h := Sep.nil w; refine yA Tryz.func14 rfl <| ysr <| yo (zN [pX p, iX A.x, iX A.y, .bool A.hid] 30 h fun u r h => ?_); refine yo (zN [pX q, iX B.x, iX B.y, .bool B.hid] 30 h fun u t h => ?_); refine yz 3 <| yx 1 <| ys <| ysr <| yp 6 [] (.l (h.c 1 0) (.l (qF h.ch (f.head.c 1) id) .z)) <| ye <| qa <| qa2 [2, 3, 5, 13, 14] (f' := [(2, pX r), (3, pX t), (5, oX), (13, iX B.g.h), (14, iX 0)]) <| qG (σ := Nat) (fun k => [(2, pX r), (3, pX t), (5, .string (dfK A.g B.g k)), (13, iX B.g.h), (14, iX ((k : Nat) : Int))]) (fun k u => k ≤ B.g.h.toNat ∧ Sep w (fun _ => False) u [qg r [pX p, iX A.x, iX A.y, .bool A.hid] 30, qg t [pX q, iX B.x, iX B.y, .bool B.hid] 30]) (fun k => B.g.h.toNat - k) 0 rfl ?_ ?_
 ·exact ⟨Nat.zero_le _, h.take 2⟩
 intro k u a8 aF X; obtain ⟨hk, h⟩ := a8; have aG := qeA (A := A.g) C k (by omega) (by omega); refine yx 1 <| ys <| yc (rL ((k : Nat) : Int) B.g.h) (fun a9 => ?_) fun a9 => ?_
 ·obtain ⟨m, Y, G⟩ := qix (rows := V) (k := k) (by omega); obtain ⟨d, H, v⟩ := qix (rows := F) (k := k) (by omega); have Z := glq o Y; have e2 := glq f H; have aH : m.l.length = A.g.w.toNat := o.ok.2.2.2 _ (o.lines ▸ List.mem_map_of_mem G); have a1 : d.l ∈ B.g.lines := f.lines ▸ List.mem_map_of_mem v; have aI : d.l.length = B.g.w.toNat := f.ok.2.2.2 _ a1; have aJ : d.l.length ≤ d.cap := (f.line d v).1.2.1; have aK := (f.line d v).2; obtain ⟨x, e, hE⟩ : ∃ x e, qbG m.l d.l = (x, e) := ⟨_, _, rfl⟩
  have aL : e ≤ d.l.length := by have := qgl m.l d.l; rw [hE] at this; exact this
  refine yk <| ys <| qa <| yx 2 <| ys <| zD [16] h fun u h => yd (uL 0 16) [] (.l (h.c 0 0) (.l (qF h.ch (o.head.c 2) id) (.i ((k : Nat) : Int) (V.length) (.l (qfQ (Ch.rd h.ch o.body.rd id) Y) (.l (h.c 1 0) (.l (qF h.ch (f.head.c 2) id) (.i ((k : Nat) : Int) (F.length) (.l (qfQ (Ch.rd h.ch f.body.rd id) H) .z)))))))) <| yK 16 (yQ (h.look (ends_any m.b d.b m.cap d.cap m.n d.n x e m.l d.l _ (Ch.rd h.ch (o.line m G).1.rd id) (Ch.rd h.ch (f.line d v).1.rd id) (o.line m G).2 (f.line d v).2 (by omega) (by omega) hE)) fun u h => ?_); refine q9 <| yd (uL 17 5) [] .z <| yDe (nS ?_); refine yx 3 <| yc (rL ((x : Nat) : Int) ((e : Nat) : Int)) (fun I => ?_) fun I => ?_
  ·have aM := qey (x := (x : Int)) (y := ((k : Nat) : Int)) (by omega) (by omega); have a2 : ∀ c ∈ (d.l.take e).drop x, qcC c.sty := fun c hc => (C _ a1).2 c (List.mem_of_mem_take (List.mem_of_mem_drop hc)); have a3 : ((d.l.take e).drop x).length = e - x := by rw [List.length_drop, List.length_take]; omega
   have aN : (wrB ((d.l.take e).drop x)).size ≤ 31 * (e - x) := a3 ▸ qez a2 _ (Nat.le_refl _); refine zDC [15] [0, 1] h fun u h => ydF [0, 1, 2, 4, 5, 6, 7, 8, 9, 10, 11, 12, 13, 14] [] h.on (fun u h => (.l (h.c 1 0) (.l (qF h.ch (f.head.c 2) id) (.i ((k : Nat) : Int) (F.length) (.l (qfQ (Ch.rd h.ch f.body.rd id) H) (.j ((e : Nat) : Int) (d.cap) (.j ((x : Nat) : Int) ((((e : Nat) : Int) : Int).toNat) .z))))))) <| yH 3 (yQ (h.look (qgn (((x : Nat) : Int)) (((k : Nat) : Int)) _ (qq h.ch hT (fun _ h => h.elim)) (by omega) (by omega))) fun u h => ?_); refine zH h <| yK 15 (yQ (h.look (qha d.b ((if d.cap = (((x : Nat) : Int) : Int).toNat then 0 else 0 + (((x : Nat) : Int) : Int).toNat * 6)) ((d.cap - (((x : Nat) : Int) : Int).toNat)) (((((e : Nat) : Int) : Int).toNat - (((x : Nat) : Int) : Int).toNat)) ((d.l.take e).drop x) _ (qq h.ch hT (fun _ h => h.elim)) (qh8 (rd_take (Ch.rd h.ch (f.line d v).1.rd id) e) (by rw [List.length_take]; omega)) (by rw [a3, Int.toNat_natCast, Int.toNat_natCast]) (by omega) a2)) fun u h => ?_); refine q9 <| yd (uL 16 3) [] (.p (q := ((toB ((x : Nat) : Int) ((k : Nat) : Int))).size + ((wrB ((d.l.take e).drop x))).size ≤ 9223372036854775807) (by (try simp only [ByteArray.size_append, qav, qaw]); omega) (.p (q := ((dfK A.g B.g k)).size + (((toB ((x : Nat) : Int) ((k : Nat) : Int)) ++ (wrB ((d.l.take e).drop x)))).size ≤ 9223372036854775807) (by (try simp only [ByteArray.size_append, qav, qaw]); omega) .z)) <| yDe (nB (nS ?_))
   refine q7 <| yp 2 [] (.q6 (((k : Nat) : Int) + 1) .z) <| yE (fun a ha => X (k + 1) _ ⟨by omega, h.take 2⟩ (by show B.g.h.toNat - (k + 1) < B.g.h.toNat - k; omega) a (by rw [dfK_on Z e2 hE I]; exact ha.kp [2, 3, 5, 13, 14]))
  refine qk (nB (nS ?_)); refine q7 <| yp 2 [] (.q6 (((k : Nat) : Int) + 1) .z) <| yE (fun a ha => X (k + 1) _ ⟨by omega, h.take 2⟩ (by show B.g.h.toNat - (k + 1) < B.g.h.toNat - k; omega) a (by rw [dfK_off Z e2 hE I]; exact ha.kp [2, 3, 5, 13, 14]))
 have D : k = B.g.h.toNat := by omega
 refine qv (eS (qe (qb (nS ?_)))); refine qbi ([(2, pX r), (3, pX t), (5, .string (df1 A B))]) (fun u => Sep w (fun _ => False) u [qg r [pX p, iX A.x, iX A.y, .bool A.hid] 30, qg t [pX q, iX B.x, iX B.y, .bool B.hid] 30]) (fun aO a4 => ?_) (fun u h => ?_)
 ·refine yx 2 <| yc (rN (rY (((dfK A.g B.g k)).toList == (ByteArray.empty).toList))) (fun J => ?_) fun J => ?_
  ·have a5 := J; rw [D] at a5; refine q7 <| yq 2 <| yo (yQ (h.look (qcD qbU _ (qq h.ch hT (fun _ h => h.elim)) W)) fun u h => ?_); refine yp 5 [] (.p (q := ((dfK A.g B.g k)).size + ((qfv qbU)).size ≤ 9223372036854775807) (by (try simp only [ByteArray.size_append, qav, qaw]); omega) .z) <| yE (fun a ha => a4 _ h a (by rw [show (df1 A B) = ((dfK A.g B.g k) ++ (qfv qbU)) from by rw [D]; exact if_neg (none_f a5)]; exact ha.kp [2, 3, 5]))
  have a6 := J; rw [D] at a6; refine qk (fun a ha => a4 _ h a (by rw [show (df1 A B) = (dfK A.g B.g k) from by rw [D]; exact if_pos (none_iff.1 a6)]; exact ha.kp [2, 3, 5]))
 refine qbi ([(2, pX r), (3, pX t), (5, .string (df2 A B))]) (fun u => Sep w (fun _ => False) u [qg r [pX p, iX A.x, iX A.y, .bool A.hid] 30, qg t [pX q, iX B.x, iX B.y, .bool B.hid] 30]) (fun aP E => ?_) (fun u h => ?_)
 ·refine ysr <| yq 3 <| yw [67] (rN (rY (((df1 A B)).toList == (ByteArray.empty).toList))) (fun K => ?_) fun K => ?_
  ·have aa := K; refine yz 16 <| yct <| q7 <| yp 5 [] (.l (h.c 1 1) (.l (h.c 1 2) .z)) <| yo (yQ (h.look (qgn (B.x) (B.y) _ (qq h.ch hT (fun _ h => h.elim)) (by omega) (by omega))) fun u h => ?_); refine yp 8 [] (.p (q := ((df1 A B)).size + ((toB B.x B.y)).size ≤ 9223372036854775807) (by (try simp only [ByteArray.size_append, qav, qaw]); omega) .z) <| yE (fun a ha => E _ h a (by rw [show (df2 A B) = ((df1 A B) ++ (toB B.x B.y)) from by exact if_pos (.inl (none_f aa))]; exact ha.kp [2, 3, 5]))
  have ab := K; refine yp 10 [] (.l (h.c 0 1) (.l (h.c 1 1) .z)) <| yw [74] (rI A.x B.x) (fun L => ?_) fun L => ?_
  ·have ac := L; refine yz 16 <| yct <| q7 <| yp 5 [] (.l (h.c 1 1) (.l (h.c 1 2) .z)) <| yo (yQ (h.look (qgn (B.x) (B.y) _ (qq h.ch hT (fun _ h => h.elim)) (by omega) (by omega))) fun u h => ?_); refine yp 8 [] (.p (q := ((df1 A B)).size + ((toB B.x B.y)).size ≤ 9223372036854775807) (by (try simp only [ByteArray.size_append, qav, qaw]); omega) .z) <| yE (fun a ha => E _ h a (by rw [show (df2 A B) = ((df1 A B) ++ (toB B.x B.y)) from by exact if_pos (.inr (.inl ac))]; exact ha.kp [2, 3, 5]))
  have ad := L; refine yp 16 [] (.l (h.c 0 2) (.l (h.c 1 2) .z)) <| ye <| yc (rI A.y B.y) (fun M => ?_) fun M => ?_
  ·have ae := M; refine q7 <| yp 5 [] (.l (h.c 1 1) (.l (h.c 1 2) .z)) <| yo (yQ (h.look (qgn (B.x) (B.y) _ (qq h.ch hT (fun _ h => h.elim)) (by omega) (by omega))) fun u h => ?_); refine yp 8 [] (.p (q := ((df1 A B)).size + ((toB B.x B.y)).size ≤ 9223372036854775807) (by (try simp only [ByteArray.size_append, qav, qaw]); omega) .z) <| yE (fun a ha => E _ h a (by rw [show (df2 A B) = ((df1 A B) ++ (toB B.x B.y)) from by exact if_pos (.inr (.inr ae))]; exact ha.kp [2, 3, 5]))
  have af := M; refine qk (fun a ha => E _ h a (by rw [show (df2 A B) = (df1 A B) from by exact if_neg (fun h => h.elim (fun h => h (none_iff.1 ab)) fun h => h.elim (fun h => h ad) fun h => h af)]; exact ha.kp [2, 3, 5]))
 refine ys <| qa <| ysr <| yp 3 [] (.l (h.c 1 3) .z) <| yw [91] (rY B.hid) (fun N => ?_) fun N => ?_
 ·have O := N; refine yp 8 [] (.l (h.c 0 3) .z) <| ye <| yc (rN (rY A.hid)) (fun P => ?_) fun P => ?_
  ·have ag := P; refine q7 <| yp 3 [] (.p (q := ((df2 A B)).size + (hideB).size ≤ 9223372036854775807) (by (try simp only [ByteArray.size_append, qav, qaw]); omega) .z) <| yE (nB (nS ?_)); refine yx 2 <| q8 (yR1 (.string ((df2 A B) ++ hideB)) ?_); refine ⟨congrArg (fun s => Ending.returned (Value.string s)) ?_, h.ch⟩; unfold qaN; simp [O, ag]
  have a7 := P; refine ysr <| yp 3 [] (.l (h.c 0 3) .z) <| yw [101] (rY A.hid) (fun Q => ?_) fun Q => ?_
  ·have ah := Q; refine yp 8 [] (.l (h.c 1 3) .z) <| ye <| yc (rN (rY B.hid)) (fun R => ?_) fun R => ?_
   ·have ai := R; exact absurd (O.symm.trans ai) (by decide)
   have aj := R; refine qk (nB (nS ?_)); refine yx 2 <| q8 (yR1 (.string (df2 A B)) ?_); refine ⟨congrArg (fun s => Ending.returned (Value.string s)) ?_, h.ch⟩; unfold qaN; simp [O, a7, ah, aj]
  have ak := Q; exact absurd (a7.symm.trans ak) (by decide)
 have S := N; refine yz 8 <| ycf <| ysr <| yp 3 [] (.l (h.c 0 3) .z) <| yw [101] (rY A.hid) (fun T => ?_) fun T => ?_
 ·have al := T; refine yp 8 [] (.l (h.c 1 3) .z) <| ye <| yc (rN (rY B.hid)) (fun U => ?_) fun U => ?_
  ·have am := U; refine q7 <| yp 3 [] (.p (q := ((df2 A B)).size + (showB).size ≤ 9223372036854775807) (by (try simp only [ByteArray.size_append, qav, qaw]); omega) .z) <| yE (nB (nS ?_)); refine yx 2 <| q8 (yR1 (.string ((df2 A B) ++ showB)) ?_); refine ⟨congrArg (fun s => Ending.returned (Value.string s)) ?_, h.ch⟩; unfold qaN; simp [S, al, am]
  have an := U; exact absurd (S.symm.trans an) (by decide)
 have ao := T; refine yz 8 <| ycf <| qk (nB (nS ?_)); refine yx 2 <| q8 (yR1 (.string (df2 A B)) ?_); refine ⟨congrArg (fun s => Ending.returned (Value.string s)) ?_, h.ch⟩; unfold qaN; simp [S, ao]
def qcl (s : Sty) : Bool := decide ((0 ≤ s.fore ∧ s.fore ≤ 8) ∧ 0 ≤ s.back ∧ s.back ≤ 8)
def tameC (c : Cel) : Cel := ⟨if ¬ c.rune = 0 ∧ qa7 c.rune = false then 120 else c.rune, if qcl c.sty = true then c.sty else qbU⟩
abbrev qa6 (l : List Cel) : List Cel := l.map tameC
theorem qbm {l : List Cel} {k : Nat} {c : Cel} (hk : k < l.length) (e : tameC (gc l (k : Int)) = c) : flat ((qa6 l).take k) ++ c.vals = flat ((qa6 l).take (k + 1)) := by
 rw [List.take_succ_eq_append_getElem (by rw [List.length_map]; exact hk), qaP, List.getElem_map, ← gc_at hk, e]
 simp [flat]
theorem qcE {c d : Cel} (h1 : (if ¬ c.rune = 0 ∧ qa7 c.rune = false then 120 else c.rune) = d.rune) (h2 : (if qcl c.sty = true then c.sty else qbU) = d.sty) : tameC c = d := by
 unfold tameC
 rw [h1, h2]
theorem tame_all {l : List Cel} {k : Nat} (hk : k = l.length) : (qa6 l).take k = qa6 l := List.take_of_length_le (by rw [List.length_map]; omega)
def qcF : List Cel → Gr → Int → Gr
 | [], G, _ => G
 | c :: l, G, i => if G.w * G.h ≤ i then G else qcF l (qd4 G (i % G.w) (i / G.w) c) (if qZ c.rune = true then i + 2 else i + 1)
abbrev qdl (p1 p2 : Int) (l : List Cel) : Gr := qcF (qa6 l) (qcW p1 p2) 0
theorem qhb {l : List Cel} {k : Nat} {G : Gr} {i : Int} (hk : k < l.length) (h : ¬ G.w * G.h ≤ i) : qcF (l.drop k) G i = qcF (l.drop (k + 1)) (qd4 G (i % G.w) (i / G.w) (gc l (k : Int))) (if qZ (gc l (k : Int)).rune = true then i + 2 else i + 1) := by
 rw [List.drop_eq_getElem_cons hk, gc_at hk]
 conv => lhs; unfold qcF
 rw [if_neg h]
theorem qhc {l : List Cel} {k : Nat} {G : Gr} {i : Int} (hk : k < l.length) (h : G.w * G.h ≤ i) : qcF (l.drop k) G i = G := by
 rw [List.drop_eq_getElem_cons hk]
 unfold qcF
 rw [if_pos h]
theorem qiC {l : List Cel} {k : Nat} {G : Gr} {i : Int} (hk : k = l.length) : qcF (l.drop k) G i = G := by
 rw [hk, List.drop_length]; rfl
theorem mul_bd {w h : Int} (hw : 1 ≤ w ∧ w ≤ 60) (hh : 1 ≤ h ∧ h ≤ 60) : 1 ≤ w * h ∧ w * h ≤ 3600 :=
 ⟨by have := Int.mul_le_mul hw.1 hh.1 (by omega) (by omega); omega, by have := Int.mul_le_mul hw.2 hh.2 (by omega) (by omega); omega⟩
theorem div_bd {i w : Int} (hi : 0 ≤ i) (hw : 1 ≤ w) : (0 ≤ i / w ∧ i / w ≤ i) ∧ 0 ≤ i % w ∧ i % w < w :=
 ⟨⟨Int.ediv_nonneg hi (by omega), Int.ediv_le_self _ hi⟩, Int.emod_nonneg _ (by omega), Int.emod_lt_of_pos _ (by omega)⟩
structure Lk where
 a : Option Addr
 n : Nat
 cap : Nat
 x : Int
 y : Int
 hid : Bool
def Lk.vals (k : Lk) : List Value := [.slice k.a k.n k.cap, .int .i64 k.x, .int .i64 k.y, .bool k.hid]
def viewV (p1 p2 : Int) (l : List Cel) (x y : Int) (hid : Bool) : Vw := let G := qdl p1 p2 l; ⟨G, qu .and .i64 x 65535 % G.w, qu .and .i64 y 65535 % G.h, hid⟩
def qan (A B : Vw) : Bool := decide (A.x = B.x) && decide (A.y = B.y) && (A.hid == B.hid) && grB A.g B.g
def lkV : List Lk → List Value
 | [] => []
 | k :: l => k.vals ++ lkV l
def gk (ls : List Lk) (i : Nat) : Lk := ls.getD i ⟨none, 0, 0, 0, 0, false⟩
theorem qiD : ∀ (ls : List Lk) (i j : Nat), i < ls.length → j < 4 → (lkV ls)[i * 4 + j]? = (gk ls i).vals[j]?
 | [], i, j, h, _ => by simp at h
 | k :: l, 0, j, _, hj => by
  show (k.vals ++ lkV l)[0 * 4 + j]? = k.vals[j]?
  rw [Nat.zero_mul, Nat.zero_add, List.getElem?_append_left (by exact hj)]
 | k :: l, i + 1, j, h, hj => by
  show (k.vals ++ lkV l)[(i + 1) * 4 + j]? = _
  rw [List.getElem?_append_right (by show 4 ≤ _; omega), show (i + 1) * 4 + j - k.vals.length = i * 4 + j by show (i + 1) * 4 + j - 4 = _; omega, qiD l i j (by simpa using h) hj]; rfl
theorem qeB {w : World} {b o : Nat} {ls : List Lk} {i : Nat} (h : Rd w (some ⟨b, o, none⟩) (lkV ls)) (hi : i < ls.length) (j : Nat) (v : Value) (hj : j < 4) (hv : (gk ls i).vals[j]? = some v) : w.cell? ⟨b, o + ((i : Nat) : Int).toNat * 4 + j, none⟩ = some v := by
 rw [Nat.add_assoc, Int.toNat_natCast]
 exact qbe h _ v (by rw [qiD ls i j hi hj]; exact hv)
def fewB (ls : List Lk) : Bool := decide (ls.length ≤ 12) && ls.all fun k => decide (k.n ≤ 400)
theorem few_len {ls : List Lk} (h : 12 < ls.length) : false = fewB ls := by
 unfold fewB
 rw [decide_eq_false (by omega)]; rfl
theorem few_at {ls : List Lk} {k : Nat} (hk : k < ls.length) (h : 400 < (gk ls k).n) : false = fewB ls := by
 unfold fewB
 symm
 rw [Bool.and_eq_false_iff]
 refine .inr (Bool.eq_false_iff.2 fun e => ?_)
 have := List.all_eq_true.1 e (gk ls k) (by unfold gk; rw [List.getD_eq_getElem?_getD, List.getElem?_eq_getElem hk, Option.getD_some]; exact List.getElem_mem hk)
 have := of_decide_eq_true this
 omega
theorem few_t {ls : List Lk} (h1 : ls.length ≤ 12) (h : ∀ j, j < ls.length → (gk ls j).n ≤ 400) : true = fewB ls := by
 unfold fewB
 rw [decide_eq_true h1, Bool.true_and]
 symm
 refine List.all_eq_true.2 fun x hx => ?_
 obtain ⟨i, hi, rfl⟩ := List.getElem_of_mem hx
 have := h i hi
 unfold gk at this
 rw [List.getD_eq_getElem?_getD, List.getElem?_eq_getElem hi, Option.getD_some] at this
 exact decide_eq_true this
def qO (r a b : Int) : Bool := decide (a ≤ r) && decide (r ≤ b)
theorem qM (r a b : Int) (w : World) : Calls Tryz.prog 67 [rX r, rX a, rX b].toArray w fun e w' => e = .returned (.bool (qO r a b)) ∧ Ch (fun _ => False) w w' := by
 refine yA Tryz.func67 rfl <| yx 1 <| ysr <| yq 4 <| yw [10] (rM a r) (fun c => ?_) fun c => ?_
 ·refine yz 9 <| q8 (yR1 (.bool (decide (r ≤ b))) ?_); refine ⟨zc ?_, Up.ch (zm w)⟩; unfold qO; simp [*]
 refine yz 9 <| q8 (yR1 (.bool false) ?_); refine ⟨zc ?_, Up.ch (zm w)⟩; unfold qO; simp [*]
theorem ite_no {c : Prop} [Decidable c] {b : Bool} : (if c then false else b) = (!decide c && b) := by by_cases h : c <;> simp [h]
theorem ite_yes {c : Prop} [Decidable c] {b : Bool} : (if c then true else b) = (decide c || b) := by by_cases h : c <;> simp [h]
theorem qdm (r : Int) : qa7 r = (qO r 32 126 || qO r 128 55295 || qO r 57344 1114111) := by
 unfold qa7 qO; rw [Bool.eq_iff_iff]; simp only [Bool.and_eq_true, Bool.or_eq_true, decide_eq_true_eq]; omega
theorem qaH (r : Int) : qZ r = (qO r 4352 4447 || qO r 11904 12350 || qO r 12352 42191 || qO r 44032 55203 || qO r 63744 64255 || qO r 65072 65135 || qO r 65280 65376 || qO r 65504 65510 || qO r 127744 128591 || qO r 131072 262141) := by
 unfold qZ wideL qO; rw [Bool.eq_iff_iff]; simp only [qd0, ite_no, ite_yes, Bool.and_eq_true, Bool.or_eq_true, Bool.not_eq_true', decide_eq_true_eq, decide_eq_false_iff_not, beq_eq_false_iff_ne, Bool.false_eq_true, or_false]; omega
theorem qe0 (r : Int) (w : World) : Calls Tryz.prog 71 [rX r].toArray w fun e w' => e = .returned (.bool (qa7 r)) ∧ Ch (fun _ => False) w w' := by
 refine yA Tryz.func71 rfl <| yx 1 <| ysr <| yq 1 <| yo (yQ (qM r 32 126 _) fun j f => ?_); have c := zu (zm w) f iZ; refine yq 3 <| yw [5] (rY (qO r 32 126)) (fun a => ?_) fun a => ?_
 ·have k := a; refine yz 11 <| q8 (yR1 (.bool true) ?_); refine ⟨zc ?_, Up.ch c⟩; rw [qdm]; simp [*]
 have l := a; refine yq 4 <| yo (yQ (qM r 128 55295 _) fun m g => ?_); have d := zu c g iZ; refine yq 7 <| yw [9] (rY (qO r 128 55295)) (fun b => ?_) fun b => ?_
 ·have n := b; refine yz 11 <| q8 (yR1 (.bool true) ?_); refine ⟨zc ?_, Up.ch d⟩; rw [qdm]; simp [*]
 have o := b; refine yq 8 <| yo (yQ (qM r 57344 1114111 _) fun p h => ?_); have i := zu d h iZ; refine yz 11 <| q8 (yR1 (.bool (qO r 57344 1114111)) ?_); refine ⟨zc ?_, Up.ch i⟩; rw [qdm]; simp [*]
theorem qiE (r : Int) (w : World) : Calls Tryz.prog 44 [rX r].toArray w fun e w' => e = .returned (.bool (qZ r)) ∧ Ch (fun _ => False) w w' := by
 refine yA Tryz.func44 rfl <| yx 1 <| ys <| ysr <| yq 1 <| yo (yQ (qM r 4352 4447 _) fun G u => ?_); have k := zu (zm w) u iZ; refine yq 3 <| yw [5] (rY (qO r 4352 4447)) (fun a => ?_) fun a => ?_
 ·have H := a; refine yz 14 <| yct <| yx 1 <| q8 (rS (yR1 (.bool true) ?_)); refine ⟨zc ?_, Up.ch k⟩; rw [qaH]; simp [*]
 have I := a; refine yq 4 <| yo (yQ (qM r 11904 12350 _) fun J v => ?_); have l := zu k v iZ; refine yq 7 <| yw [9] (rY (qO r 11904 12350)) (fun b => ?_) fun b => ?_
 ·have K := b; refine yz 14 <| yct <| yx 1 <| q8 (rS (yR1 (.bool true) ?_)); refine ⟨zc ?_, Up.ch l⟩; rw [qaH]; simp [*]
 have L := b; refine yq 8 <| yo (yQ (qM r 12352 42191 _) fun M x => ?_); have m := zu l x iZ; refine yq 11 <| yw [13] (rY (qO r 12352 42191)) (fun c => ?_) fun c => ?_
 ·have N := c; refine yz 14 <| yct <| yx 1 <| q8 (rS (yR1 (.bool true) ?_)); refine ⟨zc ?_, Up.ch m⟩; rw [qaH]; simp [*]
 have O := c; refine yq 12 <| yo (yQ (qM r 44032 55203 _) fun P y => ?_); have n := zu m y iZ; refine yz 14 <| yc (rY (qO r 44032 55203)) (fun d => ?_) fun d => ?_
 ·have Q := d; refine yx 1 <| q8 (rS (yR1 (.bool true) ?_)); refine ⟨zc ?_, Up.ch n⟩; rw [qaH]; simp [*]
 have R := d; refine yk <| ys <| ysr <| yq 1 <| yo (yQ (qM r 63744 64255 _) fun S z => ?_); have o := zu n z iZ; refine yq 3 <| yw [19] (rY (qO r 63744 64255)) (fun f => ?_) fun f => ?_
 ·have T := f; refine yz 14 <| yct <| yx 1 <| q8 (rS (yR1 (.bool true) ?_)); refine ⟨zc ?_, Up.ch o⟩; rw [qaH]; simp [*]
 have U := f; refine yq 4 <| yo (yQ (qM r 65072 65135 _) fun V A => ?_); have p := zu o A iZ; refine yq 7 <| yw [23] (rY (qO r 65072 65135)) (fun g => ?_) fun g => ?_
 ·have W := g; refine yz 14 <| yct <| yx 1 <| q8 (rS (yR1 (.bool true) ?_)); refine ⟨zc ?_, Up.ch p⟩; rw [qaH]; simp [*]
 have X := g; refine yq 8 <| yo (yQ (qM r 65280 65376 _) fun Y B => ?_); have q := zu p B iZ; refine yq 11 <| yw [27] (rY (qO r 65280 65376)) (fun h => ?_) fun h => ?_
 ·have Z := h; refine yz 14 <| yct <| yx 1 <| q8 (rS (yR1 (.bool true) ?_)); refine ⟨zc ?_, Up.ch q⟩; rw [qaH]; simp [*]
 have a0 := h; refine yq 12 <| yo (yQ (qM r 65504 65510 _) fun a1 C => ?_); have s := zu q C iZ; refine yz 14 <| yc (rY (qO r 65504 65510)) (fun i => ?_) fun i => ?_
 ·have a2 := i; refine yx 1 <| q8 (rS (yR1 (.bool true) ?_)); refine ⟨zc ?_, Up.ch s⟩; rw [qaH]; simp [*]
 have a3 := i; refine yk <| ysr <| yq 1 <| yo (yQ (qM r 127744 128591 _) fun a4 D => ?_); have t := zu s D iZ; refine yq 3 <| yw [33] (rY (qO r 127744 128591)) (fun j => ?_) fun j => ?_
 ·have a5 := j; refine yz 7 <| q8 (yR1 (.bool true) ?_); refine ⟨zc ?_, Up.ch t⟩; rw [qaH]; simp [*]
 have a6 := j; refine yq 4 <| yo (yQ (qM r 131072 262141 _) fun a7 E => ?_); have F := zu t E iZ; refine yz 7 <| q8 (yR1 (.bool (qO r 131072 262141)) ?_); refine ⟨zc ?_, Up.ch F⟩; rw [qaH]; simp [*]
def Fine (T : TS) : Prop := (∃ W H, Lim W H T) ∧ T.parser.lim
theorem qe1 (p1 p2 : Int) : Fine (startT zeroT p1 p2) := ⟨⟨_, _, qdh zeroT p1 p2 (by decide)⟩, qaC 0⟩
structure Sys (w0 w : World) (bs : List (Nat × List Value × TypeId)) (ts : List (Nat × TS)) : Prop where
 ch : Ch (fun _ => False) w0 w
 lt : LT w
 top : gTop ≤ w0.heap.size
 blk : ∀ (i : Nat) x, bs[i]? = some x → Blk w x.1 x.2.1 x.2.2
 lo : ∀ (i : Nat) x, bs[i]? = some x → w0.heap.size ≤ x.1
 df : ∀ (i j : Nat) x y, bs[i]? = some x → bs[j]? = some y → i ≠ j → x.1 ≠ y.1
 tm : ∃ F : Nat → Nat → Prop, (∀ (i : Nat) x, ts[i]? = some x → TermAt w x.1 x.2 (F i) ∧ Fine x.2) ∧ (∀ i j, i ≠ j → ∀ b, F i b → ¬ F j b) ∧ (∀ i b, F i b → w0.heap.size ≤ b ∧ b < w.heap.size) ∧ ∀ (i j : Nat) x, bs[i]? = some x → ¬ F j x.1
section
variable {w0 w w' : World} {bs : List (Nat × List Value × TypeId)} {ts : List (Nat × TS)}
theorem Sys.same (h : Sys w0 w bs ts) (hc : Ch (fun _ => False) w w') : Sys w0 w' bs ts := by
 obtain ⟨F, h1, h2, h3, h4⟩ := h.tm
 exact ⟨h.ch.trans hc (fun _ _ h => h), qq hc h.lt (fun _ h => h.elim), h.top, fun i x e => (h.blk i x e).ch hc (fun h => h), h.lo, h.df, F, fun i x e => ⟨(h1 i x e).1.ch hc (fun _ _ h => h), (h1 i x e).2⟩, h2, fun i b hb => ⟨(h3 i b hb).1, Nat.lt_of_lt_of_le (h3 i b hb).2 hc.size⟩, h4⟩
theorem Sys.box (h : Sys w0 w bs ts) (hc : Ch (fun _ => False) w w') {b : Nat} {vs : List Value} {ty : TypeId} (hb : Blk w' b vs ty) (hz : w.heap.size ≤ b) : Sys w0 w' (bs ++ [(b, vs, ty)]) ts := by
 have h' := h.same hc
 obtain ⟨F, h1, h2, h3, h4⟩ := h.tm
 obtain ⟨F', g1, g2, g3, g4⟩ := h'.tm
 have one : ∀ i x, (bs ++ [(b, vs, ty)])[i]? = some x → bs[i]? = some x ∨ (i = bs.length ∧ x = (b, vs, ty)) := fun i x e => by
  rcases Nat.lt_or_ge i bs.length with hi | hi
  ·rw [List.getElem?_append_left hi] at e; exact .inl e
  ·rw [List.getElem?_append_right hi] at e
   rcases Nat.eq_zero_or_pos (i - bs.length) with h0 | h0
   ·rw [h0] at e; exact .inr ⟨by omega, (Option.some.inj e).symm⟩
   ·rw [List.getElem?_eq_none (by simp only [List.length_cons, List.length_nil]; omega)] at e; cases e
 refine ⟨h'.ch, h'.lt, h'.top, fun i x e => ?_, fun i x e => ?_, fun i j x y e e' hne => ?_, F, fun i x e => ⟨(h1 i x e).1.ch hc (fun _ _ h => h), (h1 i x e).2⟩, h2, fun i b hb => ⟨(h3 i b hb).1, Nat.lt_of_lt_of_le (h3 i b hb).2 hc.size⟩, fun i j x e => ?_⟩
 ·rcases one i x e with e | ⟨_, rfl⟩
  ·exact h'.blk i x e
  ·exact hb
 ·rcases one i x e with e | ⟨_, rfl⟩
  ·exact h.lo i x e
  ·have := h.ch.size; dsimp only; omega
 ·rcases one i x e with e1 | ⟨h1, rfl⟩
  ·rcases one j y e' with e2 | ⟨h2, rfl⟩
   ·exact h.df i j x y e1 e2 hne
   ·have := (h.blk i x e1).lt; dsimp only; omega
  ·rcases one j y e' with e2 | ⟨h2, rfl⟩
   ·have := (h.blk j y e2).lt; dsimp only; omega
   ·omega
 ·rcases one i x e with e | ⟨_, rfl⟩
  ·exact h4 i j x e
  ·exact fun hf => by have := (h3 j b hf).2; omega
theorem Sys.set (h : Sys w0 w bs ts) (i : Nat) {b : Nat} {vs vs' : List Value} {ty : TypeId} (hi : bs[i]? = some (b, vs, ty)) (hc : Ch (fun j => j = b) w w') (hb : Blk w' b vs' ty) : Sys w0 w' (bs.set i (b, vs', ty)) ts := by
 obtain ⟨F, h1, h2, h3, h4⟩ := h.tm
 have hlo := h.lo i _ hi
 have hlen : i < bs.length := (List.getElem?_eq_some_iff.1 hi).1
 have key : ∀ j x, (bs.set i (b, vs', ty))[j]? = some x → (j = i ∧ x = (b, vs', ty)) ∨ (j ≠ i ∧ bs[j]? = some x) := fun j x e => by
  by_cases hj : j = i
  ·subst hj; rw [List.getElem?_set_self hlen] at e; exact .inl ⟨rfl, (Option.some.inj e).symm⟩
  ·rw [List.getElem?_set_ne (fun h => hj h.symm)] at e; exact .inr ⟨hj, e⟩
 have nF : ∀ j, ¬ F j b := fun j => h4 i j _ hi
 refine ⟨h.ch.trans hc (fun k hk e => by dsimp only at hlo; omega), qq hc h.lt (fun k e => by have := h.top; dsimp only at hlo; omega), h.top, fun j x e => ?_, fun j x e => ?_, fun j k x y e e' hne => ?_, F, fun j x e => ⟨(h1 j x e).1.ch hc (fun k hk e' => nF j (e' ▸ hk)), (h1 j x e).2⟩, h2, fun j k hk => ⟨(h3 j k hk).1, Nat.lt_of_lt_of_le (h3 j k hk).2 hc.size⟩, fun j k x e => ?_⟩
 ·rcases key j x e with ⟨_, rfl⟩ | ⟨hj, e⟩
  ·exact hb
  ·exact (h.blk j x e).ch hc (h.df j i x _ e hi hj)
 ·rcases key j x e with ⟨_, rfl⟩ | ⟨hj, e⟩
  ·exact hlo
  ·exact h.lo j x e
 ·rcases key j x e with ⟨h5, rfl⟩ | ⟨hj, e⟩
  ·rcases key k y e' with ⟨h6, rfl⟩ | ⟨hk, e'⟩
   ·omega
   ·exact h.df i k (b, vs, ty) y hi e' (by omega)
  ·rcases key k y e' with ⟨h6, rfl⟩ | ⟨hk, e'⟩
   ·exact h.df j i x (b, vs, ty) e hi hj
   ·exact h.df j k x y e e' hne
 ·rcases key j x e with ⟨_, rfl⟩ | ⟨hj, e⟩
  ·exact nF k
  ·exact h4 j k x e
theorem Sys.pre {bs' : List (Nat × List Value × TypeId)} (h : Sys w0 w (bs ++ bs') ts) : Sys w0 w bs ts := by
 obtain ⟨F, h1, h2, h3, h4⟩ := h.tm
 have key : ∀ (i : Nat) x, bs[i]? = some x → (bs ++ bs')[i]? = some x := fun i x e => by rw [List.getElem?_append_left (List.getElem?_eq_some_iff.1 e).1]; exact e
 exact ⟨h.ch, h.lt, h.top, fun i x e => h.blk i x (key i x e), fun i x e => h.lo i x (key i x e), fun i j x y e e' => h.df i j x y (key i x e) (key j y e'), F, h1, h2, h3, fun i j x e => h4 i j x (key i x e)⟩
theorem Sys.new (h : Sys w0 w bs ts) (p1 p2 : Int) : Calls Tryz.prog 10 [.int .i64 p1, .int .i64 p2].toArray w fun e w' => ∃ t, e = .returned (.pointer (some ⟨t, 0, none⟩)) ∧ Sys w0 w' bs (ts ++ [(t, startT zeroT p1 p2)]) ∧ Ch (fun _ => False) w w' := by
 refine (qgj p1 p2 w h.lt (Nat.le_trans h.top h.ch.size)).mono fun e w' ⟨t, he, hA, hc⟩ => ⟨t, he, ?_, hc⟩
 obtain ⟨F, h1, h2, h3, h4⟩ := h.tm
 have h' := h.same hc
 have hz := hc.size
 have hz0 := h.ch.size
 have ht : TermAt w' t (startT zeroT p1 p2) (fun b => w.heap.size ≤ b ∧ b < w'.heap.size) := hA
 refine ⟨h'.ch, h'.lt, h'.top, h'.blk, h'.lo, h'.df, fun i b => if i = ts.length then w.heap.size ≤ b ∧ b < w'.heap.size else i < ts.length ∧ F i b, fun i x e => ?_, fun i j hij b hb hb' => ?_, fun i b hb => ?_, fun i j x e hb => ?_⟩
 ·rcases Nat.lt_or_ge i ts.length with hi | hi
  ·rw [List.getElem?_append_left hi] at e
   refine ⟨?_, (h1 i x e).2⟩
   have e2 : (fun b => if i = ts.length then w.heap.size ≤ b ∧ b < w'.heap.size else i < ts.length ∧ F i b) = F i := by
    funext b; rw [if_neg (by omega)]; exact propext ⟨fun h => h.2, fun h => ⟨hi, h⟩⟩
   show TermAt w' x.1 x.2 (fun b => if i = ts.length then w.heap.size ≤ b ∧ b < w'.heap.size else i < ts.length ∧ F i b)
   rw [e2]
   exact (h1 i x e).1.ch hc (fun _ _ h => h)
  ·rw [List.getElem?_append_right hi] at e
   rcases Nat.eq_zero_or_pos (i - ts.length) with h0 | h0
   ·rw [h0] at e
    obtain rfl := (Option.some.inj e).symm
    obtain rfl : i = ts.length := by omega
    simp only [if_true]
    exact ⟨ht, qe1 p1 p2⟩
   ·rw [List.getElem?_eq_none (by simp only [List.length_cons, List.length_nil]; omega)] at e; cases e
 ·dsimp only at hb hb'
  split at hb
  ·split at hb'
   ·omega
   ·have := (h3 j b hb'.2).2; omega
  ·split at hb'
   ·have := (h3 i b hb.2).2; omega
   ·exact h2 i j hij b hb.2 hb'.2
 ·dsimp only at hb
  split at hb
  ·omega
  ·have := h3 i b hb.2; omega
 ·dsimp only at hb
  split at hb
  ·have := (h.blk i x e).lt; omega
  ·exact h4 i j x e hb.2
theorem Sys.step (h : Sys w0 w bs ts) {i t : Nat} {T T' : TS} (hi : ts[i]? = some (t, T)) {k : FuncId} {args : Array Value} {v : Value}
  (hk : ∀ F, TermAt w t T F → LT w → Fine T → Calls Tryz.prog k args w fun e w' => e = .returned v ∧ TermAt w' t T' (more F w w') ∧ Ch F w w') (hf : Fine T → Fine T') :
  Calls Tryz.prog k args w fun e w' => e = .returned v ∧ Sys w0 w' bs (ts.set i (t, T')) := by
 obtain ⟨F, h1, h2, h3, h4⟩ := h.tm
 have hlen : i < ts.length := (List.getElem?_eq_some_iff.1 hi).1
 refine (hk (F i) (h1 i _ hi).1 h.lt (h1 i _ hi).2).mono fun e w' ⟨he, hA, hc⟩ => ⟨he, ?_⟩
 have hz := hc.size
 refine ⟨Ch.trans h.ch hc (fun b hb hb' => ?_), qq hc h.lt (fun b hb => by have := h3 i b hb; have := h.top; omega), h.top, fun j x e => (h.blk j x e).ch hc (h4 j i x e), h.lo, h.df, fun j b => if j = i then more (F i) w w' b else F j b, fun j x e => ?_, fun j k hjk b hb hb' => ?_, fun j b hb => ?_, fun j k x e hb => ?_⟩
 ·have := (h3 i b hb').1; omega
 ·by_cases hj : j = i
  ·subst hj
   rw [List.getElem?_set_self hlen] at e
   obtain rfl := (Option.some.inj e).symm
   simp only [if_true]
   exact ⟨hA, hf (h1 j _ hi).2⟩
  ·rw [List.getElem?_set_ne (fun h => hj h.symm)] at e
   simp only [if_neg hj]
   exact ⟨(h1 j x e).1.ch hc (fun b hb => h2 j i hj b hb), (h1 j x e).2⟩
 ·dsimp only at hb hb'
  split at hb
  ·rename_i hji
   subst hji
   rw [if_neg (fun h => hjk h.symm)] at hb'
   rcases hb with hb | hb
   ·exact h2 j k hjk b hb hb'
   ·have := (h3 k b hb').2; omega
  ·split at hb'
   ·rename_i hji hki
    subst hki
    rcases hb' with hb' | hb'
    ·exact h2 j k hjk b hb hb'
    ·have := (h3 j b hb).2; omega
   ·exact h2 j k hjk b hb hb'
 ·dsimp only at hb
  have hz0 := h.ch.size
  split at hb
  ·rcases hb with hb | hb
   ·have := h3 i b hb; omega
   ·omega
  ·have := h3 j b hb; omega
 ·dsimp only at hb
  split at hb
  ·rcases hb with hb | hb
   ·exact h4 j i x e hb
   ·have := (h.blk j x e).lt; omega
  ·exact h4 j k x e hb
theorem Sys.look (h : Sys w0 w bs ts) {k : FuncId} {args : Array Value} {v : Value} (hk : Calls Tryz.prog k args w fun e w' => e = .returned v ∧ Ch (fun _ => False) w w') : Calls Tryz.prog k args w fun e w' => e = .returned v ∧ Sys w0 w' bs ts :=
 hk.mono fun _ _ ⟨he, hc⟩ => ⟨he, h.same hc⟩
theorem Sys.at (h : Sys w0 w bs ts) {i t : Nat} {T : TS} (hi : ts[i]? = some (t, T)) : ∃ F, TermAt w t T F := by
 obtain ⟨F, h1, _⟩ := h.tm
 exact ⟨_, (h1 i _ hi).1⟩
theorem Sys.cell (h : Sys w0 w bs ts) {i t : Nat} {T : TS} (hi : ts[i]? = some (t, T)) (c : Nat) {v : Value} (hv : ∀ g o bk ps, (T.vals g o bk ps)[c]? = some v) : w.cell? ⟨t, c, none⟩ = some v := by
 obtain ⟨F, g, o, ba, bn, bc, pa, pn, pc, F1, F2, FB, FP, hI⟩ := h.at hi
 exact (hI.blk.cell c).trans (hv _ _ _ _)
theorem Sys.grid (h : Sys w0 w bs ts) {i t : Nat} {T : TS} (hi : ts[i]? = some (t, T)) : ∃ g F, w.cell? ⟨t, 0, none⟩ = some (.pointer (some ⟨g, 0, none⟩)) ∧ GridAt w g T.grid F := by
 obtain ⟨F, g, o, ba, bn, bc, pa, pn, pc, F1, F2, FB, FP, hI⟩ := h.at hi
 exact ⟨g, F1, (hI.blk.cell 0).trans rfl, hI.g1⟩
theorem Sys.other (h : Sys w0 w bs ts) {i t : Nat} {T : TS} (hi : ts[i]? = some (t, T)) : ∃ g F, w.cell? ⟨t, 1, none⟩ = some (.pointer (some ⟨g, 0, none⟩)) ∧ GridAt w g T.other F := by
 obtain ⟨F, g, o, ba, bn, bc, pa, pn, pc, F1, F2, FB, FP, hI⟩ := h.at hi
 exact ⟨o, F2, (hI.blk.cell 1).trans rfl, hI.g2⟩
theorem Sys.outs (h : Sys w0 w bs ts) {i t : Nat} {T : TS} (hi : ts[i]? = some (t, T)) : ∃ ba bn bc rows FB, w.cell? ⟨t, 97, none⟩ = some (.slice ba bn bc) ∧ bn = T.back.length ∧ LinesAt w ba bn rows FB ∧ rows.map Row.l = T.back ∧ (ba = none ∨ ∃ b off, ba = some ⟨b, off, none⟩) := by
 obtain ⟨F, g, o, ba, bn, bc, pa, pn, pc, F1, F2, FB, FP, hI⟩ := h.at hi
 obtain ⟨rows, hL, hm⟩ := hI.bk
 exact ⟨ba, bn, bc, rows, FB, (hI.blk.cell 97).trans (by kernel_rfl), by rw [← hm, List.length_map, hL.len], hL, hm, hI.bz⟩
theorem Fine.back {T : TS} (h : Fine T) : T.back.length ≤ 1000 := by obtain ⟨⟨W, H, h⟩, _⟩ := h; exact Nat.le_trans h.bk (by decide)
theorem Fine.params {T : TS} (h : Fine T) : T.parser.params.length ≤ 1000 := Nat.le_trans h.2.n (by decide)
end
theorem and16 (x : Int) : 0 ≤ qu .and .i64 x 65535 ∧ qu .and .i64 x 65535 ≤ 65535 := by
 have h : (BitVec.ofInt 64 x &&& BitVec.ofInt 64 65535).toNat ≤ 65535 := by
  rw [BitVec.toNat_and]
  exact Nat.and_le_right
 unfold qu
 show 0 ≤ IntKind.wrap .i64 (((BitVec.ofInt 64 x &&& BitVec.ofInt 64 65535).toNat : Nat) : Int) ∧ IntKind.wrap .i64 (((BitVec.ofInt 64 x &&& BitVec.ofInt 64 65535).toNat : Nat) : Int) ≤ 65535
 generalize (BitVec.ofInt 64 x &&& BitVec.ofInt 64 65535).toNat = n at h
 rw [qbT (k := .i64) (n := ((n : Nat) : Int)) (show -9223372036854775808 ≤ ((n : Nat) : Int) ∧ ((n : Nat) : Int) ≤ 9223372036854775807 by omega)]
 omega
theorem styR_any (s : Sty) (w : World) : Calls Tryz.prog 70 [.agg #[.bool s.bold, .bool s.under, .bool s.turned, iX s.fore, iX s.back]].toArray w fun e w' => e = .returned (.bool (qcl s)) ∧ Ch (fun _ => False) w w' := by
 have h := Sep.nil w; refine yA Tryz.func70 rfl <| ysr <| yo (zN [.bool s.bold, .bool s.under, .bool s.turned, iX s.fore, iX s.back] 33 h fun u f h => ?_); refine yz 2 <| ysr <| yp 4 [] (.l (h.c 0 3) .z) <| yw [6] (rM 0 s.fore) (fun a => ?_) fun a => ?_
 ·have g := a; refine yp 9 [] (.l (h.c 0 3) .z) <| yw [11] (rM s.fore 8) (fun b => ?_) fun b => ?_
  ·have i := b; refine yp 14 [] (.l (h.c 0 4) .z) <| yw [16] (rM 0 s.back) (fun d => ?_) fun d => ?_
   ·have j := d; refine yp 19 [] (.l (h.c 0 4) .z) <| ye <| q8 (yR1 (.bool (decide (s.back ≤ 8))) ?_); refine ⟨zc ?_, h.ch⟩; unfold qcl; rw [Bool.eq_iff_iff]; simp only [decide_eq_true_eq, Bool.false_eq_true, true_iff, false_iff, iff_true, iff_false, not_and]; omega
   have k := d; refine yz 19 <| q8 (yR1 (.bool false) ?_); refine ⟨zc ?_, h.ch⟩; unfold qcl; rw [Bool.eq_iff_iff]; simp only [decide_eq_true_eq, Bool.false_eq_true, true_iff, false_iff, iff_true, iff_false, not_and]; omega
  have m := b; refine yz 19 <| q8 (yR1 (.bool false) ?_); refine ⟨zc ?_, h.ch⟩; unfold qcl; rw [Bool.eq_iff_iff]; simp only [decide_eq_true_eq, Bool.false_eq_true, true_iff, false_iff, iff_true, iff_false, not_and]; omega
 have n := a; refine yz 19 <| q8 (yR1 (.bool false) ?_); refine ⟨zc ?_, h.ch⟩; unfold qcl; rw [Bool.eq_iff_iff]; simp only [decide_eq_true_eq, Bool.false_eq_true, true_iff, false_iff, iff_true, iff_false, not_and]; omega
theorem qiF (b off n cap : Nat) (l : List Cel) (w : World) (hr : Rd w (some ⟨b, off, none⟩) (flat l)) (hn : l.length = n) (hnb : n ≤ 1000) : Calls Tryz.prog 46 [.slice (some ⟨b, off, none⟩) n cap].toArray w fun e w' => ∃ o c, e = .returned (.slice (o.map at0) n c) ∧ Own w' qd2 6 o n c (flat (qa6 l)) ∧ (∀ b, o = some b → w.heap.size ≤ b) ∧ Ch (fun _ => False) w w' := by
 subst hn; have h := Sep.nil w; refine yA Tryz.func46 rfl <| yx 1 <| yx 1 <| ys <| yx 3 <| qa <| qa2 [3, 6, 7, 8] (f' := [(3, nX), (6, .slice (some ⟨b, off, none⟩) l.length cap), (7, iX ((l.length : Nat) : Int)), (8, iX 0)]) <| qG (σ := Nat × Option Nat × Nat) (fun ⟨k, o, c⟩ => [(3, .slice (o.map at0) k c), (6, .slice (some ⟨b, off, none⟩) l.length cap), (7, iX ((l.length : Nat) : Int)), (8, iX ((k : Nat) : Int))]) (fun ⟨k, o, c⟩ u => k ≤ l.length ∧ Sep w (fun _ => False) u [qdv 66 6 o k c (flat ((qa6 l).take k))]) (fun ⟨k, o, c⟩ => l.length - k) (0, none, 0) rfl ?_ ?_
 ·exact ⟨Nat.zero_le _, h.own0 66 6⟩
 intro p u G V d; obtain ⟨k, o, c⟩ := p; obtain ⟨hk, h⟩ := G; refine yx 1 <| ys <| yc (rL ((k : Nat) : Int) ((l.length : Nat) : Int)) (fun H => ?_) fun H => ?_
 ·refine yk <| ys <| qa <| ysr <| yp 2 [] (.i ((k : Nat) : Int) (l.length) (.m (qck (i := ((k : Nat) : Int)) (h.rd hr) (by omega) (by omega)) (.m (qs (i := ((k : Nat) : Int)) (h.rd hr) (by omega) (by omega) 1 _ (by decide) rfl) (.m (qs (i := ((k : Nat) : Int)) (h.rd hr) (by omega) (by omega) 2 _ (by decide) rfl) (.m (qs (i := ((k : Nat) : Int)) (h.rd hr) (by omega) (by omega) 3 _ (by decide) rfl) (.m (qs (i := ((k : Nat) : Int)) (h.rd hr) (by omega) (by omega) 4 _ (by decide) rfl) (.m (qs (i := ((k : Nat) : Int)) (h.rd hr) (by omega) (by omega) 5 _ (by decide) rfl) (.e .z)))))))) <| yo (zN [rX 0, .bool false, .bool false, .bool false, iX 0, iX 0] 66 h fun u W h => ?_); refine yo (zs h 1 fun u h => ?_); refine ye <| ys <| ysr <| yp 2 [] (.a (h.cs 1 1 5) .z) <| yo (yQ (h.look (styR_any (gc l ((k : Nat) : Int)).sty _)) fun u h => ?_); refine yz 4 <| yc (rN (rY (qcl (gc l ((k : Nat) : Int)).sty))) (fun r => ?_) fun r => ?_
  ·have f := r; refine q7 <| yq 2 <| yo (zs h 1 fun u h => ?_); refine ye <| ys <| ysr <| yp 4 [] (.l (h.c 1 0) .z) <| yw [21] (rI (gc l ((k : Nat) : Int)).rune 0) (fun s => ?_) fun s => ?_
   ·have j := s; refine yp 6 [] (.l (h.c 1 0) .z) <| yo (yQ (h.look (qe0 ((gc l ((k : Nat) : Int)).rune) _)) fun u h => ?_); refine yz 9 <| yc (rN (rY (qa7 (gc l ((k : Nat) : Int)).rune))) (fun t => ?_) fun t => ?_
    ·have A := t; refine q7 <| yq 1 <| yo (zs h 1 fun u h => ?_); refine ye <| q7 <| yp 2 [] (.a (h.cs 1 0 6) .z) <| yo (zB [rX 120, .bool false, .bool false, .bool false, iX 0, iX 0] 66 1 h fun u X h => ?_); refine yo (zA 0 32 1 1 (k + 1) (flat ((qa6 l).take (k + 1))) h (Rd.all (h.b 2)) rfl (hz := qbm (c := (Cel.mk 120 qbU)) (by omega) (qcE (by simp [f, j, A]) (by simp [f, j, A]))) (hb := by simp only [maxLen]; omega) fun u I J h Y => ?_); refine yq 5 <| yE (nB (nS ?_)); refine q7 <| yp 2 [] (.q6 (((k : Nat) : Int) + 1) .z) ?_; have h := h.nrm 1 [rX 120, .bool false, .bool false, .bool false, iX 0, iX 0]; refine yE (fun a ha => d (k + 1, I, J) _ ⟨by omega, h.take 1⟩ (by show l.length - (k + 1) < l.length - k; omega) a (ha.kp [3, 6, 7, 8]))
    have B := t; refine yk <| q7 <| yp 2 [] (.a (h.cs 1 0 6) .z) <| yo (zB [rX (gc l ((k : Nat) : Int)).rune, .bool false, .bool false, .bool false, iX 0, iX 0] 66 1 h fun u Z h => ?_); refine yo (zA 0 32 1 1 (k + 1) (flat ((qa6 l).take (k + 1))) h (Rd.all (h.b 2)) rfl (hz := qbm (c := (Cel.mk (gc l ((k : Nat) : Int)).rune qbU)) (by omega) (qcE (by simp [f, j, B]) (by simp [f, j, B]))) (hb := by simp only [maxLen]; omega) fun u K L h a0 => ?_); refine yq 5 <| yE (nB (nS ?_)); refine q7 <| yp 2 [] (.q6 (((k : Nat) : Int) + 1) .z) ?_; have h := h.nrm 1 [rX (gc l ((k : Nat) : Int)).rune, .bool false, .bool false, .bool false, iX 0, iX 0]; refine yE (fun a ha => d (k + 1, K, L) _ ⟨by omega, h.take 1⟩ (by show l.length - (k + 1) < l.length - k; omega) a (ha.kp [3, 6, 7, 8]))
   have C := s; refine yz 9 <| ycf <| yk <| q7 <| yp 2 [] (.a (h.cs 1 0 6) .z) <| yo (zB [rX (gc l ((k : Nat) : Int)).rune, .bool false, .bool false, .bool false, iX 0, iX 0] 66 1 h fun u a1 h => ?_); refine yo (zA 0 32 1 1 (k + 1) (flat ((qa6 l).take (k + 1))) h (Rd.all (h.b 2)) rfl (hz := qbm (c := (Cel.mk (gc l ((k : Nat) : Int)).rune qbU)) (by omega) (qcE (by simp [f, C]) (by simp [f, C]))) (hb := by simp only [maxLen]; omega) fun u M N h a2 => ?_); refine yq 5 <| yE (nB (nS ?_)); refine q7 <| yp 2 [] (.q6 (((k : Nat) : Int) + 1) .z) ?_; have h := h.nrm 1 [rX (gc l ((k : Nat) : Int)).rune, .bool false, .bool false, .bool false, iX 0, iX 0]; refine yE (fun a ha => d (k + 1, M, N) _ ⟨by omega, h.take 1⟩ (by show l.length - (k + 1) < l.length - k; omega) a (ha.kp [3, 6, 7, 8]))
  have g := r; refine yk <| ys <| ysr <| yp 4 [] (.l (h.c 1 0) .z) <| yw [21] (rI (gc l ((k : Nat) : Int)).rune 0) (fun v => ?_) fun v => ?_
  ·have q := v; refine yp 6 [] (.l (h.c 1 0) .z) <| yo (yQ (h.look (qe0 ((gc l ((k : Nat) : Int)).rune) _)) fun u h => ?_); refine yz 9 <| yc (rN (rY (qa7 (gc l ((k : Nat) : Int)).rune))) (fun x => ?_) fun x => ?_
   ·have D := x; refine q7 <| yq 1 <| yo (zs h 1 fun u h => ?_); refine ye <| q7 <| yp 2 [] (.a (h.cs 1 0 6) .z) <| yo (zB [rX 120, .bool (gc l ((k : Nat) : Int)).sty.bold, .bool (gc l ((k : Nat) : Int)).sty.under, .bool (gc l ((k : Nat) : Int)).sty.turned, iX (gc l ((k : Nat) : Int)).sty.fore, iX (gc l ((k : Nat) : Int)).sty.back] 66 1 h fun u a3 h => ?_); refine yo (zA 0 32 1 1 (k + 1) (flat ((qa6 l).take (k + 1))) h (Rd.all (h.b 2)) rfl (hz := qbm (c := (Cel.mk 120 (gc l ((k : Nat) : Int)).sty)) (by omega) (qcE (by simp [g, q, D]) (by simp [g, q, D]))) (hb := by simp only [maxLen]; omega) fun u O P h a4 => ?_); refine yq 5 <| yE (nB (nS ?_)); refine q7 <| yp 2 [] (.q6 (((k : Nat) : Int) + 1) .z) ?_; have h := h.nrm 1 [rX 120, .bool (gc l ((k : Nat) : Int)).sty.bold, .bool (gc l ((k : Nat) : Int)).sty.under, .bool (gc l ((k : Nat) : Int)).sty.turned, iX (gc l ((k : Nat) : Int)).sty.fore, iX (gc l ((k : Nat) : Int)).sty.back]; refine yE (fun a ha => d (k + 1, O, P) _ ⟨by omega, h.take 1⟩ (by show l.length - (k + 1) < l.length - k; omega) a (ha.kp [3, 6, 7, 8]))
   have E := x; refine yk <| q7 <| yp 2 [] (.a (h.cs 1 0 6) .z) <| yo (zB [rX (gc l ((k : Nat) : Int)).rune, .bool (gc l ((k : Nat) : Int)).sty.bold, .bool (gc l ((k : Nat) : Int)).sty.under, .bool (gc l ((k : Nat) : Int)).sty.turned, iX (gc l ((k : Nat) : Int)).sty.fore, iX (gc l ((k : Nat) : Int)).sty.back] 66 1 h fun u a5 h => ?_); refine yo (zA 0 32 1 1 (k + 1) (flat ((qa6 l).take (k + 1))) h (Rd.all (h.b 2)) rfl (hz := qbm (c := (gc l ((k : Nat) : Int))) (by omega) (qcE (by simp [g, q, E]) (by simp [g, q, E]))) (hb := by simp only [maxLen]; omega) fun u Q R h a6 => ?_); refine yq 5 <| yE (nB (nS ?_)); refine q7 <| yp 2 [] (.q6 (((k : Nat) : Int) + 1) .z) ?_; have h := h.nrm 1 [rX (gc l ((k : Nat) : Int)).rune, .bool (gc l ((k : Nat) : Int)).sty.bold, .bool (gc l ((k : Nat) : Int)).sty.under, .bool (gc l ((k : Nat) : Int)).sty.turned, iX (gc l ((k : Nat) : Int)).sty.fore, iX (gc l ((k : Nat) : Int)).sty.back]; refine yE (fun a ha => d (k + 1, Q, R) _ ⟨by omega, h.take 1⟩ (by show l.length - (k + 1) < l.length - k; omega) a (ha.kp [3, 6, 7, 8]))
  have F := v; refine yz 9 <| ycf <| yk <| q7 <| yp 2 [] (.a (h.cs 1 0 6) .z) <| yo (zB [rX (gc l ((k : Nat) : Int)).rune, .bool (gc l ((k : Nat) : Int)).sty.bold, .bool (gc l ((k : Nat) : Int)).sty.under, .bool (gc l ((k : Nat) : Int)).sty.turned, iX (gc l ((k : Nat) : Int)).sty.fore, iX (gc l ((k : Nat) : Int)).sty.back] 66 1 h fun u a7 h => ?_); refine yo (zA 0 32 1 1 (k + 1) (flat ((qa6 l).take (k + 1))) h (Rd.all (h.b 2)) rfl (hz := qbm (c := (gc l ((k : Nat) : Int))) (by omega) (qcE (by simp [g, F]) (by simp [g, F]))) (hb := by simp only [maxLen]; omega) fun u S T h a8 => ?_); refine yq 5 <| yE (nB (nS ?_)); refine q7 <| yp 2 [] (.q6 (((k : Nat) : Int) + 1) .z) ?_; have h := h.nrm 1 [rX (gc l ((k : Nat) : Int)).rune, .bool (gc l ((k : Nat) : Int)).sty.bold, .bool (gc l ((k : Nat) : Int)).sty.under, .bool (gc l ((k : Nat) : Int)).sty.turned, iX (gc l ((k : Nat) : Int)).sty.fore, iX (gc l ((k : Nat) : Int)).sty.back]; refine yE (fun a ha => d (k + 1, S, T) _ ⟨by omega, h.take 1⟩ (by show l.length - (k + 1) < l.length - k; omega) a (ha.kp [3, 6, 7, 8]))
 have y : k = l.length := by omega
 refine qv (eS (qe (qb (nS ?_)))); refine yx 2 <| q8 (yR1 (.slice (o.map at0) k c) ?_); refine ⟨o, c, by rw [y], ?_, fun b e => ((h.newo 0) b e).1, h.ch⟩; have U := h.own 0; rwa [tame_all y, y] at U
theorem qiG (a : Option Addr) (cap : Nat) (w : World) : Calls Tryz.prog 46 [.slice a 0 cap].toArray w fun e w' => e = .returned (nX) ∧ Ch (fun _ => False) w w' := by
 have h := Sep.nil w; refine yA Tryz.func46 rfl <| yx 1 <| yx 1 <| ys <| yx 3 <| qa <| yU 1 (yU1 ?_); refine yx 1 <| ys <| ycf <| qv (eS (qe (qb (nS ?_)))); refine yx 2 <| q8 (yR1 (nX) ?_); exact ⟨rfl, h.ch⟩
theorem qiH (p1 p2 : Int) (b off cap : Nat) (l : List Cel) (w : World) (hT : LT w) (h7 : gTop ≤ w.heap.size) (hr : Rd w (some ⟨b, off, none⟩) (flat l)) (hn0 : 0 < l.length) (hnb : l.length ≤ 400) : Calls Tryz.prog 27 [iX p1, iX p2, .slice (some ⟨b, off, none⟩) l.length cap].toArray w fun e w' => ∃ g F, e = .returned (pX g) ∧ GridAt w' g (qdl p1 p2 l) F ∧ (∀ b, F b → w.heap.size ≤ b) ∧ Ch (fun _ => False) w w' := by
 have h := Sep.nil w; refine yA Tryz.func27 rfl <| yx 1 <| ysr <| yq 2 <| yo (yC (qd6 (p1) (p2) _ (qq h.ch hT (fun _ h => h.elim)).tb (Nat.le_trans h7 h.ch.size)) ?_); rintro _ u ⟨f, O, rfl, A, B, C⟩; refine ⟨_, rfl, ?_⟩; have h := h.newGrid A B C; refine yz 4 <| yx 1 <| ys <| ysr <| yq 1 <| yo (yC (qiF b off l.length cap l _ (h.rd hr) rfl (by omega)) ?_); rintro _ u ⟨v, j, rfl, x, D, E⟩; refine ⟨_, rfl, ?_⟩; have h := h.fresh x D E; obtain ⟨n, rfl⟩ : ∃ b, v = some b := by
  cases hq : v with
  | some b => exact ⟨b, rfl⟩
  | none => have := (x.2.2.2.1 hq).1; omega
 refine yz 4 <| qa <| qa2 [7, 8, 15, 16, 17] (f' := [(7, pX f), (8, iX 0), (15, .slice (some ⟨n, 0, none⟩) l.length j), (16, iX ((l.length : Nat) : Int)), (17, iX 0)]) <| qG (σ := Nat × Gr × Int) (fun ⟨k, G, i⟩ => [(7, pX f), (8, iX i), (15, .slice (some ⟨n, 0, none⟩) l.length j), (16, iX ((l.length : Nat) : Int)), (17, iX ((k : Nat) : Int))]) (fun ⟨k, G, i⟩ u => k ≤ l.length ∧ 0 ≤ i ∧ i ≤ 2 * (k : Int) ∧ qcF ((qa6 l).drop k) G i = qdl p1 p2 l ∧ Sep w (fun _ => False) u [qE f G, qdv 66 6 (some n) l.length j (flat (qa6 l))]) (fun ⟨k, G, i⟩ => l.length - k) (0, qcW p1 p2, 0) rfl ?_ ?_
 ·exact ⟨Nat.zero_le _, Int.le_refl _, Int.le_refl _, rfl, h.take 2⟩
 intro p u H P y; obtain ⟨k, G, i⟩ := p; obtain ⟨hk, hi0, Q, d, h⟩ := H; have o : G.ok := (h.grid 0).elim fun _ h => h.ok; have R := mul_bd o.1 o.2.1; have S := div_bd (w := G.w) hi0 o.1.1; have T : (qa6 l).length = l.length := List.length_map _; refine yx 1 <| ys <| yc (rL ((k : Nat) : Int) ((l.length : Nat) : Int)) (fun I => ?_) fun I => ?_
 ·refine yk <| ys <| qa <| ysr <| yp 2 [] (.i ((k : Nat) : Int) (l.length) (.m (qck (i := ((k : Nat) : Int)) (h.ownRd 1) (by omega) (by omega)) (.m (qs (i := ((k : Nat) : Int)) (h.ownRd 1) (by omega) (by omega) 1 _ (by decide) rfl) (.m (qs (i := ((k : Nat) : Int)) (h.ownRd 1) (by omega) (by omega) 2 _ (by decide) rfl) (.m (qs (i := ((k : Nat) : Int)) (h.ownRd 1) (by omega) (by omega) 3 _ (by decide) rfl) (.m (qs (i := ((k : Nat) : Int)) (h.ownRd 1) (by omega) (by omega) 4 _ (by decide) rfl) (.m (qs (i := ((k : Nat) : Int)) (h.ownRd 1) (by omega) (by omega) 5 _ (by decide) rfl) (.e .z)))))))) <| yo (zN [rX 0, .bool false, .bool false, .bool false, iX 0, iX 0] 66 h fun u U h => ?_); refine yo (zs h 2 fun u h => ?_); refine ye <| ys <| ys <| zD [] h fun u h => yd (uL 0 11) [] (.l (h.gwh 0).1 (.l (h.gwh 0).2 (.q6 (G.w * G.h) .z))) <| yDe (nS ?_); refine yc (rM (G.w * G.h) i) (fun r => ?_) fun r => ?_
  ·have J := r; rw [qhc (by omega) J] at d; refine qv (eS (eB (eS (qe (qb (nS ?_)))))); refine yx 2 <| q8 (yR1 (pX f) ?_); obtain ⟨F, hG, s⟩ := h.gridNew 0; exact ⟨f, F, rfl, d ▸ hG, s, h.ch⟩
  have K := r; rw [qhb (by omega) K] at d; refine yk <| ys <| zD [14] h fun u h => ?_; refine yd (uL 0 14) [] (.l (h.gwh 0).1 (.p (q := 0 ≤ (i : Int) ∧ 0 < (G.w : Int)) (by constructor <;> omega) (.l (h.gwh 0).1 (.p (q := 0 ≤ (i : Int) ∧ 0 < (G.w : Int)) (by constructor <;> omega) (.q6 (i / G.w) (.a (h.cs 2 0 6) .z)))))) ?_; refine yK 14 (yQ (h.step 0 (A' := qE f (qd4 G ((i % G.w)) ((i / G.w)) (gc (qa6 l) ((k : Nat) : Int)))) (fun F hA _ => qfE _ _ F ((i % G.w)) ((i / G.w)) (gc (qa6 l) ((k : Nat) : Int)) _ (qq h.ch hT (fun _ h => h.elim)).tb hA)) fun u h => ?_); refine q9 <| yDe (nS ?_); refine ysr <| yp 3 [] (.q6 (i + 1) .z) <| ye <| ysr <| yp 2 [] (.l (h.c 2 0) .z) <| yo (yQ (h.look (qiE ((gc (qa6 l) ((k : Nat) : Int)).rune) _)) fun u h => ?_); refine ye <| yc (rY (qZ (gc (qa6 l) ((k : Nat) : Int)).rune)) (fun t => ?_) fun t => ?_
  ·have L := t; rw [if_pos L] at d; refine q7 <| yp 3 [] (.q6 ((i + 1) + 1) .z) <| yE (nB (nS ?_)); refine q7 <| yp 2 [] (.q6 (((k : Nat) : Int) + 1) .z) ?_; have h := h.nrm 2 [rX (gc (qa6 l) ((k : Nat) : Int)).rune, .bool (gc (qa6 l) ((k : Nat) : Int)).sty.bold, .bool (gc (qa6 l) ((k : Nat) : Int)).sty.under, .bool (gc (qa6 l) ((k : Nat) : Int)).sty.turned, iX (gc (qa6 l) ((k : Nat) : Int)).sty.fore, iX (gc (qa6 l) ((k : Nat) : Int)).sty.back]; refine yE (fun a ha => y (k + 1, (qd4 G ((i % G.w)) ((i / G.w)) (gc (qa6 l) ((k : Nat) : Int))), i + 2) _ ⟨by omega, by omega, by omega, d, h.take 2⟩ (by show l.length - (k + 1) < l.length - k; omega) a (by rw [show i + 2 = i + 1 + 1 by omega]; exact ha.kp [7, 8, 15, 16, 17]))
  have M := t; rw [if_neg (fun h => Bool.false_ne_true (M.symm.trans h))] at d; refine qk (nB (nS ?_)); refine q7 <| yp 2 [] (.q6 (((k : Nat) : Int) + 1) .z) ?_; have h := h.nrm 2 [rX (gc (qa6 l) ((k : Nat) : Int)).rune, .bool (gc (qa6 l) ((k : Nat) : Int)).sty.bold, .bool (gc (qa6 l) ((k : Nat) : Int)).sty.under, .bool (gc (qa6 l) ((k : Nat) : Int)).sty.turned, iX (gc (qa6 l) ((k : Nat) : Int)).sty.fore, iX (gc (qa6 l) ((k : Nat) : Int)).sty.back]; refine yE (fun a ha => y (k + 1, (qd4 G ((i % G.w)) ((i / G.w)) (gc (qa6 l) ((k : Nat) : Int))), i + 1) _ ⟨by omega, by omega, by omega, d, h.take 2⟩ (by show l.length - (k + 1) < l.length - k; omega) a (ha.kp [7, 8, 15, 16, 17]))
 have N : k = (qa6 l).length := by omega
 rw [qiC N] at d; refine qv (eS (qe (qb (nS ?_)))); refine yx 2 <| q8 (yR1 (pX f) ?_); obtain ⟨F, hG, s⟩ := h.gridNew 0; exact ⟨f, F, rfl, d ▸ hG, s, h.ch⟩
theorem qiI (p1 p2 : Int) (a : Option Addr) (cap : Nat) (w : World) (hT : LT w) (h7 : gTop ≤ w.heap.size) : Calls Tryz.prog 27 [iX p1, iX p2, .slice a 0 cap].toArray w fun e w' => ∃ g F, e = .returned (pX g) ∧ GridAt w' g (qdl p1 p2 []) F ∧ (∀ b, F b → w.heap.size ≤ b) ∧ Ch (fun _ => False) w w' := by
 have h := Sep.nil w; refine yA Tryz.func27 rfl <| yx 1 <| ysr <| yq 2 <| yo (yC (qd6 (p1) (p2) _ (qq h.ch hT (fun _ h => h.elim)).tb (Nat.le_trans h7 h.ch.size)) ?_); rintro _ u ⟨c, k, rfl, d, f, i⟩; refine ⟨_, rfl, ?_⟩; have h := h.newGrid d f i; refine yz 4 <| yx 1 <| ys <| ysr <| yq 1 <| yo (yQ (h.look (qiG a cap _)) fun u h => ?_); refine yz 4 <| qa <| yU 1 (yU1 ?_); refine yx 1 <| ys <| ycf <| qv (eS (qe (qb (nS ?_)))); refine yx 2 <| q8 (yR1 (pX c) ?_); obtain ⟨F, hG, j⟩ := h.gridNew 0; exact ⟨c, F, rfl, hG, j, h.ch⟩
theorem fill_any (p1 p2 : Int) (a : Option Addr) (n cap : Nat) (l : List Cel) (w : World) (hT : LT w) (h7 : gTop ≤ w.heap.size) (ha : n = 0 ∨ ∃ b off, a = some ⟨b, off, none⟩) (hr : Rd w a (flat l)) (hn : l.length = n) (hnb : n ≤ 400) : Calls Tryz.prog 27 [iX p1, iX p2, .slice a n cap].toArray w fun e w' => ∃ g F, e = .returned (pX g) ∧ GridAt w' g (qdl p1 p2 l) F ∧ (∀ b, F b → w.heap.size ≤ b) ∧ Ch (fun _ => False) w w' := by
 subst hn; by_cases c : l.length = 0
 ·obtain rfl := List.eq_nil_of_length_eq_zero c; exact qiI p1 p2 a cap w hT h7
 obtain ⟨b, off, rfl⟩ := ha.resolve_left c; exact qiH p1 p2 b off cap l w hT h7 hr (by omega) hnb
theorem qC (p1 p2 : Int) (a : Option Addr) (n cap : Nat) (l : List Cel) (x y : Int) (hid : Bool) (w : World) (hT : LT w) (h7 : gTop ≤ w.heap.size) (ha : n = 0 ∨ ∃ b off, a = some ⟨b, off, none⟩) (hr : Rd w a (flat l)) (hn : l.length = n) (hnb : n ≤ 400) (V : Vw) (hV : V = viewV p1 p2 l x y hid) : Calls Tryz.prog 12 [iX p1, iX p2, .agg #[.slice a n cap, iX x, iX y, .bool hid]].toArray w fun e w' => ∃ g F, e = .returned (.agg #[pX g, iX V.x, iX V.y, .bool V.hid]) ∧ GridAt w' g V.g F ∧ (∀ b, F b → w.heap.size ≤ b) ∧ Ch (fun _ => False) w w' := by
 subst hV; have o := and16 x; have r := and16 y; have h := Sep.nil w; refine yA Tryz.func12 rfl <| ysr <| yo (zN [.slice a n cap, iX x, iX y, .bool hid] 51 h fun u s h => ?_); refine yo (zN [.pointer none, iX 0, iX 0, .bool false] 30 h fun u t h => ?_); refine ye <| ysr <| yp 4 [] (.l (h.c 0 0) .z) <| yo (yC (fill_any p1 p2 a n cap l _ (qq h.ch hT (fun _ h => h.elim)) (Nat.le_trans h7 h.ch.size) ha (hr.ch h.ch iZ) hn hnb) ?_); rintro _ u ⟨f, v, rfl, i, j, k⟩; refine ⟨_, rfl, ?_⟩; have d := i.ok; have h := h.newGrid i j k; refine yz 6 <| ys <| zD [20] h fun u h => ?_; refine yd (uL 0 20) [] (.l (h.c 0 1) (.l (h.gwh 2).1 (.p (q := 0 ≤ ((qu .and .i64 x 65535) : Int) ∧ 0 < ((qdl p1 p2 l).w : Int)) (by constructor <;> (have := d.1; have := d.2.1; omega)) (.l (h.c 0 2) (.l (h.gwh 2).2 (.p (q := 0 ≤ ((qu .and .i64 y 65535) : Int) ∧ 0 < ((qdl p1 p2 l).h : Int)) (by constructor <;> (have := d.1; have := d.2.1; omega)) (.l (h.c 0 3) .z))))))) ?_; refine yK 20 (zs h 1 fun u h => ?_); refine q9 <| yDe (nS ?_); refine q8 (qdq (.agg #[pX f, iX ((qu .and .i64 x 65535) % (qdl p1 p2 l).w), iX ((qu .and .i64 y 65535) % (qdl p1 p2 l).h), .bool hid]) (.a (h.cs 1 0 4) .z) ?_); obtain ⟨F, hG, m⟩ := h.gridNew 2; exact ⟨f, F, rfl, hG, m, h.ch⟩
theorem qgo (p1 p2 : Int) (w : World) (hT : LT w) (h7 : gTop ≤ w.heap.size) : Calls Tryz.prog 11 [iX p1, iX p2].toArray w fun e w' => ∃ g F, e = .returned (.agg #[pX g, iX 0, iX 0, .bool false]) ∧ GridAt w' g (qcW p1 p2) F ∧ (∀ b, F b → w.heap.size ≤ b) ∧ Ch (fun _ => False) w w' := by
 have h := Sep.nil w; refine yA Tryz.func11 rfl <| ysr <| yo (zN [.pointer none, iX 0, iX 0, .bool false] 30 h fun u k h => ?_); refine ye <| ysr <| yq 2 <| yo (yC (qd6 (p1) (p2) _ (qq h.ch hT (fun _ h => h.elim)).tb (Nat.le_trans h7 h.ch.size)) ?_); rintro _ u ⟨c, l, rfl, d, f, i⟩; refine ⟨_, rfl, ?_⟩; have h := h.newGrid d f i; refine yq 4 <| yo (zs h 0 fun u h => ?_); refine ye <| q8 (qdq (.agg #[pX c, iX 0, iX 0, .bool false]) (.a (h.cs 0 0 4) .z) ?_); obtain ⟨F, hG, j⟩ := h.gridNew 1; exact ⟨c, F, rfl, hG, j, h.ch⟩
theorem qai {p q : Nat} {A B : Vw} {F1 F2 : Nat → Prop} (w : World) (hA : GridAt w p A.g F1) (hB : GridAt w q B.g F2) : Calls Tryz.prog 18 [.agg #[pX p, iX A.x, iX A.y, .bool A.hid], .agg #[pX q, iX B.x, iX B.y, .bool B.hid]].toArray w fun e w' => e = .returned (.bool (qan A B)) ∧ Ch (fun _ => False) w w' := by
 have h := Sep.nil w; refine yA Tryz.func18 rfl <| ysr <| yo (zN [pX p, iX A.x, iX A.y, .bool A.hid] 30 h fun u o h => ?_); refine yo (zN [pX q, iX B.x, iX B.y, .bool B.hid] 30 h fun u r h => ?_); refine yz 3 <| ysr <| yp 6 [] (.l (h.c 0 1) (.l (h.c 1 1) .z)) <| yw [10] (rE A.x B.x) (fun a => ?_) fun a => ?_
 ·have b := a; refine yp 13 [] (.l (h.c 0 2) (.l (h.c 1 2) .z)) <| yw [17] (rE A.y B.y) (fun d => ?_) fun d => ?_
  ·have i := d; refine yp 20 [] (.l (h.c 0 3) (.l (h.c 1 3) .z)) <| yw [24] (rY (A.hid == B.hid)) (fun f => ?_) fun f => ?_
   ·have j := f; refine yp 24 [] (.l (h.c 0 0) (.l (h.c 1 0) .z)) <| yo (yQ (h.look (qfl (hA.ch h.ch fun _ _ h => h) (hB.ch h.ch fun _ _ h => h))) fun u h => ?_); refine yz 27 <| q8 (yR1 (.bool (grB A.g B.g)) ?_); refine ⟨zc ?_, h.ch⟩; unfold qan; simp [b, i, j]
   have k := f; refine yz 27 <| q8 (yR1 (.bool false) ?_); refine ⟨zc ?_, h.ch⟩; unfold qan; simp [b, i, k]
  have m := d; refine yz 27 <| q8 (yR1 (.bool false) ?_); refine ⟨zc ?_, h.ch⟩; unfold qan; simp [b, m]
 have n := a; refine yz 27 <| q8 (yR1 (.bool false) ?_); refine ⟨zc ?_, h.ch⟩; unfold qan; simp [n]
theorem qhd (b off cap : Nat) (ls : List Lk) (w : World) (hr : Rd w (some ⟨b, off, none⟩) (lkV ls)) (hb : ls.length ≤ 9223372036854775807) : Calls Tryz.prog 9 [.slice (some ⟨b, off, none⟩) ls.length cap].toArray w fun e w' => e = .returned (.bool (fewB ls)) ∧ Ch (fun _ => False) w w' := by
 have h := Sep.nil w; refine yA Tryz.func9 rfl <| yx 1 <| ys <| yx 3 <| yc (rL 12 ((ls.length : Nat) : Int)) (fun f => ?_) fun f => ?_
 ·refine yx 1 <| q8 (rS (yR1 (.bool false) ?_)); exact ⟨congrArg Ending.returned (congrArg Value.bool (few_len (by omega))), h.ch⟩
 refine yk <| ys <| yx 3 <| qa <| qa2 [8, 9, 10] (f' := [(8, .slice (some ⟨b, off, none⟩) ls.length cap), (9, iX ((ls.length : Nat) : Int)), (10, iX 0)]) <| qG (σ := Nat) (fun k => [(8, .slice (some ⟨b, off, none⟩) ls.length cap), (9, iX ((ls.length : Nat) : Int)), (10, iX ((k : Nat) : Int))]) (fun k u => k ≤ ls.length ∧ (∀ j, j < k → (gk ls j).n ≤ 400) ∧ Sep w (fun _ => False) u []) (fun k => ls.length - k) 0 rfl ?_ ?_
 ·exact ⟨Nat.zero_le _, fun j hj => absurd hj (Nat.not_lt_zero j), h.take 0⟩
 intro k u g q o; obtain ⟨hk, d, h⟩ := g; refine yx 1 <| ys <| yc (rL ((k : Nat) : Int) ((ls.length : Nat) : Int)) (fun p => ?_) fun p => ?_
 ·refine yk <| ys <| qa <| ysr <| yp 2 [] (.i ((k : Nat) : Int) (ls.length) (.m (qeB (i := k) (h.rd hr) (by omega) 0 _ (by decide) rfl) (.m (qeB (i := k) (h.rd hr) (by omega) 1 _ (by decide) rfl) (.m (qeB (i := k) (h.rd hr) (by omega) 2 _ (by decide) rfl) (.m (qeB (i := k) (h.rd hr) (by omega) 3 _ (by decide) rfl) (.e .z)))))) <| yo (zN [nX, iX 0, iX 0, .bool false] 51 h fun u r h => ?_); refine yo (zs h 0 fun u h => ?_); refine ye <| ysr <| yp 4 [] (.l (h.c 0 0) .z) <| ye <| yc (rL 400 (((gk ls k).n : Nat) : Int)) (fun hf => ?_) fun hf => ?_
  ·refine yx 1 <| q8 (rB (rS (qcQ (rB (rS (yR1 (.bool false) ?_)))))); exact ⟨congrArg Ending.returned (congrArg Value.bool (few_at (k := k) (by omega) (by omega))), h.ch⟩
  refine qk (nB (nS ?_)); refine q7 <| yp 2 [] (.q6 (((k : Nat) : Int) + 1) .z) ?_; have h := h.nrm 0 [.slice (gk ls k).a (gk ls k).n (gk ls k).cap, iX (gk ls k).x, iX (gk ls k).y, .bool (gk ls k).hid]; refine yE (fun a ha => o (k + 1) _ ⟨by omega, fun j hj => (Nat.lt_or_ge j k).elim (d j) (fun h => by rw [show j = k by omega]; omega), h.take 0⟩ (by show ls.length - (k + 1) < ls.length - k; omega) a (ha.kp [8, 9, 10]))
 have s : k = ls.length := by omega
 refine qv (eS (qe (qb (nS ?_)))); refine yx 1 <| q8 (yR1 (.bool true) ?_); exact ⟨congrArg Ending.returned (congrArg Value.bool (few_t (by omega) (fun j hj => d j (by omega)))), h.ch⟩
section
variable {w0 w w' : World} {F0 : Nat → Prop} {l : List Asn} {i t g o : Nat} {T : TS}
theorem Sep.newT (h : Sep w0 F0 w l) (hA : TermAt w' t T (fun b => w.heap.size ≤ b ∧ b < w'.heap.size)) (hc : Ch (fun _ => False) w w') : Sep w0 F0 w' (l ++ [qbq t T]) :=
 h.add (A := qbq t T) (tmA.of hA) (fun _ hb => hb) hc
theorem Sep.wr (h : Sep w0 (fun _ => False) w l) (hT : LT w0) (i : Nat) {x : Option (Nat × Nat)} (hF : Fine T) (s : ByteArray) (hs : s.size ≤ 1000000) (hi : l[i]? = some (tmA x t T) := by rfl) : Calls Tryz.prog 13 [.pointer (some ⟨t, 0, none⟩), .string s].toArray w fun e w' => e = .returned (.tuple #[]) ∧ Sep w0 (fun _ => False) w' (l.set i (qbq t (qis T s))) :=
 h.met i (fun F hA _ => by obtain ⟨⟨W, H, hL⟩, hp⟩ := hF; exact write_at hA (qq h.ch hT (fun _ h => h.elim)) hL hp s hs) hi
theorem Sep.lookG {P : Program} {k : FuncId} {args : Array Value} {v : Value} (h : Sep w0 F0 w l) (i : Nat) (hk : ∀ F1, GridAt w g T.grid F1 → Calls P k args w fun e w' => e = .returned v ∧ Ch (fun _ => False) w w') (hi : l[i]? = some (tmA (some (g, o)) t T) := by rfl) : Calls P k args w fun e w' => e = .returned v ∧ Sep w0 F0 w' l := by
 obtain ⟨F, hA, _⟩ := h.at hi
 obtain ⟨F1, hG, _⟩ := tmA.grd (w' := w) (G' := T.grid) hA
 exact h.look (hk F1 hG)
end
def qhe : Vw := ⟨qcW 2 1, 0, 0, false⟩
def fitB : Vw := ⟨qd4 (qcW 2 1) 1 0 ⟨120, qbU⟩, 0, 0, false⟩
def fitT : TS := qis (startT zeroT 2 1) (qaN qhe fitB)
theorem qfS : (atG fitT.grid 1 0).rune = 120 ∧ fitT.cursor.x = 0 ∧ qan qhe qhe = true ∧ qan qhe fitB = false ∧ fitB.g.h = 1 := by decide +kernel
theorem qiJ : ∀ l ∈ fitB.g.lines, ∀ c ∈ l, qcC c.sty := by
 have : (fitB.g.lines.all fun l => l.all fun c => qcl c.sty) = true := by decide +kernel
 intro l hl c hc
 exact of_decide_eq_true (p := (0 ≤ c.sty.fore ∧ c.sty.fore ≤ 8) ∧ 0 ≤ c.sty.back ∧ c.sty.back ≤ 8) (List.all_eq_true.1 (List.all_eq_true.1 this l hl) c hc)
theorem qhf : (qaN qhe fitB).size ≤ 1000000 := by decide +kernel
def PS.gr (p : PS) : Prop := p.state = 0 → p = { atP 0 with utf := p.utf }
abbrev b24 : ByteArray := ⟨#[24]⟩
end Go.Proofs.YtjklgjjgndalcaaGreatDoor.X

namespace Go.Proofs.YtjklgjjgndalcaaGreatDoor.X
open Go Go.RowKit Go.Proofs.YtjklgjjgndalcaaGreatDoor
structure Kp (T U : TS) : Prop where
 alt : U.alt = true
 other : U.other = T.other
 away : U.away = T.away
 saved : U.saved = T.saved
 top : U.top = T.top
 bot : U.bot = T.bot
 title : U.title = T.title
 back : U.back = T.back
theorem Kp.refl {T : TS} (h : T.alt = true) : Kp T T := ⟨h, rfl, rfl, rfl, rfl, rfl, rfl, rfl⟩
theorem Kp.trans {T U V : TS} (h : Kp T U) (k : Kp U V) : Kp T V := ⟨k.alt, k.other.trans h.other, k.away.trans h.away, k.saved.trans h.saved, k.top.trans h.top, k.bot.trans h.bot, k.title.trans h.title, k.back.trans h.back⟩
end Go.Proofs.YtjklgjjgndalcaaGreatDoor.X


namespace Go.Proofs.YtjklgjjgndalcaaGreatDoor.X
open Go Go.RowKit Go.Proofs.YtjklgjjgndalcaaGreatDoor
structure Stp where
 text : ByteArray
 w : Int
 h : Int
def stp0 : Stp := ⟨ByteArray.empty, 0, 0⟩
def Stp.vals (x : Stp) : List Value := [.string x.text, .int .i64 x.w, .int .i64 x.h]
def flatS : List Stp → List Value
 | [] => []
 | x :: l => x.vals ++ flatS l
def gs (l : List Stp) (k : Nat) : Stp := l.getD k stp0
def qiK (l : List Cel) : Bool := (List.range l.length).all fun i => if (gc l (i : Int)).rune = 0 then qJ l ((i : Int) - 1) else qhl (gc l (i : Int)) && (!qZ (gc l (i : Int)).rune || qJ l (i : Int))
def celO (c : Cel) : Prop := qbf c.sty = true ∧ (c.rune = 0 ∨ qa7 c.rune = true)
def okS (l : List Cel) : Prop := ∀ c ∈ l, celO c
def okC (l : List Cel) : Prop := okS l ∧ qiK l = true
theorem qfo {l : List Cel} {i : Nat} (h : i < l.length) : gc l (i : Int) = l[i] := by simp [gc, List.getD, h]
theorem gc_mem {l : List Cel} {i : Nat} (h : i < l.length) : gc l (i : Int) ∈ l := by rw [qfo h]; exact List.getElem_mem h
theorem wholeB_iff {l : List Cel} : qiK l = true ↔ ∀ i : Nat, i < l.length → ((gc l (i : Int)).rune = 0 → qJ l ((i : Int) - 1) = true) ∧ ((gc l (i : Int)).rune ≠ 0 → qhl (gc l (i : Int)) = true ∧ (qZ (gc l (i : Int)).rune = true → qJ l (i : Int) = true)) := by
 unfold qiK
 rw [List.all_eq_true]
 refine ⟨fun h i hi => ?_, fun h i hi => ?_⟩
 ·have := h i (List.mem_range.2 hi)
  split at this
  ·rename_i h0; exact ⟨fun _ => this, fun h => absurd h0 h⟩
  ·rename_i h0
   rw [Bool.and_eq_true, Bool.or_eq_true, Bool.not_eq_true'] at this
   exact ⟨fun h => absurd h h0, fun _ => ⟨this.1, fun hw => this.2.elim (fun h => by rw [h] at hw; cases hw) id⟩⟩
 ·have := h i (List.mem_range.1 hi)
  split
  ·rename_i h0; exact this.1 h0
  ·rename_i h0
   rw [Bool.and_eq_true, Bool.or_eq_true, Bool.not_eq_true']
   refine ⟨(this.2 h0).1, ?_⟩
   cases hw : qZ (gc l (i : Int)).rune with
   | false => exact .inl rfl
   | true => exact .inr ((this.2 h0).2 hw)
theorem qfp (l : List Cel) : ∀ k, k ≤ l.length → ∀ i : Nat, i < l.length → gc (qas l k) (i : Int) = if i < k then qbV l (i : Int) else gc l (i : Int)
 | 0, _, i, _ => by rw [if_neg (Nat.not_lt_zero i)]; rfl
 | k + 1, hk, i, hi => by
  have ih := qfp l k (by omega) i hi
  have hl := qab l k
  rw [qas, qfo (by rw [List.length_set, hl]; exact hi), List.getElem_set]
  split
  ·rename_i e; subst e; rw [if_pos (by omega)]
  ·rename_i e
   rw [qfo (by rw [hl]; exact hi)] at ih
   rw [ih]
   by_cases h : i < k
   ·rw [if_pos h, if_pos (by omega)]
   ·rw [if_neg h, if_neg (by omega)]
theorem qeC (l : List Cel) {i : Nat} (hi : i < l.length) : gc (qcq l) (i : Int) = qbV l (i : Int) := by
 unfold qcq
 rw [qfp l _ (Nat.le_refl _) i hi, if_pos hi]
theorem wide0 : qZ 0 = false := by decide +kernel
theorem wide32 : qZ 32 = false := by decide +kernel
theorem qeD : qa7 32 = true := by decide +kernel
theorem pairedB_iff {l : List Cel} {i : Int} : qJ l i = true ↔ 0 ≤ i ∧ i + 1 < (l.length : Nat) ∧ qZ (gc l i).rune = true ∧ gc l (i + 1) = ⟨0, (gc l i).sty⟩ := by
 unfold qJ
 simp only [Bool.and_eq_true, decide_eq_true_eq, beq_iff_eq]
 constructor
 ·rintro ⟨⟨⟨a, b⟩, c⟩, d⟩; exact ⟨a, b, c, d⟩
 ·rintro ⟨a, b, c, d⟩; exact ⟨⟨⟨a, b⟩, c⟩, d⟩
theorem qe2 {l : List Cel} {i : Int} (h1 : (gc l i).rune = 0 → qJ l (i - 1) = true) (h2 : qZ (gc l i).rune = true → qJ l i = true) : qbV l i = gc l i := by
 unfold qbV
 rw [if_neg]
 intro h
 simp only [Bool.or_eq_true, Bool.and_eq_true, decide_eq_true_eq, Bool.not_eq_true'] at h
 rcases h with h | h
 ·rw [h1 h.1] at h; cases h.2
 ·rw [h2 h.1] at h; cases h.2
theorem qdn (l : List Cel) (i : Int) : qbV l i = ⟨32, (gc l i).sty⟩ ∨ (qbV l i = gc l i ∧ ((gc l i).rune = 0 → qJ l (i - 1) = true) ∧ (qZ (gc l i).rune = true → qJ l i = true)) := by
 unfold qbV
 split
 ·exact .inl rfl
 ·rename_i h
  simp only [Bool.or_eq_true, Bool.and_eq_true, decide_eq_true_eq, Bool.not_eq_true', not_or, not_and] at h
  exact .inr ⟨rfl, fun h0 => by simpa using h.1 h0, fun hw => by simpa using h.2 hw⟩
theorem qdo {l : List Cel} {i : Int} (h : qJ l i = true) : qJ (qcq l) i = true := by
 obtain ⟨h0, h1, h2, h3⟩ := pairedB_iff.1 h
 obtain ⟨k, rfl⟩ := Int.eq_ofNat_of_zero_le h0
 have e1 : gc (qcq l) ((k : Nat) : Int) = gc l (k : Int) := by
  rw [qeC l (by omega)]
  exact qe2 (fun h => by rw [h, wide0] at h2; cases h2) (fun _ => h)
 have e2 : gc (qcq l) (((k : Nat) : Int) + 1) = gc l ((k : Int) + 1) := by
  have e3 : ((k : Nat) : Int) + 1 = ((k + 1 : Nat) : Int) := by omega
  rw [e3, qeC l (by omega), ← e3]
  refine qe2 (fun _ => ?_) (fun hw => ?_)
  ·rw [show ((k : Nat) : Int) + 1 - 1 = (k : Int) by omega]; exact h
  ·rw [h3, wide0] at hw; cases hw
 refine pairedB_iff.2 ⟨h0, by rw [qaj]; exact h1, by rw [e1]; exact h2, by rw [e2, e1]; exact h3⟩
theorem mend_ok {l : List Cel} (h : okS l) : okC (qcq l) := by
 have one : ∀ i : Nat, i < l.length → celO (qbV l (i : Int)) := fun i hi => by
  have hc := h _ (gc_mem hi)
  rcases qdn l (i : Int) with e | ⟨e, _⟩
  ·rw [e]; exact ⟨hc.1, .inr qeD⟩
  ·rw [e]; exact hc
 refine ⟨fun c hc => ?_, wholeB_iff.2 fun i hi => ?_⟩
 ·obtain ⟨i, hi, rfl⟩ := List.mem_iff_getElem.1 hc
  rw [qaj] at hi
  have := one i hi
  rwa [← qeC l hi, qfo (by rw [qaj]; exact hi)] at this
 ·rw [qaj] at hi
  rw [qeC l hi]
  have hc := one i hi
  rcases qdn l (i : Int) with e | ⟨e, h1, h2⟩
  ·rw [e]
   refine ⟨fun h => (by cases h), fun _ => ⟨?_, fun hw => by rw [wide32] at hw; cases hw⟩⟩
   rw [e] at hc
   unfold qhl
   rw [hc.1, Bool.and_true]
   exact qeD
  ·rw [e] at hc ⊢
   refine ⟨fun h => qdo (h1 h), fun h => ⟨?_, fun hw => qdo (h2 hw)⟩⟩
   unfold qhl
   rw [hc.1, hc.2.resolve_left h]; rfl
theorem qfT {l : List Cel} (h : okS l) {i : Nat} {c : Cel} (hc : celO c) : okS (l.set i c) := fun d hd => by
 rcases List.mem_or_eq_of_mem_set hd with hd | rfl
 ·exact h d hd
 ·exact hc
theorem qe3 {s : Sty} (h : qbf s = true) : celO (qw s) := by
 refine ⟨?_, .inr qeD⟩
 unfold qbf at *
 simp only [Bool.and_eq_true, decide_eq_true_eq] at *
 exact ⟨⟨⟨Int.le_refl _, (by show (0 : Int) ≤ 8; decide)⟩, h.1.2⟩, h.2⟩
theorem sty0_ok : qbf qbU = true := by decide
theorem qiL (n : Nat) {s : Sty} (h : qbf s = true) : okC (List.replicate n (qw s)) := by
 refine ⟨fun c hc => by rw [List.eq_of_mem_replicate hc]; exact qe3 h, wholeB_iff.2 fun i hi => ?_⟩
 rw [List.length_replicate] at hi
 have e : gc (List.replicate n (qw s)) (i : Int) = qw s := by rw [qfo (by rw [List.length_replicate]; exact hi)]; simp
 rw [e]
 refine ⟨fun h => (by cases h), fun _ => ⟨?_, fun hw => ?_⟩⟩
 ·unfold qhl; rw [(qe3 h).1, Bool.and_true]; exact qeD
 ·have hw : qZ 32 = true := hw
  rw [wide32] at hw; cases hw
theorem putL_ok {W : Int} {l : List Cel} {x : Int} {c : Cel} (h : okS l) (hc : qhl c = true) : okS (putL W l x c) := by
 unfold qhl at hc
 rw [Bool.and_eq_true] at hc
 unfold putL
 split
 ·exact qfT (qfT h ⟨hc.2, .inr hc.1⟩) ⟨hc.2, .inl rfl⟩
 ·exact qfT h ⟨hc.2, .inr hc.1⟩
def okG (G : Gr) : Prop := ∀ l ∈ G.lines, okC l
theorem okG_line {G : Gr} (h : okG G) (y : Int) : okS (gl G y) := by
 unfold gl
 rw [List.getD_eq_getElem?_getD]
 cases e : G.lines[y.toNat]? with
 | none => intro c hc; cases hc
 | some l => exact (h l (List.mem_of_getElem? e)).1
theorem okG_set {G : Gr} (h : okG G) (y : Int) {l : List Cel} (hl : okC l) : okG (qeS G y l) := fun m hm => by
 rcases List.mem_or_eq_of_mem_set hm with hm | rfl
 ·exact h m hm
 ·exact hl
theorem okG_put {G : Gr} (h : okG G) (x y : Int) (c : Cel) : okG (qd4 G x y c) := by
 unfold qd4
 split
 ·rename_i hc; exact okG_set h y (mend_ok (putL_ok (okG_line h y) hc.2))
 ·exact h
theorem okG_new (w h : Int) : okG (qcW w h) := fun l hl => by rw [List.eq_of_mem_replicate hl]; exact qiL _ sty0_ok
theorem qgp : ∀ (l : List Cel) (G : Gr) (i : Int), okG G → okG (qcF l G i) ∧ (qcF l G i).w = G.w ∧ (qcF l G i).h = G.h
 | [], G, i, h => ⟨h, rfl, rfl⟩
 | c :: l, G, i, h => by
  unfold qcF
  split
  ·exact ⟨h, rfl, rfl⟩
  ·obtain ⟨h1, h2, h3⟩ := qgp l (qd4 G (i % G.w) (i / G.w) c) (if qZ c.rune = true then i + 2 else i + 1) (okG_put h _ _ _)
   exact ⟨h1, h2.trans (qi2 _ _ _ _).1, h3.trans (qi2 _ _ _ _).2⟩
theorem qbH {G : Gr} (h : okG G) : ∀ l ∈ G.lines, ∀ c ∈ l, qcC c.sty := fun l hl c hc => by
 have := ((h l hl).1 c hc).1
 unfold qbf at this
 simp only [Bool.and_eq_true, decide_eq_true_eq] at this
 unfold qcC
 omega
structure VOk (p1 p2 : Int) (V : Vw) : Prop where
 ok : okG V.g
 w : V.g.w = qp p1
 h : V.g.h = qp p2
 x : 0 ≤ V.x ∧ V.x < V.g.w
 y : 0 ≤ V.y ∧ V.y < V.g.h
theorem qcZ (n : Int) : 1 ≤ qp n ∧ qp n ≤ 60 := by unfold qp; omega
theorem qgq (p1 p2 : Int) (l : List Cel) (x y : Int) (hid : Bool) : VOk p1 p2 (viewV p1 p2 l x y hid) := by
 obtain ⟨h1, h2, h3⟩ := qgp (qa6 l) (qcW p1 p2) 0 (okG_new p1 p2)
 have hw : (qdl p1 p2 l).w = qp p1 := h2
 have hh : (qdl p1 p2 l).h = qp p2 := h3
 have b1 := qcZ p1
 have b2 := qcZ p2
 exact ⟨h1, hw, hh, ⟨Int.emod_nonneg _ (by omega), Int.emod_lt_of_pos _ (by omega)⟩, ⟨Int.emod_nonneg _ (by omega), Int.emod_lt_of_pos _ (by omega)⟩⟩
theorem qc1 : ∀ (a b : List Cel), qad a b ≤ a.length ∧ a.take (qad a b) = b.take (qad a b)
 | [], b => by cases b <;> exact ⟨Nat.le_refl _, rfl⟩
 | c :: l, [] => ⟨Nat.zero_le _, rfl⟩
 | c :: l, d :: m => by
  unfold qad
  split
  ·rename_i e
   obtain ⟨h1, h2⟩ := qc1 l m
   exact ⟨by simpa using h1, by rw [List.take_succ_cons, List.take_succ_cons, h2, e]⟩
  ·exact ⟨Nat.zero_le _, rfl⟩
theorem qfq {a b : List Cel} (hl : a.length = b.length) (h : a ≠ b) : qad a b < a.length := by
 obtain ⟨h1, h2⟩ := qc1 a b
 rcases Nat.lt_or_ge (qad a b) a.length with h3 | h3
 ·exact h3
 ·exact absurd (by rwa [List.take_of_length_le h3, List.take_of_length_le (by omega)] at h2) h
theorem qdp : ∀ a : List Cel, qad a a = a.length
 | [] => rfl
 | c :: l => by unfold qad; rw [if_pos rfl, qdp l]; rfl
theorem ends_lt {a b : List Cel} (hl : a.length = b.length) : (qbG a b).1 < (qbG a b).2 ↔ a ≠ b := by
 unfold qbG
 constructor
 ·intro h e
  subst e
  simp only [qdp] at h
  omega
 ·intro h
  have h1 := qfq hl h
  have h2 := (qc1 a b).2
  have h3 : (a.drop (qad a b)).reverse ≠ (b.drop (qad a b)).reverse := fun e => h (by
   rw [← List.take_append_drop (qad a b) a, h2, List.reverse_inj.1 e, List.take_append_drop])
  have h4 := qfq (by rw [List.length_reverse, List.length_reverse, List.length_drop, List.length_drop, hl]) h3
  rw [List.length_reverse, List.length_drop] at h4
  dsimp only
  omega
theorem qiM (x y : Int) : 0 < (toB x y).size := by
 unfold toB
 simp only [ByteArray.size_append]
 have := qaF
 omega
theorem qgr {A B : Gr} (hl : ∀ j : Nat, j < B.h.toNat → (gl A (j : Int)).length = (gl B (j : Int)).length) : ∀ k, k ≤ B.h.toNat → ((dfK A B k).size = 0 ↔ ∀ j : Nat, j < k → gl A (j : Int) = gl B (j : Int))
 | 0, _ => ⟨fun _ j hj => absurd hj (Nat.not_lt_zero j), fun _ => rfl⟩
 | k + 1, hk => by
  have ih := qgr hl k (by omega)
  have he := ends_lt (hl k (by omega))
  unfold dfK
  dsimp only
  by_cases e : gl A (k : Int) = gl B (k : Int)
  ·rw [if_neg (fun h => he.1 h e), ih]
   exact ⟨fun h j hj => (Nat.lt_or_ge j k).elim (h j) (fun h' => by rw [show j = k by omega]; exact e), fun h j hj => h j (by omega)⟩
  ·rw [if_pos (he.2 e)]
   have := qiM ((qbG (gl A (k : Int)) (gl B (k : Int))).1 : Int) (k : Int)
   simp only [ByteArray.size_append]
   exact ⟨fun h => by omega, fun h => absurd (h k (by omega)) e⟩
theorem gl_len {G : Gr} (h : G.ok) {j : Nat} (hj : j < G.h.toNat) : (gl G (j : Int)).length = G.w.toNat := by
 have hl := h.2.2.1
 unfold gl
 rw [Int.toNat_natCast, List.getD_eq_getElem?_getD, List.getElem?_eq_getElem (by omega), Option.getD_some]
 exact h.2.2.2 _ (List.getElem_mem _)
theorem styB_pos (s : Sty) : 0 < (qfv s).size := by
 unfold qfv
 rw [ByteArray.size_append]
 have := qbS
 omega
theorem qfr {A B : Vw} (hA : A.g.ok) (hB : B.g.ok) (hw : A.g.w = B.g.w) (hh : A.g.h = B.g.h) : qiB (qaN A B) = qan A B := by
 have hd := qgr (A := A.g) (B := B.g) (fun j hj => by rw [gl_len hA (by omega), gl_len hB hj, hw]) B.g.h.toNat (Nat.le_refl _)
 have hg : grB A.g B.g = true ↔ ∀ j : Nat, j < B.g.h.toNat → gl A.g (j : Int) = gl B.g (j : Int) := by
  unfold grB
  rw [decide_eq_true hw, decide_eq_true hh, Bool.true_and, Bool.true_and]
  unfold eqRB
  rw [decide_eq_true_eq]
  refine ⟨fun e j _ => by unfold gl; rw [e], fun h => List.ext_getElem (by rw [hA.2.2.1, hB.2.2.1, hh]) fun j h1 h2 => ?_⟩
  have := h j (by have := hB.2.2.1; omega)
  unfold gl at this
  rwa [Int.toNat_natCast, List.getD_eq_getElem?_getD, List.getD_eq_getElem?_getD, List.getElem?_eq_getElem h1, List.getElem?_eq_getElem h2, Option.getD_some, Option.getD_some] at this
 have h1 : (df1 A B).size = 0 ↔ grB A.g B.g = true := by
  rw [hg, ← hd]
  unfold df1
  split
  ·exact Iff.rfl
  ·rename_i h
   have := styB_pos qbU
   rw [ByteArray.size_append]
   exact ⟨fun h' => by omega, fun h' => absurd h' h⟩
 have h2 : (df2 A B).size = 0 ↔ grB A.g B.g = true ∧ A.x = B.x ∧ A.y = B.y := by
  rw [← h1]
  unfold df2
  have := qiM B.x B.y
  split
  ·rename_i h
   rw [ByteArray.size_append]
   exact ⟨fun h' => by omega, fun ⟨a, b, c⟩ => h.elim (fun h => absurd a h) fun h => h.elim (fun h => absurd b h) (fun h => absurd c h)⟩
  ·rename_i h
   exact ⟨fun h' => ⟨h', Classical.byContradiction fun e => h (.inr (.inl e)), Classical.byContradiction fun e => h (.inr (.inr e))⟩, fun h => h.1⟩
 have h3 : (qaN A B).size = 0 ↔ (grB A.g B.g = true ∧ A.x = B.x ∧ A.y = B.y) ∧ A.hid = B.hid := by
  rw [← h2]
  unfold qaN
  have := qav
  have := qaw
  split
  ·rename_i h
   rw [ByteArray.size_append]
   exact ⟨fun h' => by omega, fun ⟨_, e⟩ => by rw [h.1, h.2] at e; cases e⟩
  ·rename_i h4
   split
   ·rename_i h
    rw [ByteArray.size_append]
    exact ⟨fun h' => by omega, fun ⟨_, e⟩ => by rw [h.1, h.2] at e; cases e⟩
   ·rename_i h5
    refine ⟨fun h' => ⟨h', ?_⟩, fun h => h.1⟩
    cases hA' : A.hid <;> cases hB' : B.hid
    ·rfl
    ·exact absurd ⟨hB', hA'⟩ h4
    ·exact absurd ⟨hA', hB'⟩ h5
    ·rfl
 rw [Bool.eq_iff_iff, none_iff, h3]
 unfold qan
 simp only [Bool.and_eq_true, decide_eq_true_eq, beq_iff_eq]
 exact ⟨fun ⟨⟨a, b, c⟩, d⟩ => ⟨⟨⟨b, c⟩, d⟩, a⟩, fun ⟨⟨⟨b, c⟩, d⟩, a⟩ => ⟨⟨a, b, c⟩, d⟩⟩
theorem qe4 (A : Vw) : qan A A = true := by
 unfold qan
 rw [grB_refl]
 simp
theorem few_two {a b : Lk} (h : fewB [a, b] = true) : a.n ≤ 400 ∧ b.n ≤ 400 := by
 unfold fewB at h
 simp only [Bool.and_eq_true, List.all_cons, List.all_nil, decide_eq_true_eq, and_true] at h
 exact h.2
theorem qiN (w : World) (hT : LT w) (h7 : gTop ≤ w.heap.size) : Calls Tryz.prog 8 [].toArray w fun e w' => e = .returned (.bool true) ∧ Ch (fun _ => False) w w' := by
 obtain ⟨f1, f2, f3, f4, f5⟩ := qfS; have f6 : (qcW (2) (1)).h = 1 := rfl; have h := Sep.nil w; refine yA Tryz.func8 rfl <| yx 1 <| ysr <| yo (yC (qgo (2) (1) _ (qq h.ch hT (fun _ h => h.elim)) (Nat.le_trans h7 h.ch.size)) ?_); rintro _ u ⟨C, D, rfl, j, k, m⟩; refine ⟨_, rfl, ?_⟩; have h := h.newGrid j k m; refine yo (yC (qgo (2) (1) _ (qq h.ch hT (fun _ h => h.elim)) (Nat.le_trans h7 h.ch.size)) ?_); rintro _ u ⟨n, E, rfl, o, p, q⟩; refine ⟨_, rfl, ?_⟩; have h := h.newGrid o p q; refine yo (yC (qgj (2) (1) _ (qq h.ch hT (fun _ h => h.elim)) (Nat.le_trans h7 h.ch.size)) ?_); rintro _ u ⟨G, rfl, r, s⟩; refine ⟨_, rfl, ?_⟩; have h := h.newT r s; refine yo (zN [.pointer none, iX 0, iX 0, .bool false] 30 h fun u H h => ?_); refine yo (zN [.pointer none, iX 0, iX 0, .bool false] 30 h fun u b24 h => ?_); refine yo (zs h 3 fun u h => ?_); refine yo (zs h 4 fun u h => ?_); refine yz 8 <| ys <| ysr ?_; obtain ⟨I, J, h⟩ := h.opn 2; obtain ⟨K, L, t⟩ := h.glines 1; refine yp 28 [] (.l (h.c 3 0) (.l (h.c 4 0) (.l (h.tg 2) (.l (h.c 4 0) (.l t .z))))) <| ye <| yc (rI (((qcW (2) (1)).h.toNat : Nat) : Int) 1) (fun b => ?_) fun b => ?_
 ·have M := b; exfalso; omega
 have N := b; refine yk <| ysr <| yp 3 [] (.l (h.c 4 0) .z) <| yo (yQ (h.step 1 (A' := qE n (qd4 (qcW (2) (1)) (1) (0) (Cel.mk 120 qbU))) (fun F hA _ => qfE _ _ F (1) (0) (Cel.mk 120 qbU) _ (qq h.ch hT (fun _ h => h.elim)).tb hA)) fun u h => ?_); refine ye <| ysr <| yp 3 [] (.a (h.cs 3 0 4) (.a (h.cs 4 0 4) .z)) <| yo (yQ (h.look ((h.grid 0).elim fun _ hA => (h.grid 1).elim fun _ hB => qaR (A := qhe) (B := fitB) _ (qq h.ch hT (fun _ h => h.elim)) hA hB rfl rfl ⟨Int.le_refl _, by decide⟩ ⟨Int.le_refl _, by decide⟩ qiJ)) fun u h => ?_); refine yo (yQ (h.wr hT 2 (qe1 2 1) (qaN qhe fitB) qhf) fun u h => ?_); refine ye <| ysr ?_; obtain ⟨O, P, h⟩ := h.opn 2; refine yp 4 [] (.l (h.tg 2) .z) <| yo (yQ (h.lookG 2 fun _ hG => at_any _ _ _ (1) (0) _ (qq h.ch hT (fun _ h => h.elim)).tb hG) fun u h => ?_); refine yq 8 <| yw [51] (rE (atG fitT.grid (1) (0)).rune 120) (fun d => ?_) fun d => ?_
 ·have Q := d; refine yp 16 [] (.l (h.tc 2 2) .z) <| yw [59] (rE fitT.cursor.x 0) (fun f => ?_) fun f => ?_
  ·have R := f; refine yp 18 [] (.a (h.cs 3 0 4) (.a (h.cs 3 0 4) .z)) <| yo (yQ (h.look ((h.grid 0).elim fun _ hA => (h.grid 0).elim fun _ hB => qai (A := qhe) (B := qhe) _ hA hB)) fun u h => ?_); refine yq 21 <| yw [64] (rY (qan qhe qhe)) (fun g => ?_) fun g => ?_
   ·have S := g; refine yp 23 [] (.a (h.cs 3 0 4) (.a (h.cs 4 0 4) .z)) <| yo (yQ (h.look ((h.grid 0).elim fun _ hA => (h.grid 1).elim fun _ hB => qai (A := qhe) (B := fitB) _ hA hB)) fun u h => ?_); refine yz 27 <| q8 (yR1 (.bool (!(qan qhe fitB))) ?_); refine ⟨zc ?_, h.ch⟩; simp [f1, f2, f3, f4]
   have i := g; rw [f3] at i; cases i
  have v := f; exact absurd f2 v
 have y := d; exact absurd f1 y
def AllS (p : Nat → Prop) : List Nat → Prop
 | [] => True
 | k :: l => p k ∧ AllS p l
theorem AllS.at {p : Nat → Prop} : ∀ {l : List Nat}, AllS p l → ∀ k ∈ l, p k
 | k :: l, h, j, hj => by
  rcases List.mem_cons.1 hj with rfl | hj
  ·exact h.1
  ·exact AllS.at h.2 j hj
section
variable {P : Program} {N : Nat} {ops : Array Oper} {Q : Exit → Act → World → Prop} {kill : List Nat} {F : World → Prop} {w : World} {done done' : List Nat} {f f' : Fr}
theorem qP (rs : List Nat) (hr : (Region.ready .any ops (qt ops.size done) == rs) = true) (hl : done.length < ops.size) (h0 : rs.isEmpty = false) (h : AllS (qcu P N ops Q kill F done f w) rs) : WD P N ops Q kill F done f w := by
 intro a ha
 have hr' : Region.ready .any ops (qt ops.size done) = rs := by simpa using hr
 rw [show ops.size - done.length = (ops.size - (done.length + 1)) + 1 by omega]
 refine ⟨fun e => (by rw [hr'] at e; rw [e] at h0; cases h0), fun k hk => ?_⟩
 rw [hr'] at hk
 have := h.at k hk a ha
 rw [qaB, List.length_append] at this
 exact this
theorem WDm {M : List Nat → Fr → World → Prop} (hM : M = WD P N ops Q kill F) (ks : List Nat) (h : M done' f' w) (hd : (qt ops.size done == qt ops.size done' && done.length == done'.length) = true := by kernel_rfl) (hf : keep ks f = f' := by kernel_rfl) : WD P N ops Q kill F done f w := by
 subst hM
 intro a ha
 rw [Bool.and_eq_true, beq_iff_eq, beq_iff_eq] at hd
 rw [hd.1, hd.2]
 exact h a (hf ▸ ha.keep ks)
theorem wd_goal (h : ∀ M : List Nat → Fr → World → Prop, M = WD P N ops Q kill F → M done f w) : WD P N ops Q kill F done f w := h _ rfl
theorem zHk {is : List Nat} {w0 : World} {F0 : Nat → Prop} {l l' : List Asn} (h : Sep w0 F0 w l') (hK : WD P N ops Q kill (SepOn w0 F0 l is) done f w) (e : is.map (fun i => l'[i]?) = is.map (fun i => l[i]?) := by rfl) : ∀ a, Has N f a → ∃ G : World → Prop, (∀ u, G u → SepOn w0 F0 l is u) ∧ G w ∧ qS P ops Q kill G (ops.size - done.length) (qt ops.size done) a w :=
 fun a ha => ⟨_, fun _ h => h, ⟨l', h, e⟩, hK a ha⟩
theorem zKk {is : List Nat} {w0 : World} {F0 : Nat → Prop} {l l' : List Asn} (h : Sep w0 F0 w l') (hK : WD P N ops Q kill (SepOn w0 F0 l is) done f w) (e : is.map (fun i => l'[i]?) = is.map (fun i => l[i]?) := by rfl) : ∀ a, Has N f a → ∃ G : World → Prop, G w ∧ qS P ops Q kill G (ops.size - done.length) (qt ops.size done) a w :=
 fun a ha => ⟨SepOn w0 F0 l is, ⟨l', h, e⟩, hK a ha⟩
end
theorem Sep.pad {w0 w : World} {F0 : Nat → Prop} {l : List Asn} (n : Nat) (h : Sep w0 F0 w l) : Sep w0 F0 w (l ++ List.replicate n qQ) := by
 obtain ⟨F, h1, h2, h3⟩ := h.ex
 refine ⟨h.ch, fun j b => j < l.length ∧ F j b, fun j A e => ?_, fun j k hjk b hb hb' => h2 j k hjk b hb.2 hb'.2, fun j b hb => h3 j b hb.2⟩
 by_cases hj : j < l.length
 ·rw [List.getElem?_append_left hj] at e
  exact Asn.to (h1 j A e) fun b => ⟨fun hb => ⟨hj, hb⟩, fun hb => hb.2⟩
 ·rw [List.getElem?_append_right (by omega), List.getElem?_replicate] at e
  split at e
  ·obtain rfl := Option.some.inj e
   exact trivial
  ·cases e
theorem Sep.ord {w0 w : World} {F0 : Nat → Prop} {l : List Asn} (h : Sep w0 F0 w l) (is : List Nat) (hn : is.Nodup := by decide) : Sep w0 F0 w (is.map fun i => l.getD i qQ) := by
 obtain ⟨F, h1, h2, h3⟩ := h.ex
 refine ⟨h.ch, fun j b => ∃ i, is[j]? = some i ∧ F i b, fun j A e => ?_, fun j k hjk b hb hb' => ?_, fun j b hb => ?_⟩
 ·rw [List.getElem?_map] at e
  cases hi : is[j]? with
  | none => rw [hi] at e; cases e
  | some i =>
   rw [hi] at e
   obtain rfl := Option.some.inj e
   have hA : (l.getD i qQ).P w (F i) := by
    rw [List.getD_eq_getElem?_getD]
    cases hl : l[i]? with
    | none => exact trivial
    | some A => exact h1 i A hl
   exact Asn.to hA fun b => ⟨fun hb => ⟨i, hi, hb⟩, fun ⟨i', e', hb⟩ => by obtain rfl := Option.some.inj (hi.symm.trans e'); exact hb⟩
 ·obtain ⟨i, hi, hF⟩ := hb
  obtain ⟨i', hi', hF'⟩ := hb'
  refine h2 i i' (fun e => ?_) b hF hF'
  subst e
  obtain ⟨l1, e1⟩ := List.getElem?_eq_some_iff.1 hi
  obtain ⟨l2, e2⟩ := List.getElem?_eq_some_iff.1 hi'
  exact hjk ((List.getElem_inj hn).1 (e1.trans e2.symm))
 ·obtain ⟨i, _, hF⟩ := hb
  exact h3 i b hF
theorem none22_any (p1 p2 : Int) (a1 : Option Addr) (n1 c1 : Nat) (l1 : List Cel) (x1 y1 : Int) (h1 : Bool) (a2 : Option Addr) (n2 c2 : Nat) (l2 : List Cel) (x2 y2 : Int) (h2 : Bool) (w : World) (hT : LT w) (h7 : gTop ≤ w.heap.size) (ha1 : n1 = 0 ∨ ∃ b off, a1 = some ⟨b, off, none⟩) (hr1 : Rd w a1 (flat l1)) (hn1 : l1.length = n1) (ha2 : n2 = 0 ∨ ∃ b off, a2 = some ⟨b, off, none⟩) (hr2 : Rd w a2 (flat l2)) (hn2 : l2.length = n2) : Calls Tryz.prog 4 [.agg #[iX p1, iX p2], .agg #[.slice a1 n1 c1, iX x1, iX y1, .bool h1], .agg #[.slice a2 n2 c2, iX x2, iX y2, .bool h2]].toArray w fun e w' => e = .returned (.bool true) ∧ Ch (fun _ => False) w w' := by
 have dA := qcZ p1; have dB := qcZ p2; obtain ⟨d, G⟩ : ∃ V, V = viewV p1 p2 l1 x1 y1 h1 := ⟨_, rfl⟩
 have q : VOk p1 p2 d := G ▸ qgq p1 p2 l1 x1 y1 h1; obtain ⟨j, H⟩ : ∃ V, V = viewV p1 p2 l2 x2 y2 h2 := ⟨_, rfl⟩
 have E : VOk p1 p2 j := H ▸ qgq p1 p2 l2 x2 y2 h2; have h := Sep.nil w; refine yA Tryz.func4 rfl <| ysr <| yo (zN [iX p1, iX p2] 22 h fun u t h => ?_); refine yo (zN [.slice a1 n1 c1, iX x1, iX y1, .bool h1] 51 h fun u v h => ?_); refine yo (zN [.slice a2 n2 c2, iX x2, iX y2, .bool h2] 51 h fun u C h => ?_); refine yz 4 <| ys <| ysr <| yo (yQ (h.look (qiN _ (qq h.ch hT (fun _ h => h.elim)) (Nat.le_trans h7 h.ch.size))) fun u h => ?_); refine yz 2 <| ycf <| yk <| ys <| ysr <| yp 2 [] (.a (h.cs 1 0 4) (.a (h.cs 2 0 4) .z)) <| yo (zB [.slice a1 n1 c1, iX x1, iX y1, .bool h1, .slice a2 n2 c2, iX x2, iX y2, .bool h2] 51 2 h fun u s h => ?_); refine yo (yQ (h.look (qhd s 0 2 [⟨a1, n1, c1, x1, y1, h1⟩, ⟨a2, n2, c2, x2, y2, h2⟩] _ (Rd.all (h.b 3)) (by show (2 : Nat) ≤ _; decide))) fun u h => ?_); refine yz 5 <| yc (rN (rY (fewB [⟨a1, n1, c1, x1, y1, h1⟩, ⟨a2, n2, c2, x2, y2, h2⟩]))) (fun P => ?_) fun P => ?_
 ·have dC := P; refine yx 1 <| q8 (rS (yR1 (.bool true) ?_)); exact ⟨rfl, h.ch⟩
 have aW := P; obtain ⟨aX, aY⟩ := few_two aW; dsimp only at aX aY; refine yk <| ys <| zDC [17, 21, 22, 23] [0, 1, 2, 3] h fun u h => ydF [0, 1, 2, 3, 4, 6, 7, 8, 9, 10, 12, 13, 14, 15, 16] [] h.on (fun u h => (.i 0 (2) (.l (h.c 0 0) (.i 1 (2) (.l (h.c 0 1) (.a (h.cs 1 0 4) (.i 0 (2) (.l (h.c 0 0) (.i 1 (2) (.l (h.c 0 1) (.a (h.cs 2 0 4) (.i 0 (2) (.l (h.c 0 0) (.i 1 (2) (.l (h.c 0 1) (.a (h.cs 1 0 4) .z)))))))))))))))) <| wd_goal fun D k => ?_; have J : ∀ (u : World) (f m r n o p : Nat), Sep w (fun _ => False) u [qg t [iX p1, iX p2] 22, qg v [.slice a1 n1 c1, iX x1, iX y1, .bool h1] 51, qg C [.slice a2 n2 c2, iX x2, iX y2, .bool h2] 51, qg s [.slice a1 n1 c1, iX x1, iX y1, .bool h1, .slice a2 n2 c2, iX x2, iX y2, .bool h2] 51, qE f d.g, qE m j.g, qE r d.g, qg n [.pointer none, iX 0, iX 0, .bool false] 30, qg o [.pointer none, iX 0, iX 0, .bool false] 30, qg p [.pointer none, iX 0, iX 0, .bool false] 30] → D [0, 1, 2, 3, 4, 6, 7, 8, 9, 10, 12, 13, 14, 15, 16, 5, 11, 17, 18, 19, 20] [(7, pX n), (8, pX o), (9, pX p), (23, .agg #[pX f, iX d.x, iX d.y, .bool d.hid]), (29, .agg #[pX m, iX j.x, iX j.y, .bool j.hid]), (35, .agg #[pX r, iX d.x, iX d.y, .bool d.hid])] u := by
  intro u f m r n o p h; rw [k]; have F : d.g.ok := (h.grid 4).elim fun _ hG => hG.ok; have I : j.g.ok := (h.grid 5).elim fun _ hG => hG.ok; have K : qiB (qaN d d) = true := by rw [qfr F F rfl rfl, qe4]
  have L : qan d d = true := qe4 d; have M : qiB (qaN d j) = qan d j := qfr F I (q.w.trans E.w.symm) (q.h.trans E.h.symm); refine yK 21 (zs h 7 fun u h => ?_); refine q9 <| yK 22 (zs h 8 fun u h => ?_); refine q9 <| yK 23 (zs h 9 fun u h => ?_); refine q9 <| yDe (nS ?_); refine ysr <| yp 4 [] (.l (h.c 7 0) (.l (h.c 8 0) .z)) <| yo (yQ (h.look ((h.grid 4).elim fun _ hA => (h.grid 5).elim fun _ hB => qfl hA hB)) fun u h => ?_); refine yq 6 <| yw [41] (rY (grB d.g j.g)) (fun Q => ?_) fun Q => ?_
  ·have R := Q; refine yp 13 [] (.l (h.c 7 1) (.l (h.c 8 1) .z)) <| yw [48] (rE d.x j.x) (fun S => ?_) fun S => ?_
   ·have aj := S; refine yp 20 [] (.l (h.c 7 2) (.l (h.c 8 2) .z)) <| yw [55] (rE d.y j.y) (fun T => ?_) fun T => ?_
    ·have aZ := T; refine yp 27 [] (.l (h.c 7 3) (.l (h.c 8 3) .z)) <| ye <| ysr <| yp 2 [] (.a (h.cs 7 0 4) (.a (h.cs 9 0 4) .z)) <| yo (yQ (h.look ((h.grid 4).elim fun _ hA => (h.grid 6).elim fun _ hB => qaR (A := d) (B := d) _ (qq h.ch hT (fun _ h => h.elim)) hA hB (q.w.trans q.w.symm) (q.h.trans q.h.symm) (by have := q.x; have := q.w; omega) (by have := q.y; have := q.h; omega) (qbH q.ok))) fun u h => ?_); refine yq 5 <| yw [66] (rY (((qaN d d)).toList == (ByteArray.empty).toList)) (fun U => ?_) fun U => ?_
     ·have b0 := U; refine yp 7 [] (.a (h.cs 7 0 4) (.a (h.cs 9 0 4) .z)) <| yo (yQ (h.look ((h.grid 4).elim fun _ hA => (h.grid 6).elim fun _ hB => qai (A := d) (B := d) _ hA hB)) fun u h => ?_); refine yq 10 <| yw [71] (rY (qan d d)) (fun W => ?_) fun W => ?_
      ·have b1 := W; refine yp 12 [] (.a (h.cs 7 0 4) (.a (h.cs 8 0 4) .z)) <| yo (yQ (h.look ((h.grid 4).elim fun _ hA => (h.grid 5).elim fun _ hB => qai (A := d) (B := j) _ hA hB)) fun u h => ?_); refine yq 17 <| yw [78] (rY ((qan d j) == (d.hid == j.hid))) (fun X => ?_) fun X => ?_
       ·have b2 := X; refine yp 19 [] (.a (h.cs 7 0 4) (.a (h.cs 8 0 4) .z)) <| yo (yQ (h.look ((h.grid 4).elim fun _ hA => (h.grid 5).elim fun _ hB => qaR (A := d) (B := j) _ (qq h.ch hT (fun _ h => h.elim)) hA hB (q.w.trans E.w.symm) (q.h.trans E.h.symm) (by have := E.x; have := E.w; omega) (by have := E.y; have := E.h; omega) (qbH E.ok))) fun u h => ?_); refine yz 25 <| q8 (yR1 (.bool ((((qaN d j)).toList == (ByteArray.empty).toList) == (d.hid == j.hid))) ?_); refine ⟨zc ?_, h.ch⟩; rw [show ((qaN d j).toList == (ByteArray.empty).toList) = qan d j from M]; exact b2
       have b3 := X; refine yz 25 <| q8 (yR1 (.bool false) ?_); refine ⟨zc ?_, h.ch⟩; exfalso; simp [qan, R, aj, aZ, b0, b1] at b3
      have b4 := W; exact Bool.noConfusion (L.symm.trans b4)
     have b5 := U; exact Bool.noConfusion (K.symm.trans b5)
    have b6 := T; refine yz 27 <| ysr <| yp 2 [] (.a (h.cs 7 0 4) (.a (h.cs 9 0 4) .z)) <| yo (yQ (h.look ((h.grid 4).elim fun _ hA => (h.grid 6).elim fun _ hB => qaR (A := d) (B := d) _ (qq h.ch hT (fun _ h => h.elim)) hA hB (q.w.trans q.w.symm) (q.h.trans q.h.symm) (by have := q.x; have := q.w; omega) (by have := q.y; have := q.h; omega) (qbH q.ok))) fun u h => ?_); refine yq 5 <| yw [66] (rY (((qaN d d)).toList == (ByteArray.empty).toList)) (fun Y => ?_) fun Y => ?_
    ·have b7 := Y; refine yp 7 [] (.a (h.cs 7 0 4) (.a (h.cs 9 0 4) .z)) <| yo (yQ (h.look ((h.grid 4).elim fun _ hA => (h.grid 6).elim fun _ hB => qai (A := d) (B := d) _ hA hB)) fun u h => ?_); refine yq 10 <| yw [71] (rY (qan d d)) (fun Z => ?_) fun Z => ?_
     ·have b8 := Z; refine yp 12 [] (.a (h.cs 7 0 4) (.a (h.cs 8 0 4) .z)) <| yo (yQ (h.look ((h.grid 4).elim fun _ hA => (h.grid 5).elim fun _ hB => qai (A := d) (B := j) _ hA hB)) fun u h => ?_); refine yq 17 <| yw [78] (rY ((qan d j) == false)) (fun a0 => ?_) fun a0 => ?_
      ·have b9 := a0; refine yp 19 [] (.a (h.cs 7 0 4) (.a (h.cs 8 0 4) .z)) <| yo (yQ (h.look ((h.grid 4).elim fun _ hA => (h.grid 5).elim fun _ hB => qaR (A := d) (B := j) _ (qq h.ch hT (fun _ h => h.elim)) hA hB (q.w.trans E.w.symm) (q.h.trans E.h.symm) (by have := E.x; have := E.w; omega) (by have := E.y; have := E.h; omega) (qbH E.ok))) fun u h => ?_); refine yz 25 <| q8 (yR1 (.bool ((((qaN d j)).toList == (ByteArray.empty).toList) == false)) ?_); refine ⟨zc ?_, h.ch⟩; rw [show ((qaN d j).toList == (ByteArray.empty).toList) = qan d j from M]; exact b9
      have ba := a0; refine yz 25 <| q8 (yR1 (.bool false) ?_); refine ⟨zc ?_, h.ch⟩; exfalso; simp [qan, R, aj, b6, b7, b8] at ba
     have bb := Z; exact Bool.noConfusion (L.symm.trans bb)
    have bc := Y; exact Bool.noConfusion (K.symm.trans bc)
   have bd := S; refine yz 27 <| ysr <| yp 2 [] (.a (h.cs 7 0 4) (.a (h.cs 9 0 4) .z)) <| yo (yQ (h.look ((h.grid 4).elim fun _ hA => (h.grid 6).elim fun _ hB => qaR (A := d) (B := d) _ (qq h.ch hT (fun _ h => h.elim)) hA hB (q.w.trans q.w.symm) (q.h.trans q.h.symm) (by have := q.x; have := q.w; omega) (by have := q.y; have := q.h; omega) (qbH q.ok))) fun u h => ?_); refine yq 5 <| yw [66] (rY (((qaN d d)).toList == (ByteArray.empty).toList)) (fun a3 => ?_) fun a3 => ?_
   ·have bf := a3; refine yp 7 [] (.a (h.cs 7 0 4) (.a (h.cs 9 0 4) .z)) <| yo (yQ (h.look ((h.grid 4).elim fun _ hA => (h.grid 6).elim fun _ hB => qai (A := d) (B := d) _ hA hB)) fun u h => ?_); refine yq 10 <| yw [71] (rY (qan d d)) (fun a4 => ?_) fun a4 => ?_
    ·have bg := a4; refine yp 12 [] (.a (h.cs 7 0 4) (.a (h.cs 8 0 4) .z)) <| yo (yQ (h.look ((h.grid 4).elim fun _ hA => (h.grid 5).elim fun _ hB => qai (A := d) (B := j) _ hA hB)) fun u h => ?_); refine yq 17 <| yw [78] (rY ((qan d j) == false)) (fun a5 => ?_) fun a5 => ?_
     ·have bh := a5; refine yp 19 [] (.a (h.cs 7 0 4) (.a (h.cs 8 0 4) .z)) <| yo (yQ (h.look ((h.grid 4).elim fun _ hA => (h.grid 5).elim fun _ hB => qaR (A := d) (B := j) _ (qq h.ch hT (fun _ h => h.elim)) hA hB (q.w.trans E.w.symm) (q.h.trans E.h.symm) (by have := E.x; have := E.w; omega) (by have := E.y; have := E.h; omega) (qbH E.ok))) fun u h => ?_); refine yz 25 <| q8 (yR1 (.bool ((((qaN d j)).toList == (ByteArray.empty).toList) == false)) ?_); refine ⟨zc ?_, h.ch⟩; rw [show ((qaN d j).toList == (ByteArray.empty).toList) = qan d j from M]; exact bh
     have bi := a5; refine yz 25 <| q8 (yR1 (.bool false) ?_); refine ⟨zc ?_, h.ch⟩; exfalso; simp [qan, R, bd, bf, bg] at bi
    have bj := a4; exact Bool.noConfusion (L.symm.trans bj)
   have bk := a3; exact Bool.noConfusion (K.symm.trans bk)
  have bl := Q; refine yz 27 <| ysr <| yp 2 [] (.a (h.cs 7 0 4) (.a (h.cs 9 0 4) .z)) <| yo (yQ (h.look ((h.grid 4).elim fun _ hA => (h.grid 6).elim fun _ hB => qaR (A := d) (B := d) _ (qq h.ch hT (fun _ h => h.elim)) hA hB (q.w.trans q.w.symm) (q.h.trans q.h.symm) (by have := q.x; have := q.w; omega) (by have := q.y; have := q.h; omega) (qbH q.ok))) fun u h => ?_); refine yq 5 <| yw [66] (rY (((qaN d d)).toList == (ByteArray.empty).toList)) (fun a6 => ?_) fun a6 => ?_
  ·have bm := a6; refine yp 7 [] (.a (h.cs 7 0 4) (.a (h.cs 9 0 4) .z)) <| yo (yQ (h.look ((h.grid 4).elim fun _ hA => (h.grid 6).elim fun _ hB => qai (A := d) (B := d) _ hA hB)) fun u h => ?_); refine yq 10 <| yw [71] (rY (qan d d)) (fun a7 => ?_) fun a7 => ?_
   ·have bn := a7; refine yp 12 [] (.a (h.cs 7 0 4) (.a (h.cs 8 0 4) .z)) <| yo (yQ (h.look ((h.grid 4).elim fun _ hA => (h.grid 5).elim fun _ hB => qai (A := d) (B := j) _ hA hB)) fun u h => ?_); refine yq 17 <| yw [78] (rY ((qan d j) == false)) (fun a8 => ?_) fun a8 => ?_
    ·have bo := a8; refine yp 19 [] (.a (h.cs 7 0 4) (.a (h.cs 8 0 4) .z)) <| yo (yQ (h.look ((h.grid 4).elim fun _ hA => (h.grid 5).elim fun _ hB => qaR (A := d) (B := j) _ (qq h.ch hT (fun _ h => h.elim)) hA hB (q.w.trans E.w.symm) (q.h.trans E.h.symm) (by have := E.x; have := E.w; omega) (by have := E.y; have := E.h; omega) (qbH E.ok))) fun u h => ?_); refine yz 25 <| q8 (yR1 (.bool ((((qaN d j)).toList == (ByteArray.empty).toList) == false)) ?_); refine ⟨zc ?_, h.ch⟩; rw [show ((qaN d j).toList == (ByteArray.empty).toList) = qan d j from M]; exact bo
    have bp := a8; refine yz 25 <| q8 (yR1 (.bool false) ?_); refine ⟨zc ?_, h.ch⟩; exfalso; simp [qan, bl, bm, bn] at bp
   have bq := a7; exact Bool.noConfusion (L.symm.trans bq)
  have br := a6; exact Bool.noConfusion (K.symm.trans br)
 have a9 : ∀ (u : World) (f m r n o : Nat), Sep w (fun _ => False) u [qg t [iX p1, iX p2] 22, qg v [.slice a1 n1 c1, iX x1, iX y1, .bool h1] 51, qg C [.slice a2 n2 c2, iX x2, iX y2, .bool h2] 51, qg s [.slice a1 n1 c1, iX x1, iX y1, .bool h1, .slice a2 n2 c2, iX x2, iX y2, .bool h2] 51, qE f d.g, qE m j.g, qE r d.g, qg n [.pointer none, iX 0, iX 0, .bool false] 30, qg o [.pointer none, iX 0, iX 0, .bool false] 30, qQ] → D [0, 1, 2, 3, 4, 6, 7, 8, 9, 10, 12, 13, 14, 15, 16, 5, 11, 17, 18, 19] [(7, pX n), (8, pX o), (23, .agg #[pX f, iX d.x, iX d.y, .bool d.hid]), (29, .agg #[pX m, iX j.x, iX j.y, .bool j.hid]), (35, .agg #[pX r, iX d.x, iX d.y, .bool d.hid])] u := by
  intro u f m r n o h; rw [k]; refine qP [20] (by kernel_rfl) (by decide) rfl ⟨?_, trivial⟩; refine qi 20 _ (by kernel_rfl) rfl (zN [.pointer none, iX 0, iX 0, .bool false] 30 h fun u bs h => ?_); refine zHk h ?_; exact WDm k [7, 8, 9, 23, 29, 35] (J _ f m r n o bs (h.ord [0, 1, 2, 3, 4, 5, 6, 7, 8, 10]))
 have aa : ∀ (u : World) (f m r n p : Nat), Sep w (fun _ => False) u [qg t [iX p1, iX p2] 22, qg v [.slice a1 n1 c1, iX x1, iX y1, .bool h1] 51, qg C [.slice a2 n2 c2, iX x2, iX y2, .bool h2] 51, qg s [.slice a1 n1 c1, iX x1, iX y1, .bool h1, .slice a2 n2 c2, iX x2, iX y2, .bool h2] 51, qE f d.g, qE m j.g, qE r d.g, qg n [.pointer none, iX 0, iX 0, .bool false] 30, qQ, qg p [.pointer none, iX 0, iX 0, .bool false] 30] → D [0, 1, 2, 3, 4, 6, 7, 8, 9, 10, 12, 13, 14, 15, 16, 5, 11, 17, 18, 20] [(7, pX n), (9, pX p), (23, .agg #[pX f, iX d.x, iX d.y, .bool d.hid]), (29, .agg #[pX m, iX j.x, iX j.y, .bool j.hid]), (35, .agg #[pX r, iX d.x, iX d.y, .bool d.hid])] u := by
  intro u f m r n p h; rw [k]; refine qP [19] (by kernel_rfl) (by decide) rfl ⟨?_, trivial⟩; refine qi 19 _ (by kernel_rfl) rfl (zN [.pointer none, iX 0, iX 0, .bool false] 30 h fun u bt h => ?_); refine zHk h ?_; exact WDm k [7, 8, 9, 23, 29, 35] (J _ f m r n bt p (h.ord [0, 1, 2, 3, 4, 5, 6, 7, 10, 9]))
 have ab : ∀ (u : World) (f m r o p : Nat), Sep w (fun _ => False) u [qg t [iX p1, iX p2] 22, qg v [.slice a1 n1 c1, iX x1, iX y1, .bool h1] 51, qg C [.slice a2 n2 c2, iX x2, iX y2, .bool h2] 51, qg s [.slice a1 n1 c1, iX x1, iX y1, .bool h1, .slice a2 n2 c2, iX x2, iX y2, .bool h2] 51, qE f d.g, qE m j.g, qE r d.g, qQ, qg o [.pointer none, iX 0, iX 0, .bool false] 30, qg p [.pointer none, iX 0, iX 0, .bool false] 30] → D [0, 1, 2, 3, 4, 6, 7, 8, 9, 10, 12, 13, 14, 15, 16, 5, 11, 17, 19, 20] [(8, pX o), (9, pX p), (23, .agg #[pX f, iX d.x, iX d.y, .bool d.hid]), (29, .agg #[pX m, iX j.x, iX j.y, .bool j.hid]), (35, .agg #[pX r, iX d.x, iX d.y, .bool d.hid])] u := by
  intro u f m r o p h; rw [k]; refine qP [18] (by kernel_rfl) (by decide) rfl ⟨?_, trivial⟩; refine qi 18 _ (by kernel_rfl) rfl (zN [.pointer none, iX 0, iX 0, .bool false] 30 h fun u bu h => ?_); refine zHk h ?_; exact WDm k [7, 8, 9, 23, 29, 35] (J _ f m r bu o p (h.ord [0, 1, 2, 3, 4, 5, 6, 10, 8, 9]))
 have N : ∀ (u : World) (f m n o p : Nat), Sep w (fun _ => False) u [qg t [iX p1, iX p2] 22, qg v [.slice a1 n1 c1, iX x1, iX y1, .bool h1] 51, qg C [.slice a2 n2 c2, iX x2, iX y2, .bool h2] 51, qg s [.slice a1 n1 c1, iX x1, iX y1, .bool h1, .slice a2 n2 c2, iX x2, iX y2, .bool h2] 51, qE f d.g, qE m j.g, qQ, qg n [.pointer none, iX 0, iX 0, .bool false] 30, qg o [.pointer none, iX 0, iX 0, .bool false] 30, qg p [.pointer none, iX 0, iX 0, .bool false] 30] → D [0, 1, 2, 3, 4, 6, 7, 8, 9, 10, 12, 13, 14, 15, 16, 5, 11, 18, 19, 20] [(7, pX n), (8, pX o), (9, pX p), (23, .agg #[pX f, iX d.x, iX d.y, .bool d.hid]), (29, .agg #[pX m, iX j.x, iX j.y, .bool j.hid]), (31, iX p1), (33, iX p2), (34, .agg #[.slice a1 n1 c1, iX x1, iX y1, .bool h1])] u := by
  intro u f m n o p h; rw [k]; refine qP [17] (by kernel_rfl) (by decide) rfl ⟨?_, trivial⟩; refine qa9 17 _ (by kernel_rfl) rfl (yC (qC (p1) (p2) a1 n1 c1 l1 x1 y1 h1 _ (qq h.ch hT (fun _ h => h.elim)) (Nat.le_trans h7 h.ch.size) ha1 (hr1.ch h.ch iZ) hn1 (by omega) d G) ?_); rintro _ u ⟨bv, dD, rfl, ak, bw, bx⟩; refine ⟨_, rfl, ?_⟩; have F := ak.ok; have h := h.newGrid ak bw bx; refine zKk (is := [0, 1, 2, 3]) (l := [qg t [iX p1, iX p2] 22, qg v [.slice a1 n1 c1, iX x1, iX y1, .bool h1] 51, qg C [.slice a2 n2 c2, iX x2, iX y2, .bool h2] 51, qg s [.slice a1 n1 c1, iX x1, iX y1, .bool h1, .slice a2 n2 c2, iX x2, iX y2, .bool h2] 51]) h ?_; exact WDm k [7, 8, 9, 23, 29, 35] (J _ f m bv n o p (h.ord [0, 1, 2, 3, 4, 5, 10, 7, 8, 9]))
 have al : ∀ (u : World) (f m r n : Nat), Sep w (fun _ => False) u [qg t [iX p1, iX p2] 22, qg v [.slice a1 n1 c1, iX x1, iX y1, .bool h1] 51, qg C [.slice a2 n2 c2, iX x2, iX y2, .bool h2] 51, qg s [.slice a1 n1 c1, iX x1, iX y1, .bool h1, .slice a2 n2 c2, iX x2, iX y2, .bool h2] 51, qE f d.g, qE m j.g, qE r d.g, qg n [.pointer none, iX 0, iX 0, .bool false] 30, qQ, qQ] → D [0, 1, 2, 3, 4, 6, 7, 8, 9, 10, 12, 13, 14, 15, 16, 5, 11, 17, 18] [(7, pX n), (23, .agg #[pX f, iX d.x, iX d.y, .bool d.hid]), (29, .agg #[pX m, iX j.x, iX j.y, .bool j.hid]), (35, .agg #[pX r, iX d.x, iX d.y, .bool d.hid])] u := by
  intro u f m r n h; rw [k]; refine qP [19, 20] (by kernel_rfl) (by decide) rfl ⟨?_, ?_, trivial⟩
  ·refine qi 19 _ (by kernel_rfl) rfl (zN [.pointer none, iX 0, iX 0, .bool false] 30 h fun u bz h => ?_); refine zHk h ?_; exact WDm k [7, 8, 23, 29, 35] (a9 _ f m r n bz (h.ord [0, 1, 2, 3, 4, 5, 6, 7, 10, 9]))
  refine qi 20 _ (by kernel_rfl) rfl (zN [.pointer none, iX 0, iX 0, .bool false] 30 h fun u bA h => ?_); refine zHk h ?_; exact WDm k [7, 9, 23, 29, 35] (aa _ f m r n bA (h.ord [0, 1, 2, 3, 4, 5, 6, 7, 8, 10]))
 have am : ∀ (u : World) (f m r o : Nat), Sep w (fun _ => False) u [qg t [iX p1, iX p2] 22, qg v [.slice a1 n1 c1, iX x1, iX y1, .bool h1] 51, qg C [.slice a2 n2 c2, iX x2, iX y2, .bool h2] 51, qg s [.slice a1 n1 c1, iX x1, iX y1, .bool h1, .slice a2 n2 c2, iX x2, iX y2, .bool h2] 51, qE f d.g, qE m j.g, qE r d.g, qQ, qg o [.pointer none, iX 0, iX 0, .bool false] 30, qQ] → D [0, 1, 2, 3, 4, 6, 7, 8, 9, 10, 12, 13, 14, 15, 16, 5, 11, 17, 19] [(8, pX o), (23, .agg #[pX f, iX d.x, iX d.y, .bool d.hid]), (29, .agg #[pX m, iX j.x, iX j.y, .bool j.hid]), (35, .agg #[pX r, iX d.x, iX d.y, .bool d.hid])] u := by
  intro u f m r o h; rw [k]; refine qP [18, 20] (by kernel_rfl) (by decide) rfl ⟨?_, ?_, trivial⟩
  ·refine qi 18 _ (by kernel_rfl) rfl (zN [.pointer none, iX 0, iX 0, .bool false] 30 h fun u bB h => ?_); refine zHk h ?_; exact WDm k [7, 8, 23, 29, 35] (a9 _ f m r bB o (h.ord [0, 1, 2, 3, 4, 5, 6, 10, 8, 9]))
  refine qi 20 _ (by kernel_rfl) rfl (zN [.pointer none, iX 0, iX 0, .bool false] 30 h fun u bC h => ?_); refine zHk h ?_; exact WDm k [8, 9, 23, 29, 35] (ab _ f m r o bC (h.ord [0, 1, 2, 3, 4, 5, 6, 7, 8, 10]))
 have an : ∀ (u : World) (f m r p : Nat), Sep w (fun _ => False) u [qg t [iX p1, iX p2] 22, qg v [.slice a1 n1 c1, iX x1, iX y1, .bool h1] 51, qg C [.slice a2 n2 c2, iX x2, iX y2, .bool h2] 51, qg s [.slice a1 n1 c1, iX x1, iX y1, .bool h1, .slice a2 n2 c2, iX x2, iX y2, .bool h2] 51, qE f d.g, qE m j.g, qE r d.g, qQ, qQ, qg p [.pointer none, iX 0, iX 0, .bool false] 30] → D [0, 1, 2, 3, 4, 6, 7, 8, 9, 10, 12, 13, 14, 15, 16, 5, 11, 17, 20] [(9, pX p), (23, .agg #[pX f, iX d.x, iX d.y, .bool d.hid]), (29, .agg #[pX m, iX j.x, iX j.y, .bool j.hid]), (35, .agg #[pX r, iX d.x, iX d.y, .bool d.hid])] u := by
  intro u f m r p h; rw [k]; refine qP [18, 19] (by kernel_rfl) (by decide) rfl ⟨?_, ?_, trivial⟩
  ·refine qi 18 _ (by kernel_rfl) rfl (zN [.pointer none, iX 0, iX 0, .bool false] 30 h fun u bD h => ?_); refine zHk h ?_; exact WDm k [7, 9, 23, 29, 35] (aa _ f m r bD p (h.ord [0, 1, 2, 3, 4, 5, 6, 10, 8, 9]))
  refine qi 19 _ (by kernel_rfl) rfl (zN [.pointer none, iX 0, iX 0, .bool false] 30 h fun u bE h => ?_); refine zHk h ?_; exact WDm k [8, 9, 23, 29, 35] (ab _ f m r bE p (h.ord [0, 1, 2, 3, 4, 5, 6, 7, 10, 9]))
 have ac : ∀ (u : World) (f m n o : Nat), Sep w (fun _ => False) u [qg t [iX p1, iX p2] 22, qg v [.slice a1 n1 c1, iX x1, iX y1, .bool h1] 51, qg C [.slice a2 n2 c2, iX x2, iX y2, .bool h2] 51, qg s [.slice a1 n1 c1, iX x1, iX y1, .bool h1, .slice a2 n2 c2, iX x2, iX y2, .bool h2] 51, qE f d.g, qE m j.g, qQ, qg n [.pointer none, iX 0, iX 0, .bool false] 30, qg o [.pointer none, iX 0, iX 0, .bool false] 30, qQ] → D [0, 1, 2, 3, 4, 6, 7, 8, 9, 10, 12, 13, 14, 15, 16, 5, 11, 18, 19] [(7, pX n), (8, pX o), (23, .agg #[pX f, iX d.x, iX d.y, .bool d.hid]), (29, .agg #[pX m, iX j.x, iX j.y, .bool j.hid]), (31, iX p1), (33, iX p2), (34, .agg #[.slice a1 n1 c1, iX x1, iX y1, .bool h1])] u := by
  intro u f m n o h; rw [k]; refine qP [17, 20] (by kernel_rfl) (by decide) rfl ⟨?_, ?_, trivial⟩
  ·refine qa9 17 _ (by kernel_rfl) rfl (yC (qC (p1) (p2) a1 n1 c1 l1 x1 y1 h1 _ (qq h.ch hT (fun _ h => h.elim)) (Nat.le_trans h7 h.ch.size) ha1 (hr1.ch h.ch iZ) hn1 (by omega) d G) ?_); rintro _ u ⟨bF, dE, rfl, ao, bG, bH⟩; refine ⟨_, rfl, ?_⟩; have F := ao.ok; have h := h.newGrid ao bG bH; refine zKk (is := [0, 1, 2, 3]) (l := [qg t [iX p1, iX p2] 22, qg v [.slice a1 n1 c1, iX x1, iX y1, .bool h1] 51, qg C [.slice a2 n2 c2, iX x2, iX y2, .bool h2] 51, qg s [.slice a1 n1 c1, iX x1, iX y1, .bool h1, .slice a2 n2 c2, iX x2, iX y2, .bool h2] 51]) h ?_; exact WDm k [7, 8, 23, 29, 35] (a9 _ f m bF n o (h.ord [0, 1, 2, 3, 4, 5, 10, 7, 8, 9]))
  refine qi 20 _ (by kernel_rfl) rfl (zN [.pointer none, iX 0, iX 0, .bool false] 30 h fun u bI h => ?_); refine zHk h ?_; exact WDm k [7, 8, 9, 23, 29, 31, 33, 34] (N _ f m n o bI (h.ord [0, 1, 2, 3, 4, 5, 6, 7, 8, 10]))
 have ad : ∀ (u : World) (f m n p : Nat), Sep w (fun _ => False) u [qg t [iX p1, iX p2] 22, qg v [.slice a1 n1 c1, iX x1, iX y1, .bool h1] 51, qg C [.slice a2 n2 c2, iX x2, iX y2, .bool h2] 51, qg s [.slice a1 n1 c1, iX x1, iX y1, .bool h1, .slice a2 n2 c2, iX x2, iX y2, .bool h2] 51, qE f d.g, qE m j.g, qQ, qg n [.pointer none, iX 0, iX 0, .bool false] 30, qQ, qg p [.pointer none, iX 0, iX 0, .bool false] 30] → D [0, 1, 2, 3, 4, 6, 7, 8, 9, 10, 12, 13, 14, 15, 16, 5, 11, 18, 20] [(7, pX n), (9, pX p), (23, .agg #[pX f, iX d.x, iX d.y, .bool d.hid]), (29, .agg #[pX m, iX j.x, iX j.y, .bool j.hid]), (31, iX p1), (33, iX p2), (34, .agg #[.slice a1 n1 c1, iX x1, iX y1, .bool h1])] u := by
  intro u f m n p h; rw [k]; refine qP [17, 19] (by kernel_rfl) (by decide) rfl ⟨?_, ?_, trivial⟩
  ·refine qa9 17 _ (by kernel_rfl) rfl (yC (qC (p1) (p2) a1 n1 c1 l1 x1 y1 h1 _ (qq h.ch hT (fun _ h => h.elim)) (Nat.le_trans h7 h.ch.size) ha1 (hr1.ch h.ch iZ) hn1 (by omega) d G) ?_); rintro _ u ⟨bJ, dF, rfl, ap, bK, bL⟩; refine ⟨_, rfl, ?_⟩; have F := ap.ok; have h := h.newGrid ap bK bL; refine zKk (is := [0, 1, 2, 3]) (l := [qg t [iX p1, iX p2] 22, qg v [.slice a1 n1 c1, iX x1, iX y1, .bool h1] 51, qg C [.slice a2 n2 c2, iX x2, iX y2, .bool h2] 51, qg s [.slice a1 n1 c1, iX x1, iX y1, .bool h1, .slice a2 n2 c2, iX x2, iX y2, .bool h2] 51]) h ?_; exact WDm k [7, 9, 23, 29, 35] (aa _ f m bJ n p (h.ord [0, 1, 2, 3, 4, 5, 10, 7, 8, 9]))
  refine qi 19 _ (by kernel_rfl) rfl (zN [.pointer none, iX 0, iX 0, .bool false] 30 h fun u bM h => ?_); refine zHk h ?_; exact WDm k [7, 8, 9, 23, 29, 31, 33, 34] (N _ f m n bM p (h.ord [0, 1, 2, 3, 4, 5, 6, 7, 10, 9]))
 have ae : ∀ (u : World) (f m o p : Nat), Sep w (fun _ => False) u [qg t [iX p1, iX p2] 22, qg v [.slice a1 n1 c1, iX x1, iX y1, .bool h1] 51, qg C [.slice a2 n2 c2, iX x2, iX y2, .bool h2] 51, qg s [.slice a1 n1 c1, iX x1, iX y1, .bool h1, .slice a2 n2 c2, iX x2, iX y2, .bool h2] 51, qE f d.g, qE m j.g, qQ, qQ, qg o [.pointer none, iX 0, iX 0, .bool false] 30, qg p [.pointer none, iX 0, iX 0, .bool false] 30] → D [0, 1, 2, 3, 4, 6, 7, 8, 9, 10, 12, 13, 14, 15, 16, 5, 11, 19, 20] [(8, pX o), (9, pX p), (23, .agg #[pX f, iX d.x, iX d.y, .bool d.hid]), (29, .agg #[pX m, iX j.x, iX j.y, .bool j.hid]), (31, iX p1), (33, iX p2), (34, .agg #[.slice a1 n1 c1, iX x1, iX y1, .bool h1])] u := by
  intro u f m o p h; rw [k]; refine qP [17, 18] (by kernel_rfl) (by decide) rfl ⟨?_, ?_, trivial⟩
  ·refine qa9 17 _ (by kernel_rfl) rfl (yC (qC (p1) (p2) a1 n1 c1 l1 x1 y1 h1 _ (qq h.ch hT (fun _ h => h.elim)) (Nat.le_trans h7 h.ch.size) ha1 (hr1.ch h.ch iZ) hn1 (by omega) d G) ?_); rintro _ u ⟨bN, dG, rfl, aq, bO, bP⟩; refine ⟨_, rfl, ?_⟩; have F := aq.ok; have h := h.newGrid aq bO bP; refine zKk (is := [0, 1, 2, 3]) (l := [qg t [iX p1, iX p2] 22, qg v [.slice a1 n1 c1, iX x1, iX y1, .bool h1] 51, qg C [.slice a2 n2 c2, iX x2, iX y2, .bool h2] 51, qg s [.slice a1 n1 c1, iX x1, iX y1, .bool h1, .slice a2 n2 c2, iX x2, iX y2, .bool h2] 51]) h ?_; exact WDm k [8, 9, 23, 29, 35] (ab _ f m bN o p (h.ord [0, 1, 2, 3, 4, 5, 10, 7, 8, 9]))
  refine qi 18 _ (by kernel_rfl) rfl (zN [.pointer none, iX 0, iX 0, .bool false] 30 h fun u bQ h => ?_); refine zHk h ?_; exact WDm k [7, 8, 9, 23, 29, 31, 33, 34] (N _ f m bQ o p (h.ord [0, 1, 2, 3, 4, 5, 6, 10, 8, 9]))
 have O : ∀ (u : World) (f n o p : Nat), Sep w (fun _ => False) u [qg t [iX p1, iX p2] 22, qg v [.slice a1 n1 c1, iX x1, iX y1, .bool h1] 51, qg C [.slice a2 n2 c2, iX x2, iX y2, .bool h2] 51, qg s [.slice a1 n1 c1, iX x1, iX y1, .bool h1, .slice a2 n2 c2, iX x2, iX y2, .bool h2] 51, qE f d.g, qQ, qQ, qg n [.pointer none, iX 0, iX 0, .bool false] 30, qg o [.pointer none, iX 0, iX 0, .bool false] 30, qg p [.pointer none, iX 0, iX 0, .bool false] 30] → D [0, 1, 2, 3, 4, 6, 7, 8, 9, 10, 12, 13, 14, 15, 16, 5, 18, 19, 20] [(7, pX n), (8, pX o), (9, pX p), (23, .agg #[pX f, iX d.x, iX d.y, .bool d.hid]), (25, iX p1), (27, iX p2), (28, .agg #[.slice a2 n2 c2, iX x2, iX y2, .bool h2]), (31, iX p1), (33, iX p2), (34, .agg #[.slice a1 n1 c1, iX x1, iX y1, .bool h1])] u := by
  intro u f n o p h; rw [k]; refine qP [11] (by kernel_rfl) (by decide) rfl ⟨?_, trivial⟩; refine qi 11 _ (by kernel_rfl) rfl (yC (qC (p1) (p2) a2 n2 c2 l2 x2 y2 h2 _ (qq h.ch hT (fun _ h => h.elim)) (Nat.le_trans h7 h.ch.size) ha2 (hr2.ch h.ch iZ) hn2 (by omega) j H) ?_); rintro _ u ⟨bR, dH, rfl, ar, bS, bT⟩; refine ⟨_, rfl, ?_⟩; have I := ar.ok; have h := h.newGrid ar bS bT; refine zHk h ?_; exact WDm k [7, 8, 9, 23, 29, 31, 33, 34] (N _ f bR n o p (h.ord [0, 1, 2, 3, 4, 10, 6, 7, 8, 9]))
 have bU : ∀ (u : World) (f m r : Nat), Sep w (fun _ => False) u [qg t [iX p1, iX p2] 22, qg v [.slice a1 n1 c1, iX x1, iX y1, .bool h1] 51, qg C [.slice a2 n2 c2, iX x2, iX y2, .bool h2] 51, qg s [.slice a1 n1 c1, iX x1, iX y1, .bool h1, .slice a2 n2 c2, iX x2, iX y2, .bool h2] 51, qE f d.g, qE m j.g, qE r d.g, qQ, qQ, qQ] → D [0, 1, 2, 3, 4, 6, 7, 8, 9, 10, 12, 13, 14, 15, 16, 5, 11, 17] [(23, .agg #[pX f, iX d.x, iX d.y, .bool d.hid]), (29, .agg #[pX m, iX j.x, iX j.y, .bool j.hid]), (35, .agg #[pX r, iX d.x, iX d.y, .bool d.hid])] u := by
  intro u f m r h; rw [k]; refine qP [18, 19, 20] (by kernel_rfl) (by decide) rfl ⟨?_, ?_, ?_, trivial⟩
  ·refine qi 18 _ (by kernel_rfl) rfl (zN [.pointer none, iX 0, iX 0, .bool false] 30 h fun u bV h => ?_); refine zHk h ?_; exact WDm k [7, 23, 29, 35] (al _ f m r bV (h.ord [0, 1, 2, 3, 4, 5, 6, 10, 8, 9]))
  ·refine qi 19 _ (by kernel_rfl) rfl (zN [.pointer none, iX 0, iX 0, .bool false] 30 h fun u bW h => ?_); refine zHk h ?_; exact WDm k [8, 23, 29, 35] (am _ f m r bW (h.ord [0, 1, 2, 3, 4, 5, 6, 7, 10, 9]))
  refine qi 20 _ (by kernel_rfl) rfl (zN [.pointer none, iX 0, iX 0, .bool false] 30 h fun u bX h => ?_); refine zHk h ?_; exact WDm k [9, 23, 29, 35] (an _ f m r bX (h.ord [0, 1, 2, 3, 4, 5, 6, 7, 8, 10]))
 have au : ∀ (u : World) (f m n : Nat), Sep w (fun _ => False) u [qg t [iX p1, iX p2] 22, qg v [.slice a1 n1 c1, iX x1, iX y1, .bool h1] 51, qg C [.slice a2 n2 c2, iX x2, iX y2, .bool h2] 51, qg s [.slice a1 n1 c1, iX x1, iX y1, .bool h1, .slice a2 n2 c2, iX x2, iX y2, .bool h2] 51, qE f d.g, qE m j.g, qQ, qg n [.pointer none, iX 0, iX 0, .bool false] 30, qQ, qQ] → D [0, 1, 2, 3, 4, 6, 7, 8, 9, 10, 12, 13, 14, 15, 16, 5, 11, 18] [(7, pX n), (23, .agg #[pX f, iX d.x, iX d.y, .bool d.hid]), (29, .agg #[pX m, iX j.x, iX j.y, .bool j.hid]), (31, iX p1), (33, iX p2), (34, .agg #[.slice a1 n1 c1, iX x1, iX y1, .bool h1])] u := by
  intro u f m n h; rw [k]; refine qP [17, 19, 20] (by kernel_rfl) (by decide) rfl ⟨?_, ?_, ?_, trivial⟩
  ·refine qa9 17 _ (by kernel_rfl) rfl (yC (qC (p1) (p2) a1 n1 c1 l1 x1 y1 h1 _ (qq h.ch hT (fun _ h => h.elim)) (Nat.le_trans h7 h.ch.size) ha1 (hr1.ch h.ch iZ) hn1 (by omega) d G) ?_); rintro _ u ⟨bY, dI, rfl, av, bZ, c0⟩; refine ⟨_, rfl, ?_⟩; have F := av.ok; have h := h.newGrid av bZ c0; refine zKk (is := [0, 1, 2, 3]) (l := [qg t [iX p1, iX p2] 22, qg v [.slice a1 n1 c1, iX x1, iX y1, .bool h1] 51, qg C [.slice a2 n2 c2, iX x2, iX y2, .bool h2] 51, qg s [.slice a1 n1 c1, iX x1, iX y1, .bool h1, .slice a2 n2 c2, iX x2, iX y2, .bool h2] 51]) h ?_; exact WDm k [7, 23, 29, 35] (al _ f m bY n (h.ord [0, 1, 2, 3, 4, 5, 10, 7, 8, 9]))
  ·refine qi 19 _ (by kernel_rfl) rfl (zN [.pointer none, iX 0, iX 0, .bool false] 30 h fun u c3 h => ?_); refine zHk h ?_; exact WDm k [7, 8, 23, 29, 31, 33, 34] (ac _ f m n c3 (h.ord [0, 1, 2, 3, 4, 5, 6, 7, 10, 9]))
  refine qi 20 _ (by kernel_rfl) rfl (zN [.pointer none, iX 0, iX 0, .bool false] 30 h fun u c4 h => ?_); refine zHk h ?_; exact WDm k [7, 9, 23, 29, 31, 33, 34] (ad _ f m n c4 (h.ord [0, 1, 2, 3, 4, 5, 6, 7, 8, 10]))
 have aw : ∀ (u : World) (f m o : Nat), Sep w (fun _ => False) u [qg t [iX p1, iX p2] 22, qg v [.slice a1 n1 c1, iX x1, iX y1, .bool h1] 51, qg C [.slice a2 n2 c2, iX x2, iX y2, .bool h2] 51, qg s [.slice a1 n1 c1, iX x1, iX y1, .bool h1, .slice a2 n2 c2, iX x2, iX y2, .bool h2] 51, qE f d.g, qE m j.g, qQ, qQ, qg o [.pointer none, iX 0, iX 0, .bool false] 30, qQ] → D [0, 1, 2, 3, 4, 6, 7, 8, 9, 10, 12, 13, 14, 15, 16, 5, 11, 19] [(8, pX o), (23, .agg #[pX f, iX d.x, iX d.y, .bool d.hid]), (29, .agg #[pX m, iX j.x, iX j.y, .bool j.hid]), (31, iX p1), (33, iX p2), (34, .agg #[.slice a1 n1 c1, iX x1, iX y1, .bool h1])] u := by
  intro u f m o h; rw [k]; refine qP [17, 18, 20] (by kernel_rfl) (by decide) rfl ⟨?_, ?_, ?_, trivial⟩
  ·refine qa9 17 _ (by kernel_rfl) rfl (yC (qC (p1) (p2) a1 n1 c1 l1 x1 y1 h1 _ (qq h.ch hT (fun _ h => h.elim)) (Nat.le_trans h7 h.ch.size) ha1 (hr1.ch h.ch iZ) hn1 (by omega) d G) ?_); rintro _ u ⟨c5, dJ, rfl, ax, c6, c7⟩; refine ⟨_, rfl, ?_⟩; have F := ax.ok; have h := h.newGrid ax c6 c7; refine zKk (is := [0, 1, 2, 3]) (l := [qg t [iX p1, iX p2] 22, qg v [.slice a1 n1 c1, iX x1, iX y1, .bool h1] 51, qg C [.slice a2 n2 c2, iX x2, iX y2, .bool h2] 51, qg s [.slice a1 n1 c1, iX x1, iX y1, .bool h1, .slice a2 n2 c2, iX x2, iX y2, .bool h2] 51]) h ?_; exact WDm k [8, 23, 29, 35] (am _ f m c5 o (h.ord [0, 1, 2, 3, 4, 5, 10, 7, 8, 9]))
  ·refine qi 18 _ (by kernel_rfl) rfl (zN [.pointer none, iX 0, iX 0, .bool false] 30 h fun u c8 h => ?_); refine zHk h ?_; exact WDm k [7, 8, 23, 29, 31, 33, 34] (ac _ f m c8 o (h.ord [0, 1, 2, 3, 4, 5, 6, 10, 8, 9]))
  refine qi 20 _ (by kernel_rfl) rfl (zN [.pointer none, iX 0, iX 0, .bool false] 30 h fun u c9 h => ?_); refine zHk h ?_; exact WDm k [8, 9, 23, 29, 31, 33, 34] (ae _ f m o c9 (h.ord [0, 1, 2, 3, 4, 5, 6, 7, 8, 10]))
 have ay : ∀ (u : World) (f m p : Nat), Sep w (fun _ => False) u [qg t [iX p1, iX p2] 22, qg v [.slice a1 n1 c1, iX x1, iX y1, .bool h1] 51, qg C [.slice a2 n2 c2, iX x2, iX y2, .bool h2] 51, qg s [.slice a1 n1 c1, iX x1, iX y1, .bool h1, .slice a2 n2 c2, iX x2, iX y2, .bool h2] 51, qE f d.g, qE m j.g, qQ, qQ, qQ, qg p [.pointer none, iX 0, iX 0, .bool false] 30] → D [0, 1, 2, 3, 4, 6, 7, 8, 9, 10, 12, 13, 14, 15, 16, 5, 11, 20] [(9, pX p), (23, .agg #[pX f, iX d.x, iX d.y, .bool d.hid]), (29, .agg #[pX m, iX j.x, iX j.y, .bool j.hid]), (31, iX p1), (33, iX p2), (34, .agg #[.slice a1 n1 c1, iX x1, iX y1, .bool h1])] u := by
  intro u f m p h; rw [k]; refine qP [17, 18, 19] (by kernel_rfl) (by decide) rfl ⟨?_, ?_, ?_, trivial⟩
  ·refine qa9 17 _ (by kernel_rfl) rfl (yC (qC (p1) (p2) a1 n1 c1 l1 x1 y1 h1 _ (qq h.ch hT (fun _ h => h.elim)) (Nat.le_trans h7 h.ch.size) ha1 (hr1.ch h.ch iZ) hn1 (by omega) d G) ?_); rintro _ u ⟨ca, dK, rfl, az, cb, cc⟩; refine ⟨_, rfl, ?_⟩; have F := az.ok; have h := h.newGrid az cb cc; refine zKk (is := [0, 1, 2, 3]) (l := [qg t [iX p1, iX p2] 22, qg v [.slice a1 n1 c1, iX x1, iX y1, .bool h1] 51, qg C [.slice a2 n2 c2, iX x2, iX y2, .bool h2] 51, qg s [.slice a1 n1 c1, iX x1, iX y1, .bool h1, .slice a2 n2 c2, iX x2, iX y2, .bool h2] 51]) h ?_; exact WDm k [9, 23, 29, 35] (an _ f m ca p (h.ord [0, 1, 2, 3, 4, 5, 10, 7, 8, 9]))
  ·refine qi 18 _ (by kernel_rfl) rfl (zN [.pointer none, iX 0, iX 0, .bool false] 30 h fun u cd h => ?_); refine zHk h ?_; exact WDm k [7, 9, 23, 29, 31, 33, 34] (ad _ f m cd p (h.ord [0, 1, 2, 3, 4, 5, 6, 10, 8, 9]))
  refine qi 19 _ (by kernel_rfl) rfl (zN [.pointer none, iX 0, iX 0, .bool false] 30 h fun u ce h => ?_); refine zHk h ?_; exact WDm k [8, 9, 23, 29, 31, 33, 34] (ae _ f m ce p (h.ord [0, 1, 2, 3, 4, 5, 6, 7, 10, 9]))
 have af : ∀ (u : World) (f n o : Nat), Sep w (fun _ => False) u [qg t [iX p1, iX p2] 22, qg v [.slice a1 n1 c1, iX x1, iX y1, .bool h1] 51, qg C [.slice a2 n2 c2, iX x2, iX y2, .bool h2] 51, qg s [.slice a1 n1 c1, iX x1, iX y1, .bool h1, .slice a2 n2 c2, iX x2, iX y2, .bool h2] 51, qE f d.g, qQ, qQ, qg n [.pointer none, iX 0, iX 0, .bool false] 30, qg o [.pointer none, iX 0, iX 0, .bool false] 30, qQ] → D [0, 1, 2, 3, 4, 6, 7, 8, 9, 10, 12, 13, 14, 15, 16, 5, 18, 19] [(7, pX n), (8, pX o), (23, .agg #[pX f, iX d.x, iX d.y, .bool d.hid]), (25, iX p1), (27, iX p2), (28, .agg #[.slice a2 n2 c2, iX x2, iX y2, .bool h2]), (31, iX p1), (33, iX p2), (34, .agg #[.slice a1 n1 c1, iX x1, iX y1, .bool h1])] u := by
  intro u f n o h; rw [k]; refine qP [11, 20] (by kernel_rfl) (by decide) rfl ⟨?_, ?_, trivial⟩
  ·refine qi 11 _ (by kernel_rfl) rfl (yC (qC (p1) (p2) a2 n2 c2 l2 x2 y2 h2 _ (qq h.ch hT (fun _ h => h.elim)) (Nat.le_trans h7 h.ch.size) ha2 (hr2.ch h.ch iZ) hn2 (by omega) j H) ?_); rintro _ u ⟨cf, dL, rfl, aA, cg, ci⟩; refine ⟨_, rfl, ?_⟩; have I := aA.ok; have h := h.newGrid aA cg ci; refine zHk h ?_; exact WDm k [7, 8, 23, 29, 31, 33, 34] (ac _ f cf n o (h.ord [0, 1, 2, 3, 4, 10, 6, 7, 8, 9]))
  refine qi 20 _ (by kernel_rfl) rfl (zN [.pointer none, iX 0, iX 0, .bool false] 30 h fun u cj h => ?_); refine zHk h ?_; exact WDm k [7, 8, 9, 23, 25, 27, 28, 31, 33, 34] (O _ f n o cj (h.ord [0, 1, 2, 3, 4, 5, 6, 7, 8, 10]))
 have ag : ∀ (u : World) (f n p : Nat), Sep w (fun _ => False) u [qg t [iX p1, iX p2] 22, qg v [.slice a1 n1 c1, iX x1, iX y1, .bool h1] 51, qg C [.slice a2 n2 c2, iX x2, iX y2, .bool h2] 51, qg s [.slice a1 n1 c1, iX x1, iX y1, .bool h1, .slice a2 n2 c2, iX x2, iX y2, .bool h2] 51, qE f d.g, qQ, qQ, qg n [.pointer none, iX 0, iX 0, .bool false] 30, qQ, qg p [.pointer none, iX 0, iX 0, .bool false] 30] → D [0, 1, 2, 3, 4, 6, 7, 8, 9, 10, 12, 13, 14, 15, 16, 5, 18, 20] [(7, pX n), (9, pX p), (23, .agg #[pX f, iX d.x, iX d.y, .bool d.hid]), (25, iX p1), (27, iX p2), (28, .agg #[.slice a2 n2 c2, iX x2, iX y2, .bool h2]), (31, iX p1), (33, iX p2), (34, .agg #[.slice a1 n1 c1, iX x1, iX y1, .bool h1])] u := by
  intro u f n p h; rw [k]; refine qP [11, 19] (by kernel_rfl) (by decide) rfl ⟨?_, ?_, trivial⟩
  ·refine qi 11 _ (by kernel_rfl) rfl (yC (qC (p1) (p2) a2 n2 c2 l2 x2 y2 h2 _ (qq h.ch hT (fun _ h => h.elim)) (Nat.le_trans h7 h.ch.size) ha2 (hr2.ch h.ch iZ) hn2 (by omega) j H) ?_); rintro _ u ⟨ck, dM, rfl, aB, cl, cm⟩; refine ⟨_, rfl, ?_⟩; have I := aB.ok; have h := h.newGrid aB cl cm; refine zHk h ?_; exact WDm k [7, 9, 23, 29, 31, 33, 34] (ad _ f ck n p (h.ord [0, 1, 2, 3, 4, 10, 6, 7, 8, 9]))
  refine qi 19 _ (by kernel_rfl) rfl (zN [.pointer none, iX 0, iX 0, .bool false] 30 h fun u cn h => ?_); refine zHk h ?_; exact WDm k [7, 8, 9, 23, 25, 27, 28, 31, 33, 34] (O _ f n cn p (h.ord [0, 1, 2, 3, 4, 5, 6, 7, 10, 9]))
 have ah : ∀ (u : World) (f o p : Nat), Sep w (fun _ => False) u [qg t [iX p1, iX p2] 22, qg v [.slice a1 n1 c1, iX x1, iX y1, .bool h1] 51, qg C [.slice a2 n2 c2, iX x2, iX y2, .bool h2] 51, qg s [.slice a1 n1 c1, iX x1, iX y1, .bool h1, .slice a2 n2 c2, iX x2, iX y2, .bool h2] 51, qE f d.g, qQ, qQ, qQ, qg o [.pointer none, iX 0, iX 0, .bool false] 30, qg p [.pointer none, iX 0, iX 0, .bool false] 30] → D [0, 1, 2, 3, 4, 6, 7, 8, 9, 10, 12, 13, 14, 15, 16, 5, 19, 20] [(8, pX o), (9, pX p), (23, .agg #[pX f, iX d.x, iX d.y, .bool d.hid]), (25, iX p1), (27, iX p2), (28, .agg #[.slice a2 n2 c2, iX x2, iX y2, .bool h2]), (31, iX p1), (33, iX p2), (34, .agg #[.slice a1 n1 c1, iX x1, iX y1, .bool h1])] u := by
  intro u f o p h; rw [k]; refine qP [11, 18] (by kernel_rfl) (by decide) rfl ⟨?_, ?_, trivial⟩
  ·refine qi 11 _ (by kernel_rfl) rfl (yC (qC (p1) (p2) a2 n2 c2 l2 x2 y2 h2 _ (qq h.ch hT (fun _ h => h.elim)) (Nat.le_trans h7 h.ch.size) ha2 (hr2.ch h.ch iZ) hn2 (by omega) j H) ?_); rintro _ u ⟨co, dN, rfl, aC, cp, cq⟩; refine ⟨_, rfl, ?_⟩; have I := aC.ok; have h := h.newGrid aC cp cq; refine zHk h ?_; exact WDm k [8, 9, 23, 29, 31, 33, 34] (ae _ f co o p (h.ord [0, 1, 2, 3, 4, 10, 6, 7, 8, 9]))
  refine qi 18 _ (by kernel_rfl) rfl (zN [.pointer none, iX 0, iX 0, .bool false] 30 h fun u cr h => ?_); refine zHk h ?_; exact WDm k [7, 8, 9, 23, 25, 27, 28, 31, 33, 34] (O _ f cr o p (h.ord [0, 1, 2, 3, 4, 5, 6, 10, 8, 9]))
 have ai : ∀ (u : World) (n o p : Nat), Sep w (fun _ => False) u [qg t [iX p1, iX p2] 22, qg v [.slice a1 n1 c1, iX x1, iX y1, .bool h1] 51, qg C [.slice a2 n2 c2, iX x2, iX y2, .bool h2] 51, qg s [.slice a1 n1 c1, iX x1, iX y1, .bool h1, .slice a2 n2 c2, iX x2, iX y2, .bool h2] 51, qQ, qQ, qQ, qg n [.pointer none, iX 0, iX 0, .bool false] 30, qg o [.pointer none, iX 0, iX 0, .bool false] 30, qg p [.pointer none, iX 0, iX 0, .bool false] 30] → D [0, 1, 2, 3, 4, 6, 7, 8, 9, 10, 12, 13, 14, 15, 16, 18, 19, 20] [(7, pX n), (8, pX o), (9, pX p), (19, iX p1), (21, iX p2), (22, .agg #[.slice a1 n1 c1, iX x1, iX y1, .bool h1]), (25, iX p1), (27, iX p2), (28, .agg #[.slice a2 n2 c2, iX x2, iX y2, .bool h2]), (31, iX p1), (33, iX p2), (34, .agg #[.slice a1 n1 c1, iX x1, iX y1, .bool h1])] u := by
  intro u n o p h; rw [k]; refine qP [5] (by kernel_rfl) (by decide) rfl ⟨?_, trivial⟩; refine qi 5 _ (by kernel_rfl) rfl (yC (qC (p1) (p2) a1 n1 c1 l1 x1 y1 h1 _ (qq h.ch hT (fun _ h => h.elim)) (Nat.le_trans h7 h.ch.size) ha1 (hr1.ch h.ch iZ) hn1 (by omega) d G) ?_); rintro _ u ⟨ct, dO, rfl, aD, cu, cv⟩; refine ⟨_, rfl, ?_⟩; have F := aD.ok; have h := h.newGrid aD cu cv; refine zHk h ?_; exact WDm k [7, 8, 9, 23, 25, 27, 28, 31, 33, 34] (O _ ct n o p (h.ord [0, 1, 2, 3, 10, 5, 6, 7, 8, 9]))
 have cw : ∀ (u : World) (f m : Nat), Sep w (fun _ => False) u [qg t [iX p1, iX p2] 22, qg v [.slice a1 n1 c1, iX x1, iX y1, .bool h1] 51, qg C [.slice a2 n2 c2, iX x2, iX y2, .bool h2] 51, qg s [.slice a1 n1 c1, iX x1, iX y1, .bool h1, .slice a2 n2 c2, iX x2, iX y2, .bool h2] 51, qE f d.g, qE m j.g, qQ, qQ, qQ, qQ] → D [0, 1, 2, 3, 4, 6, 7, 8, 9, 10, 12, 13, 14, 15, 16, 5, 11] [(23, .agg #[pX f, iX d.x, iX d.y, .bool d.hid]), (29, .agg #[pX m, iX j.x, iX j.y, .bool j.hid]), (31, iX p1), (33, iX p2), (34, .agg #[.slice a1 n1 c1, iX x1, iX y1, .bool h1])] u := by
  intro u f m h; rw [k]; refine qP [17, 18, 19, 20] (by kernel_rfl) (by decide) rfl ⟨?_, ?_, ?_, ?_, trivial⟩
  ·refine qa9 17 _ (by kernel_rfl) rfl (yC (qC (p1) (p2) a1 n1 c1 l1 x1 y1 h1 _ (qq h.ch hT (fun _ h => h.elim)) (Nat.le_trans h7 h.ch.size) ha1 (hr1.ch h.ch iZ) hn1 (by omega) d G) ?_); rintro _ u ⟨cx, dP, rfl, aE, cy, cz⟩; refine ⟨_, rfl, ?_⟩; have F := aE.ok; have h := h.newGrid aE cy cz; refine zKk (is := [0, 1, 2, 3]) (l := [qg t [iX p1, iX p2] 22, qg v [.slice a1 n1 c1, iX x1, iX y1, .bool h1] 51, qg C [.slice a2 n2 c2, iX x2, iX y2, .bool h2] 51, qg s [.slice a1 n1 c1, iX x1, iX y1, .bool h1, .slice a2 n2 c2, iX x2, iX y2, .bool h2] 51]) h ?_; exact WDm k [23, 29, 35] (bU _ f m cx (h.ord [0, 1, 2, 3, 4, 5, 10, 7, 8, 9]))
  ·refine qi 18 _ (by kernel_rfl) rfl (zN [.pointer none, iX 0, iX 0, .bool false] 30 h fun u cA h => ?_); refine zHk h ?_; exact WDm k [7, 23, 29, 31, 33, 34] (au _ f m cA (h.ord [0, 1, 2, 3, 4, 5, 6, 10, 8, 9]))
  ·refine qi 19 _ (by kernel_rfl) rfl (zN [.pointer none, iX 0, iX 0, .bool false] 30 h fun u cB h => ?_); refine zHk h ?_; exact WDm k [8, 23, 29, 31, 33, 34] (aw _ f m cB (h.ord [0, 1, 2, 3, 4, 5, 6, 7, 10, 9]))
  refine qi 20 _ (by kernel_rfl) rfl (zN [.pointer none, iX 0, iX 0, .bool false] 30 h fun u cC h => ?_); refine zHk h ?_; exact WDm k [9, 23, 29, 31, 33, 34] (ay _ f m cC (h.ord [0, 1, 2, 3, 4, 5, 6, 7, 8, 10]))
 have aF : ∀ (u : World) (f n : Nat), Sep w (fun _ => False) u [qg t [iX p1, iX p2] 22, qg v [.slice a1 n1 c1, iX x1, iX y1, .bool h1] 51, qg C [.slice a2 n2 c2, iX x2, iX y2, .bool h2] 51, qg s [.slice a1 n1 c1, iX x1, iX y1, .bool h1, .slice a2 n2 c2, iX x2, iX y2, .bool h2] 51, qE f d.g, qQ, qQ, qg n [.pointer none, iX 0, iX 0, .bool false] 30, qQ, qQ] → D [0, 1, 2, 3, 4, 6, 7, 8, 9, 10, 12, 13, 14, 15, 16, 5, 18] [(7, pX n), (23, .agg #[pX f, iX d.x, iX d.y, .bool d.hid]), (25, iX p1), (27, iX p2), (28, .agg #[.slice a2 n2 c2, iX x2, iX y2, .bool h2]), (31, iX p1), (33, iX p2), (34, .agg #[.slice a1 n1 c1, iX x1, iX y1, .bool h1])] u := by
  intro u f n h; rw [k]; refine qP [11, 19, 20] (by kernel_rfl) (by decide) rfl ⟨?_, ?_, ?_, trivial⟩
  ·refine qi 11 _ (by kernel_rfl) rfl (yC (qC (p1) (p2) a2 n2 c2 l2 x2 y2 h2 _ (qq h.ch hT (fun _ h => h.elim)) (Nat.le_trans h7 h.ch.size) ha2 (hr2.ch h.ch iZ) hn2 (by omega) j H) ?_); rintro _ u ⟨cD, dQ, rfl, aG, cE, cF⟩; refine ⟨_, rfl, ?_⟩; have I := aG.ok; have h := h.newGrid aG cE cF; refine zHk h ?_; exact WDm k [7, 23, 29, 31, 33, 34] (au _ f cD n (h.ord [0, 1, 2, 3, 4, 10, 6, 7, 8, 9]))
  ·refine qi 19 _ (by kernel_rfl) rfl (zN [.pointer none, iX 0, iX 0, .bool false] 30 h fun u cG h => ?_); refine zHk h ?_; exact WDm k [7, 8, 23, 25, 27, 28, 31, 33, 34] (af _ f n cG (h.ord [0, 1, 2, 3, 4, 5, 6, 7, 10, 9]))
  refine qi 20 _ (by kernel_rfl) rfl (zN [.pointer none, iX 0, iX 0, .bool false] 30 h fun u cH h => ?_); refine zHk h ?_; exact WDm k [7, 9, 23, 25, 27, 28, 31, 33, 34] (ag _ f n cH (h.ord [0, 1, 2, 3, 4, 5, 6, 7, 8, 10]))
 have aH : ∀ (u : World) (f o : Nat), Sep w (fun _ => False) u [qg t [iX p1, iX p2] 22, qg v [.slice a1 n1 c1, iX x1, iX y1, .bool h1] 51, qg C [.slice a2 n2 c2, iX x2, iX y2, .bool h2] 51, qg s [.slice a1 n1 c1, iX x1, iX y1, .bool h1, .slice a2 n2 c2, iX x2, iX y2, .bool h2] 51, qE f d.g, qQ, qQ, qQ, qg o [.pointer none, iX 0, iX 0, .bool false] 30, qQ] → D [0, 1, 2, 3, 4, 6, 7, 8, 9, 10, 12, 13, 14, 15, 16, 5, 19] [(8, pX o), (23, .agg #[pX f, iX d.x, iX d.y, .bool d.hid]), (25, iX p1), (27, iX p2), (28, .agg #[.slice a2 n2 c2, iX x2, iX y2, .bool h2]), (31, iX p1), (33, iX p2), (34, .agg #[.slice a1 n1 c1, iX x1, iX y1, .bool h1])] u := by
  intro u f o h; rw [k]; refine qP [11, 18, 20] (by kernel_rfl) (by decide) rfl ⟨?_, ?_, ?_, trivial⟩
  ·refine qi 11 _ (by kernel_rfl) rfl (yC (qC (p1) (p2) a2 n2 c2 l2 x2 y2 h2 _ (qq h.ch hT (fun _ h => h.elim)) (Nat.le_trans h7 h.ch.size) ha2 (hr2.ch h.ch iZ) hn2 (by omega) j H) ?_); rintro _ u ⟨cI, dR, rfl, aI, cJ, cK⟩; refine ⟨_, rfl, ?_⟩; have I := aI.ok; have h := h.newGrid aI cJ cK; refine zHk h ?_; exact WDm k [8, 23, 29, 31, 33, 34] (aw _ f cI o (h.ord [0, 1, 2, 3, 4, 10, 6, 7, 8, 9]))
  ·refine qi 18 _ (by kernel_rfl) rfl (zN [.pointer none, iX 0, iX 0, .bool false] 30 h fun u cL h => ?_); refine zHk h ?_; exact WDm k [7, 8, 23, 25, 27, 28, 31, 33, 34] (af _ f cL o (h.ord [0, 1, 2, 3, 4, 5, 6, 10, 8, 9]))
  refine qi 20 _ (by kernel_rfl) rfl (zN [.pointer none, iX 0, iX 0, .bool false] 30 h fun u cM h => ?_); refine zHk h ?_; exact WDm k [8, 9, 23, 25, 27, 28, 31, 33, 34] (ah _ f o cM (h.ord [0, 1, 2, 3, 4, 5, 6, 7, 8, 10]))
 have aJ : ∀ (u : World) (f p : Nat), Sep w (fun _ => False) u [qg t [iX p1, iX p2] 22, qg v [.slice a1 n1 c1, iX x1, iX y1, .bool h1] 51, qg C [.slice a2 n2 c2, iX x2, iX y2, .bool h2] 51, qg s [.slice a1 n1 c1, iX x1, iX y1, .bool h1, .slice a2 n2 c2, iX x2, iX y2, .bool h2] 51, qE f d.g, qQ, qQ, qQ, qQ, qg p [.pointer none, iX 0, iX 0, .bool false] 30] → D [0, 1, 2, 3, 4, 6, 7, 8, 9, 10, 12, 13, 14, 15, 16, 5, 20] [(9, pX p), (23, .agg #[pX f, iX d.x, iX d.y, .bool d.hid]), (25, iX p1), (27, iX p2), (28, .agg #[.slice a2 n2 c2, iX x2, iX y2, .bool h2]), (31, iX p1), (33, iX p2), (34, .agg #[.slice a1 n1 c1, iX x1, iX y1, .bool h1])] u := by
  intro u f p h; rw [k]; refine qP [11, 18, 19] (by kernel_rfl) (by decide) rfl ⟨?_, ?_, ?_, trivial⟩
  ·refine qi 11 _ (by kernel_rfl) rfl (yC (qC (p1) (p2) a2 n2 c2 l2 x2 y2 h2 _ (qq h.ch hT (fun _ h => h.elim)) (Nat.le_trans h7 h.ch.size) ha2 (hr2.ch h.ch iZ) hn2 (by omega) j H) ?_); rintro _ u ⟨cN, dS, rfl, aK, cO, cP⟩; refine ⟨_, rfl, ?_⟩; have I := aK.ok; have h := h.newGrid aK cO cP; refine zHk h ?_; exact WDm k [9, 23, 29, 31, 33, 34] (ay _ f cN p (h.ord [0, 1, 2, 3, 4, 10, 6, 7, 8, 9]))
  ·refine qi 18 _ (by kernel_rfl) rfl (zN [.pointer none, iX 0, iX 0, .bool false] 30 h fun u cQ h => ?_); refine zHk h ?_; exact WDm k [7, 9, 23, 25, 27, 28, 31, 33, 34] (ag _ f cQ p (h.ord [0, 1, 2, 3, 4, 5, 6, 10, 8, 9]))
  refine qi 19 _ (by kernel_rfl) rfl (zN [.pointer none, iX 0, iX 0, .bool false] 30 h fun u cR h => ?_); refine zHk h ?_; exact WDm k [8, 9, 23, 25, 27, 28, 31, 33, 34] (ah _ f cR p (h.ord [0, 1, 2, 3, 4, 5, 6, 7, 10, 9]))
 have aL : ∀ (u : World) (n o : Nat), Sep w (fun _ => False) u [qg t [iX p1, iX p2] 22, qg v [.slice a1 n1 c1, iX x1, iX y1, .bool h1] 51, qg C [.slice a2 n2 c2, iX x2, iX y2, .bool h2] 51, qg s [.slice a1 n1 c1, iX x1, iX y1, .bool h1, .slice a2 n2 c2, iX x2, iX y2, .bool h2] 51, qQ, qQ, qQ, qg n [.pointer none, iX 0, iX 0, .bool false] 30, qg o [.pointer none, iX 0, iX 0, .bool false] 30, qQ] → D [0, 1, 2, 3, 4, 6, 7, 8, 9, 10, 12, 13, 14, 15, 16, 18, 19] [(7, pX n), (8, pX o), (19, iX p1), (21, iX p2), (22, .agg #[.slice a1 n1 c1, iX x1, iX y1, .bool h1]), (25, iX p1), (27, iX p2), (28, .agg #[.slice a2 n2 c2, iX x2, iX y2, .bool h2]), (31, iX p1), (33, iX p2), (34, .agg #[.slice a1 n1 c1, iX x1, iX y1, .bool h1])] u := by
  intro u n o h; rw [k]; refine qP [5, 20] (by kernel_rfl) (by decide) rfl ⟨?_, ?_, trivial⟩
  ·refine qi 5 _ (by kernel_rfl) rfl (yC (qC (p1) (p2) a1 n1 c1 l1 x1 y1 h1 _ (qq h.ch hT (fun _ h => h.elim)) (Nat.le_trans h7 h.ch.size) ha1 (hr1.ch h.ch iZ) hn1 (by omega) d G) ?_); rintro _ u ⟨cS, dT, rfl, aM, cT, cU⟩; refine ⟨_, rfl, ?_⟩; have F := aM.ok; have h := h.newGrid aM cT cU; refine zHk h ?_; exact WDm k [7, 8, 23, 25, 27, 28, 31, 33, 34] (af _ cS n o (h.ord [0, 1, 2, 3, 10, 5, 6, 7, 8, 9]))
  refine qi 20 _ (by kernel_rfl) rfl (zN [.pointer none, iX 0, iX 0, .bool false] 30 h fun u cV h => ?_); refine zHk h ?_; exact WDm k [7, 8, 9, 19, 21, 22, 25, 27, 28, 31, 33, 34] (ai _ n o cV (h.ord [0, 1, 2, 3, 4, 5, 6, 7, 8, 10]))
 have aN : ∀ (u : World) (n p : Nat), Sep w (fun _ => False) u [qg t [iX p1, iX p2] 22, qg v [.slice a1 n1 c1, iX x1, iX y1, .bool h1] 51, qg C [.slice a2 n2 c2, iX x2, iX y2, .bool h2] 51, qg s [.slice a1 n1 c1, iX x1, iX y1, .bool h1, .slice a2 n2 c2, iX x2, iX y2, .bool h2] 51, qQ, qQ, qQ, qg n [.pointer none, iX 0, iX 0, .bool false] 30, qQ, qg p [.pointer none, iX 0, iX 0, .bool false] 30] → D [0, 1, 2, 3, 4, 6, 7, 8, 9, 10, 12, 13, 14, 15, 16, 18, 20] [(7, pX n), (9, pX p), (19, iX p1), (21, iX p2), (22, .agg #[.slice a1 n1 c1, iX x1, iX y1, .bool h1]), (25, iX p1), (27, iX p2), (28, .agg #[.slice a2 n2 c2, iX x2, iX y2, .bool h2]), (31, iX p1), (33, iX p2), (34, .agg #[.slice a1 n1 c1, iX x1, iX y1, .bool h1])] u := by
  intro u n p h; rw [k]; refine qP [5, 19] (by kernel_rfl) (by decide) rfl ⟨?_, ?_, trivial⟩
  ·refine qi 5 _ (by kernel_rfl) rfl (yC (qC (p1) (p2) a1 n1 c1 l1 x1 y1 h1 _ (qq h.ch hT (fun _ h => h.elim)) (Nat.le_trans h7 h.ch.size) ha1 (hr1.ch h.ch iZ) hn1 (by omega) d G) ?_); rintro _ u ⟨cW, dU, rfl, aO, cX, cY⟩; refine ⟨_, rfl, ?_⟩; have F := aO.ok; have h := h.newGrid aO cX cY; refine zHk h ?_; exact WDm k [7, 9, 23, 25, 27, 28, 31, 33, 34] (ag _ cW n p (h.ord [0, 1, 2, 3, 10, 5, 6, 7, 8, 9]))
  refine qi 19 _ (by kernel_rfl) rfl (zN [.pointer none, iX 0, iX 0, .bool false] 30 h fun u cZ h => ?_); refine zHk h ?_; exact WDm k [7, 8, 9, 19, 21, 22, 25, 27, 28, 31, 33, 34] (ai _ n cZ p (h.ord [0, 1, 2, 3, 4, 5, 6, 7, 10, 9]))
 have aP : ∀ (u : World) (o p : Nat), Sep w (fun _ => False) u [qg t [iX p1, iX p2] 22, qg v [.slice a1 n1 c1, iX x1, iX y1, .bool h1] 51, qg C [.slice a2 n2 c2, iX x2, iX y2, .bool h2] 51, qg s [.slice a1 n1 c1, iX x1, iX y1, .bool h1, .slice a2 n2 c2, iX x2, iX y2, .bool h2] 51, qQ, qQ, qQ, qQ, qg o [.pointer none, iX 0, iX 0, .bool false] 30, qg p [.pointer none, iX 0, iX 0, .bool false] 30] → D [0, 1, 2, 3, 4, 6, 7, 8, 9, 10, 12, 13, 14, 15, 16, 19, 20] [(8, pX o), (9, pX p), (19, iX p1), (21, iX p2), (22, .agg #[.slice a1 n1 c1, iX x1, iX y1, .bool h1]), (25, iX p1), (27, iX p2), (28, .agg #[.slice a2 n2 c2, iX x2, iX y2, .bool h2]), (31, iX p1), (33, iX p2), (34, .agg #[.slice a1 n1 c1, iX x1, iX y1, .bool h1])] u := by
  intro u o p h; rw [k]; refine qP [5, 18] (by kernel_rfl) (by decide) rfl ⟨?_, ?_, trivial⟩
  ·refine qi 5 _ (by kernel_rfl) rfl (yC (qC (p1) (p2) a1 n1 c1 l1 x1 y1 h1 _ (qq h.ch hT (fun _ h => h.elim)) (Nat.le_trans h7 h.ch.size) ha1 (hr1.ch h.ch iZ) hn1 (by omega) d G) ?_); rintro _ u ⟨d0, dV, rfl, aQ, d1, d2⟩; refine ⟨_, rfl, ?_⟩; have F := aQ.ok; have h := h.newGrid aQ d1 d2; refine zHk h ?_; exact WDm k [8, 9, 23, 25, 27, 28, 31, 33, 34] (ah _ d0 o p (h.ord [0, 1, 2, 3, 10, 5, 6, 7, 8, 9]))
  refine qi 18 _ (by kernel_rfl) rfl (zN [.pointer none, iX 0, iX 0, .bool false] 30 h fun u d3 h => ?_); refine zHk h ?_; exact WDm k [7, 8, 9, 19, 21, 22, 25, 27, 28, 31, 33, 34] (ai _ d3 o p (h.ord [0, 1, 2, 3, 4, 5, 6, 10, 8, 9]))
 have d4 : ∀ (u : World) (f : Nat), Sep w (fun _ => False) u [qg t [iX p1, iX p2] 22, qg v [.slice a1 n1 c1, iX x1, iX y1, .bool h1] 51, qg C [.slice a2 n2 c2, iX x2, iX y2, .bool h2] 51, qg s [.slice a1 n1 c1, iX x1, iX y1, .bool h1, .slice a2 n2 c2, iX x2, iX y2, .bool h2] 51, qE f d.g, qQ, qQ, qQ, qQ, qQ] → D [0, 1, 2, 3, 4, 6, 7, 8, 9, 10, 12, 13, 14, 15, 16, 5] [(23, .agg #[pX f, iX d.x, iX d.y, .bool d.hid]), (25, iX p1), (27, iX p2), (28, .agg #[.slice a2 n2 c2, iX x2, iX y2, .bool h2]), (31, iX p1), (33, iX p2), (34, .agg #[.slice a1 n1 c1, iX x1, iX y1, .bool h1])] u := by
  intro u f h; rw [k]; refine qP [11, 18, 19, 20] (by kernel_rfl) (by decide) rfl ⟨?_, ?_, ?_, ?_, trivial⟩
  ·refine qi 11 _ (by kernel_rfl) rfl (yC (qC (p1) (p2) a2 n2 c2 l2 x2 y2 h2 _ (qq h.ch hT (fun _ h => h.elim)) (Nat.le_trans h7 h.ch.size) ha2 (hr2.ch h.ch iZ) hn2 (by omega) j H) ?_); rintro _ u ⟨d5, dW, rfl, aR, d6, d7⟩; refine ⟨_, rfl, ?_⟩; have I := aR.ok; have h := h.newGrid aR d6 d7; refine zHk h ?_; exact WDm k [23, 29, 31, 33, 34] (cw _ f d5 (h.ord [0, 1, 2, 3, 4, 10, 6, 7, 8, 9]))
  ·refine qi 18 _ (by kernel_rfl) rfl (zN [.pointer none, iX 0, iX 0, .bool false] 30 h fun u d8 h => ?_); refine zHk h ?_; exact WDm k [7, 23, 25, 27, 28, 31, 33, 34] (aF _ f d8 (h.ord [0, 1, 2, 3, 4, 5, 6, 10, 8, 9]))
  ·refine qi 19 _ (by kernel_rfl) rfl (zN [.pointer none, iX 0, iX 0, .bool false] 30 h fun u d9 h => ?_); refine zHk h ?_; exact WDm k [8, 23, 25, 27, 28, 31, 33, 34] (aH _ f d9 (h.ord [0, 1, 2, 3, 4, 5, 6, 7, 10, 9]))
  refine qi 20 _ (by kernel_rfl) rfl (zN [.pointer none, iX 0, iX 0, .bool false] 30 h fun u da h => ?_); refine zHk h ?_; exact WDm k [9, 23, 25, 27, 28, 31, 33, 34] (aJ _ f da (h.ord [0, 1, 2, 3, 4, 5, 6, 7, 8, 10]))
 have db : ∀ (u : World) (n : Nat), Sep w (fun _ => False) u [qg t [iX p1, iX p2] 22, qg v [.slice a1 n1 c1, iX x1, iX y1, .bool h1] 51, qg C [.slice a2 n2 c2, iX x2, iX y2, .bool h2] 51, qg s [.slice a1 n1 c1, iX x1, iX y1, .bool h1, .slice a2 n2 c2, iX x2, iX y2, .bool h2] 51, qQ, qQ, qQ, qg n [.pointer none, iX 0, iX 0, .bool false] 30, qQ, qQ] → D [0, 1, 2, 3, 4, 6, 7, 8, 9, 10, 12, 13, 14, 15, 16, 18] [(7, pX n), (19, iX p1), (21, iX p2), (22, .agg #[.slice a1 n1 c1, iX x1, iX y1, .bool h1]), (25, iX p1), (27, iX p2), (28, .agg #[.slice a2 n2 c2, iX x2, iX y2, .bool h2]), (31, iX p1), (33, iX p2), (34, .agg #[.slice a1 n1 c1, iX x1, iX y1, .bool h1])] u := by
  intro u n h; rw [k]; refine qP [5, 19, 20] (by kernel_rfl) (by decide) rfl ⟨?_, ?_, ?_, trivial⟩
  ·refine qi 5 _ (by kernel_rfl) rfl (yC (qC (p1) (p2) a1 n1 c1 l1 x1 y1 h1 _ (qq h.ch hT (fun _ h => h.elim)) (Nat.le_trans h7 h.ch.size) ha1 (hr1.ch h.ch iZ) hn1 (by omega) d G) ?_); rintro _ u ⟨dc, dX, rfl, aS, dd, de⟩; refine ⟨_, rfl, ?_⟩; have F := aS.ok; have h := h.newGrid aS dd de; refine zHk h ?_; exact WDm k [7, 23, 25, 27, 28, 31, 33, 34] (aF _ dc n (h.ord [0, 1, 2, 3, 10, 5, 6, 7, 8, 9]))
  ·refine qi 19 _ (by kernel_rfl) rfl (zN [.pointer none, iX 0, iX 0, .bool false] 30 h fun u df h => ?_); refine zHk h ?_; exact WDm k [7, 8, 19, 21, 22, 25, 27, 28, 31, 33, 34] (aL _ n df (h.ord [0, 1, 2, 3, 4, 5, 6, 7, 10, 9]))
  refine qi 20 _ (by kernel_rfl) rfl (zN [.pointer none, iX 0, iX 0, .bool false] 30 h fun u dg h => ?_); refine zHk h ?_; exact WDm k [7, 9, 19, 21, 22, 25, 27, 28, 31, 33, 34] (aN _ n dg (h.ord [0, 1, 2, 3, 4, 5, 6, 7, 8, 10]))
 have dh : ∀ (u : World) (o : Nat), Sep w (fun _ => False) u [qg t [iX p1, iX p2] 22, qg v [.slice a1 n1 c1, iX x1, iX y1, .bool h1] 51, qg C [.slice a2 n2 c2, iX x2, iX y2, .bool h2] 51, qg s [.slice a1 n1 c1, iX x1, iX y1, .bool h1, .slice a2 n2 c2, iX x2, iX y2, .bool h2] 51, qQ, qQ, qQ, qQ, qg o [.pointer none, iX 0, iX 0, .bool false] 30, qQ] → D [0, 1, 2, 3, 4, 6, 7, 8, 9, 10, 12, 13, 14, 15, 16, 19] [(8, pX o), (19, iX p1), (21, iX p2), (22, .agg #[.slice a1 n1 c1, iX x1, iX y1, .bool h1]), (25, iX p1), (27, iX p2), (28, .agg #[.slice a2 n2 c2, iX x2, iX y2, .bool h2]), (31, iX p1), (33, iX p2), (34, .agg #[.slice a1 n1 c1, iX x1, iX y1, .bool h1])] u := by
  intro u o h; rw [k]; refine qP [5, 18, 20] (by kernel_rfl) (by decide) rfl ⟨?_, ?_, ?_, trivial⟩
  ·refine qi 5 _ (by kernel_rfl) rfl (yC (qC (p1) (p2) a1 n1 c1 l1 x1 y1 h1 _ (qq h.ch hT (fun _ h => h.elim)) (Nat.le_trans h7 h.ch.size) ha1 (hr1.ch h.ch iZ) hn1 (by omega) d G) ?_); rintro _ u ⟨di, dY, rfl, aT, dj, dk⟩; refine ⟨_, rfl, ?_⟩; have F := aT.ok; have h := h.newGrid aT dj dk; refine zHk h ?_; exact WDm k [8, 23, 25, 27, 28, 31, 33, 34] (aH _ di o (h.ord [0, 1, 2, 3, 10, 5, 6, 7, 8, 9]))
  ·refine qi 18 _ (by kernel_rfl) rfl (zN [.pointer none, iX 0, iX 0, .bool false] 30 h fun u dl h => ?_); refine zHk h ?_; exact WDm k [7, 8, 19, 21, 22, 25, 27, 28, 31, 33, 34] (aL _ dl o (h.ord [0, 1, 2, 3, 4, 5, 6, 10, 8, 9]))
  refine qi 20 _ (by kernel_rfl) rfl (zN [.pointer none, iX 0, iX 0, .bool false] 30 h fun u dm h => ?_); refine zHk h ?_; exact WDm k [8, 9, 19, 21, 22, 25, 27, 28, 31, 33, 34] (aP _ o dm (h.ord [0, 1, 2, 3, 4, 5, 6, 7, 8, 10]))
 have dn : ∀ (u : World) (p : Nat), Sep w (fun _ => False) u [qg t [iX p1, iX p2] 22, qg v [.slice a1 n1 c1, iX x1, iX y1, .bool h1] 51, qg C [.slice a2 n2 c2, iX x2, iX y2, .bool h2] 51, qg s [.slice a1 n1 c1, iX x1, iX y1, .bool h1, .slice a2 n2 c2, iX x2, iX y2, .bool h2] 51, qQ, qQ, qQ, qQ, qQ, qg p [.pointer none, iX 0, iX 0, .bool false] 30] → D [0, 1, 2, 3, 4, 6, 7, 8, 9, 10, 12, 13, 14, 15, 16, 20] [(9, pX p), (19, iX p1), (21, iX p2), (22, .agg #[.slice a1 n1 c1, iX x1, iX y1, .bool h1]), (25, iX p1), (27, iX p2), (28, .agg #[.slice a2 n2 c2, iX x2, iX y2, .bool h2]), (31, iX p1), (33, iX p2), (34, .agg #[.slice a1 n1 c1, iX x1, iX y1, .bool h1])] u := by
  intro u p h; rw [k]; refine qP [5, 18, 19] (by kernel_rfl) (by decide) rfl ⟨?_, ?_, ?_, trivial⟩
  ·refine qi 5 _ (by kernel_rfl) rfl (yC (qC (p1) (p2) a1 n1 c1 l1 x1 y1 h1 _ (qq h.ch hT (fun _ h => h.elim)) (Nat.le_trans h7 h.ch.size) ha1 (hr1.ch h.ch iZ) hn1 (by omega) d G) ?_); rintro _ u ⟨dp, dZ, rfl, aU, dq, dr⟩; refine ⟨_, rfl, ?_⟩; have F := aU.ok; have h := h.newGrid aU dq dr; refine zHk h ?_; exact WDm k [9, 23, 25, 27, 28, 31, 33, 34] (aJ _ dp p (h.ord [0, 1, 2, 3, 10, 5, 6, 7, 8, 9]))
  ·refine qi 18 _ (by kernel_rfl) rfl (zN [.pointer none, iX 0, iX 0, .bool false] 30 h fun u ds h => ?_); refine zHk h ?_; exact WDm k [7, 9, 19, 21, 22, 25, 27, 28, 31, 33, 34] (aN _ ds p (h.ord [0, 1, 2, 3, 4, 5, 6, 10, 8, 9]))
  refine qi 19 _ (by kernel_rfl) rfl (zN [.pointer none, iX 0, iX 0, .bool false] 30 h fun u dt h => ?_); refine zHk h ?_; exact WDm k [8, 9, 19, 21, 22, 25, 27, 28, 31, 33, 34] (aP _ dt p (h.ord [0, 1, 2, 3, 4, 5, 6, 7, 10, 9]))
 have h := Sep.pad 6 h; rw [k]; refine qP [5, 18, 19, 20] (by kernel_rfl) (by decide) rfl ⟨?_, ?_, ?_, ?_, trivial⟩
 ·refine qi 5 _ (by kernel_rfl) rfl (yC (qC (p1) (p2) a1 n1 c1 l1 x1 y1 h1 _ (qq h.ch hT (fun _ h => h.elim)) (Nat.le_trans h7 h.ch.size) ha1 (hr1.ch h.ch iZ) hn1 (by omega) d G) ?_); rintro _ u ⟨du, e0, rfl, aV, dv, dw⟩; refine ⟨_, rfl, ?_⟩; have F := aV.ok; have h := h.newGrid aV dv dw; refine zHk h ?_; exact WDm k [23, 25, 27, 28, 31, 33, 34] (d4 _ du (h.ord [0, 1, 2, 3, 10, 5, 6, 7, 8, 9]))
 ·refine qi 18 _ (by kernel_rfl) rfl (zN [.pointer none, iX 0, iX 0, .bool false] 30 h fun u dx h => ?_); refine zHk h ?_; exact WDm k [7, 19, 21, 22, 25, 27, 28, 31, 33, 34] (db _ dx (h.ord [0, 1, 2, 3, 4, 5, 6, 10, 8, 9]))
 ·refine qi 19 _ (by kernel_rfl) rfl (zN [.pointer none, iX 0, iX 0, .bool false] 30 h fun u dy h => ?_); refine zHk h ?_; exact WDm k [8, 19, 21, 22, 25, 27, 28, 31, 33, 34] (dh _ dy (h.ord [0, 1, 2, 3, 4, 5, 6, 7, 10, 9]))
 refine qi 20 _ (by kernel_rfl) rfl (zN [.pointer none, iX 0, iX 0, .bool false] 30 h fun u dz h => ?_); refine zHk h ?_; exact WDm k [9, 19, 21, 22, 25, 27, 28, 31, 33, 34] (dn _ dz (h.ord [0, 1, 2, 3, 4, 5, 6, 7, 8, 10]))
end Go.Proofs.YtjklgjjgndalcaaGreatDoor.X
namespace Go.Proofs.YtjklgjjgndalcaaGreatDoor
open Go.ChangeShapes Go.WideShapes Go.ChangeAt Go.RowKit
theorem qfU : ownKnob Tryz.prog.godebug = none := by kernel_rfl
abbrev qhg : List (String × DataW Unit) := [("flipbook/glyph.wide", Rows.laid_flipbook_glyph_wide), ("flipbook/glyph.signs", Rows.laid_flipbook_glyph_signs), ("math/bits.deBruijn32tab", Rows.laid_math_bits_deBruijn32tab), ("math/bits.deBruijn64tab", Rows.laid_math_bits_deBruijn64tab), ("internal/strconv.uint64pow10", Rows.laid_internal_strconv_uint64pow10), ("unicode/utf8.acceptRanges", Rows.laid_unicode_utf8_acceptRanges), ("unicode/utf8.first", Rows.laid_unicode_utf8_first)]
theorem doorMet (os : Os) (args : Array Value) : laidMetH Tryz.prog qhg ((World.laidAll Tryz.prog os qhg).forCall (fun _ _ => 0) ⟨#[], args, []⟩).memory := by
 rw [MakeChecks.laidMetH_plain _ _ _ (by kernel_rfl)]; exact laidMet_laidAll _ (by kernel_rfl) (by kernel_rfl)
theorem qhh (os : Os) : (World.laidAll Tryz.prog os qhg).Shaped Tryz.prog := World.shaped_of_ZipB (by kernel_rfl) (by kernel_rfl)
theorem qb8 {W : World} {g n t : Nat} {k : IntKind} {e : TypeId} (he : Tryz.prog.underlying e = some (.int k)) (ce : Tryz.prog.cellsOf e = 1) {name : String} {cs : Array Value} {fuel : Nat} {l : List Int} {q : List MemPlace} (hg : Tryz.prog.globalNamed name = some g) (hv : W.var? Tryz.prog name = some cs)
  (hd : DataW.trod (H := Unit) (fun _ => ()) Tryz.prog W 0 (fun _ => true) false fuel t cs.toList = some (.agg (l.map fun n => .lit (.int k n)), q))
  (ht : Tryz.prog.underlying t = some (.array n e)) (hl : l.length = n) : ∀ r, r < l.length → W.cell? ⟨g, r, none⟩ = some (.int k (l.getD r 0)) := by
 obtain ⟨xs, m, _, ex, _, hlx, hel⟩ := DataW.trod_array ht hd
 intro r hr
 have hE := hel r (by omega)
 rw [ce, Nat.mul_one, List.getElem?_eq_getElem (by omega)] at hE
 obtain ⟨z, e1, e2, _⟩ := DataW.trod_int he hE
 have e3 : (xs.map (·.1)) = l.map fun n => .lit (.int k n) := (DataW.agg.inj (Prod.mk.inj ex).1).symm
 have e4 : (xs.map (·.1))[r]? = (l.map fun n => (DataW.lit (.int k n) : DataW Unit))[r]? := by rw [e3]
 rw [List.getElem?_map, List.getElem?_map, List.getElem?_eq_getElem (by omega : r < xs.length), List.getElem?_eq_getElem (by omega : r < l.length), e2] at e4
 have hz : z = l.getD r 0 := by
  simp only [Option.map_some, Option.some.injEq, DataW.lit.injEq, Lit.int.injEq, true_and] at e4
  rw [e4, List.getD, List.getElem?_eq_getElem (by omega : r < l.length)]; rfl
 rw [World.var?_cell hg hv r, ← hz]
 have : cs.toList[r]? = some (.int k z) := by
  have h0 : ((cs.toList.drop r).take 1)[0]? = some (.int k z) := by rw [e1]; rfl
  simpa using h0
 simpa using this
theorem qeE {W : World} {g n t e u : Nat} {k : IntKind} {fs : Array Field} (hs : Tryz.prog.underlying e = some (.struct fs)) (h0 : ∃ f, fs[0]? = some f ∧ f.type = u ∧ f.offset = 0) (h1 : ∃ f, fs[1]? = some f ∧ f.type = u ∧ f.offset = 1) (hz : fs.size = 2) (hu : Tryz.prog.underlying u = some (.int k)) (ce : Tryz.prog.cellsOf e = 2) (cu : Tryz.prog.cellsOf u = 1)
  {name : String} {cs : Array Value} {fuel : Nat} {l : List (Int × Int)} {q : List MemPlace} (hg : Tryz.prog.globalNamed name = some g) (hv : W.var? Tryz.prog name = some cs)
  (hd : DataW.trod (H := Unit) (fun _ => ()) Tryz.prog W 0 (fun _ => true) false fuel t cs.toList = some (.agg (l.map fun p => .agg [.lit (.int k p.1), .lit (.int k p.2)]), q))
  (ht : Tryz.prog.underlying t = some (.array n e)) (hl : l.length = n) : ∀ r p, l[r]? = some p → W.cell? ⟨g, r * 2, none⟩ = some (.int k p.1) ∧ W.cell? ⟨g, r * 2 + 1, none⟩ = some (.int k p.2) := by
 obtain ⟨xs, m, _, ex, _, hlx, hel⟩ := DataW.trod_array ht hd
 intro r p hp
 have hr : r < l.length := (List.getElem?_eq_some_iff.1 hp).1
 have hE := hel r (by omega)
 rw [ce, List.getElem?_eq_getElem (by omega)] at hE
 have e3 : (xs.map (·.1)) = l.map fun p => .agg [.lit (.int k p.1), .lit (.int k p.2)] := (DataW.agg.inj (Prod.mk.inj ex).1).symm
 have e4 : (xs.map (·.1))[r]? = (l.map fun p => (DataW.agg [.lit (.int k p.1), .lit (.int k p.2)] : DataW Unit))[r]? := by rw [e3]
 rw [List.getElem?_map, List.getElem?_map, List.getElem?_eq_getElem (by omega : r < xs.length), hp] at e4
 simp only [Option.map_some, Option.some.injEq] at e4
 obtain ⟨ys, m2, _, ey, _, hly, hfy⟩ := DataW.trod_struct hs hE
 rw [ey] at e4
 have e5 := DataW.agg.inj e4
 obtain ⟨f0, hf0, t0, o0⟩ := h0
 obtain ⟨f1, hf1, t1, o1⟩ := h1
 have k0 := hfy 0 f0 hf0
 have k1 := hfy 1 f1 hf1
 rw [t0, o0, cu, List.drop_zero, List.take_take] at k0
 rw [t1, o1, cu] at k1
 have hy : ys.length = 2 := by rw [hly, hz]
 rw [List.getElem?_eq_getElem (by omega)] at k0 k1
 obtain ⟨z0, a0, b0, _⟩ := DataW.trod_int hu k0
 obtain ⟨z1, a1, b1, _⟩ := DataW.trod_int hu k1
 have c0 : (ys.map (·.1))[0]? = some (.lit (.int k p.1)) := by rw [e5]; rfl
 have c1 : (ys.map (·.1))[1]? = some (.lit (.int k p.2)) := by rw [e5]; rfl
 rw [List.getElem?_map, List.getElem?_eq_getElem (by omega), b0] at c0
 rw [List.getElem?_map, List.getElem?_eq_getElem (by omega), b1] at c1
 simp only [Option.map_some, Option.some.injEq, DataW.lit.injEq, Lit.int.injEq, true_and] at c0 c1
 subst c0 c1
 have d0 : cs.toList[r * 2]? = some (.int k p.1) := by
  have h0 : ((cs.toList.drop (r * 2)).take (min 1 2))[0]? = some (.int k p.1) := by rw [a0]; rfl
  simpa using h0
 have d1 : cs.toList[r * 2 + 1]? = some (.int k p.2) := by
  have h0 : ((((cs.toList.drop (r * 2)).take 2).drop 1).take 1)[0]? = some (.int k p.2) := by rw [a1]; rfl
  simpa using h0
 exact ⟨by rw [World.var?_cell hg hv]; simpa using d0, by rw [World.var?_cell hg hv]; simpa using d1⟩
def firstL : List Int := (List.range 256).map X.firstN
def accL : List (Int × Int) := (List.range 16).map X.accN
theorem qeF {c : Nat} (h : c < 256) : firstL.length = 256 ∧ firstL.getD c 0 = X.firstN c := by
 have e : firstL.length = 256 := by simp [firstL]
 refine ⟨e, ?_⟩
 rw [List.getD, firstL, List.getElem?_map, List.getElem?_range h]; rfl
theorem acc_at {i : Nat} (h : i < 16) : accL[i]? = some (X.accN i) := by
 rw [accL, List.getElem?_map, List.getElem?_range h]; rfl
set_option maxRecDepth 100000 in
theorem qhi {W : World} (h : laidMetH Tryz.prog qhg W) : X.LT W := by
 rw [MakeChecks.laidMetH_plain _ _ _ (by kernel_rfl)] at h
 obtain ⟨ps, ⟨g0, t0, cs0, f0, p0, q0, hg0, ht0, hv0, hd0, ⟨g1, t1, cs1, f1, p1, q1, hg1, ht1, hv1, hd1, ⟨g2, t2, cs2, f2, p2, q2, hg2, ht2, hv2, hd2, ⟨g3, t3, cs3, f3, p3, q3, hg3, ht3, hv3, hd3, ⟨g4, t4, cs4, f4, p4, q4, hg4, ht4, hv4, hd4, ⟨g5, t5, cs5, f5, p5, q5, hg5, ht5, hv5, hd5, ⟨g6, t6, cs6, f6, p6, q6, hg6, ht6, hv6, hd6, _, _⟩, _⟩, _⟩, _⟩, _⟩, _⟩, _⟩, _, _⟩ := h
 obtain rfl := Option.some.inj ((show Tryz.prog.globalNamed "flipbook/glyph.wide" = some 0 by kernel_rfl).symm.trans hg0)
 obtain rfl := Option.some.inj ((show Tryz.prog.globalNamed "flipbook/glyph.signs" = some 3 by kernel_rfl).symm.trans hg1)
 obtain rfl := Option.some.inj ((show Tryz.prog.globalNamed "internal/strconv.uint64pow10" = some 4 by kernel_rfl).symm.trans hg4)
 obtain rfl := Option.some.inj ((show Tryz.prog.globalNamed "unicode/utf8.acceptRanges" = some 2 by kernel_rfl).symm.trans hg5)
 obtain rfl := Option.some.inj ((show Tryz.prog.globalNamed "unicode/utf8.first" = some 1 by kernel_rfl).symm.trans hg6)
 obtain rfl := Option.some.inj ((show (Tryz.prog.globals[0]?).map (·.type) = some 117 by kernel_rfl).symm.trans ht0)
 obtain rfl := Option.some.inj ((show (Tryz.prog.globals[3]?).map (·.type) = some 156 by kernel_rfl).symm.trans ht1)
 obtain rfl := Option.some.inj ((show (Tryz.prog.globals[4]?).map (·.type) = some 170 by kernel_rfl).symm.trans ht4)
 obtain rfl := Option.some.inj ((show (Tryz.prog.globals[2]?).map (·.type) = some 155 by kernel_rfl).symm.trans ht5)
 obtain rfl := Option.some.inj ((show (Tryz.prog.globals[1]?).map (·.type) = some 152 by kernel_rfl).symm.trans ht6)
 have z6 : Rows.laid_unicode_utf8_first = .agg (firstL.map fun n => .lit (.int .u8 n)) := by kernel_rfl
 rw [z6] at hd6
 have z5 : (Rows.laid_unicode_utf8_acceptRanges : DataW Unit) = .agg (accL.map fun p => .agg [.lit (.int .u8 p.1), .lit (.int .u8 p.2)]) := by kernel_rfl
 rw [z5] at hd5
 refine ⟨⟨qb8 (k := .i32) (e := 21) (by kernel_rfl) (by kernel_rfl) hg0 hv0 hd0 (by kernel_rfl) rfl, qb8 (k := .i32) (e := 21) (by kernel_rfl) (by kernel_rfl) hg1 hv1 hd1 (by kernel_rfl) rfl⟩, ⟨fun c hc => ?_, fun i hi => ?_⟩, fun i hi => ?_⟩
 ·have := qb8 (k := .u8) (e := 5) (by kernel_rfl) (by kernel_rfl) hg6 hv6 hd6 (by kernel_rfl) (qeF hc).1 c (by rw [(qeF hc).1]; exact hc)
  rw [(qeF hc).2] at this; exact this
 ·exact qeE (k := .u8) (e := 154) (u := 5) Tryz.underlying154 ⟨_, rfl, rfl, rfl⟩ ⟨_, rfl, rfl, rfl⟩ rfl Tryz.underlying5 (by kernel_rfl) (by kernel_rfl) hg5 hv5 hd5 Tryz.underlying155 (by simp [accL]) i _ (acc_at hi)
 ·have h1 := qb8 (k := .u64) (e := 149) (l := [1, 10, 100, 1000, 10000, 100000, 1000000, 10000000, 100000000, 1000000000, 10000000000, 100000000000, 1000000000000, 10000000000000, 100000000000000, 1000000000000000, 10000000000000000, 100000000000000000, 1000000000000000000, 10000000000000000000]) (by kernel_rfl) (by kernel_rfl) hg4 hv4 hd4 (by kernel_rfl) rfl i (Nat.lt_of_lt_of_le hi (by decide))
  rw [h1]
  obtain rfl | rfl | rfl : i = 0 ∨ i = 1 ∨ i = 2 := by omega
  all_goals rfl
end Go.Proofs.YtjklgjjgndalcaaGreatDoor
namespace Go.Proofs.YtjklgjjgndalcaaGreatDoor
open Go.ChangeShapes Go.WideShapes Go.ChangeAt Go.RowKit
section
variable {H : Type} {enc : TypeId × Value → H} {P : Program} {w : World} {base : Nat} {spare : Nat → Bool} {held : Bool}
theorem qax {α : Type} {l : List α} {i : Nat} {x : α} (h : (l.drop i).take 1 = [x]) : l[i]? = some x := by
 have h0 : ((l.drop i).take 1)[0]? = some x := by rw [h]; rfl
 simpa using h0
theorem qiO {r : Reach} {b0 : Nat} {t e : TypeId} {k : IntKind} {v : Value} {d : DataW H} {ps : List MemPlace} (ht : P.underlying t = some (.array 2 e)) (he : P.underlying e = some (.int k)) (ce : P.cellsOf e = 1) (ct : P.cellsOf t = 2)
  (hval : Value.okWide P w r b0 t v) (hd : DataW.Trod enc P w base spare held t v d ps) :
  ∃ a b, v = .agg #[.int k a, .int k b] ∧ d = .agg [.lit (.int k a), .lit (.int k b)] ∧ ps = [] ∧ (Lit.int k a).wf = true ∧ (Lit.int k b).wf = true := by
 obtain ⟨cs, rfl, hs, _⟩ : ∃ cs, v = .agg cs ∧ cs.size = 2 ∧ True := by
  unfold Value.okWide at hval
  rw [ht] at hval
  obtain ⟨cs, h1, h2, _⟩ := hval
  exact ⟨cs, h1, by rw [h2, ct], trivial⟩
 obtain ⟨fuel, hf⟩ := hd
 obtain ⟨xs, m, _, ex, _, hlx, hel⟩ := DataW.trod_array ht hf
 have k0 := hel 0 (by omega)
 have k1 := hel 1 (by omega)
 rw [ce, List.getElem?_eq_getElem (by omega)] at k0 k1
 obtain ⟨a, a0, b0, w0⟩ := DataW.trod_int he k0
 obtain ⟨b, a1, b1, w1⟩ := DataW.trod_int he k1
 have c0 := qax a0
 have c1 := qax a1
 simp only [Value.cells, Nat.zero_mul, Nat.one_mul] at c0 c1
 have hcs : cs = #[.int k a, .int k b] := by
  apply Array.ext'
  match hl : cs.toList, (show cs.toList.length = 2 by simpa using hs) with
  | [x, y], _ =>
   rw [hl] at c0 c1
   simp at c0 c1
   rw [c0, c1]
 have hxs : xs = [(.lit (.int k a), []), (.lit (.int k b), [])] := by
  match xs, hlx with
  | [x, y], _ =>
   simp at b0 b1
   rw [b0, b1]
 subst hcs hxs
 have e1 := (Prod.mk.inj ex)
 exact ⟨a, b, rfl, by simpa using e1.1, by simpa using e1.2, w0, w1⟩
theorem qiP {t e : TypeId} {k : IntKind} {a b : Int} (ht : P.underlying t = some (.array 2 e)) (he : P.underlying e = some (.int k)) (ce : P.cellsOf e = 1) (ct : P.cellsOf t = 2) (wa : (Lit.int k a).wf = true) (wb : (Lit.int k b).wf = true) :
  DataW.Trod enc P w base spare held t (.agg #[.int k a, .int k b]) (.agg [.lit (.int k a), .lit (.int k b)]) [] :=
 ⟨2, by simp [DataW.trod, Value.cells, ht, he, ce, ct, wa, wb, List.range_succ]⟩
end
theorem qfV {w w' : World} (h : X.Ch (fun _ => False) w w') : Below w.heap.size w w' := ⟨h.os, h.tape, h.output, h.size, fun k hk => h.block k hk id⟩
theorem qfW {W : World} (h : laidMetH Tryz.prog qhg W) : X.gTop ≤ W.heap.size := by
 rw [MakeChecks.laidMetH_plain _ _ _ (by kernel_rfl)] at h
 obtain ⟨ps, ⟨g0, t0, cs0, f0, p0, q0, hg0, ht0, hv0, hd0, ⟨g1, t1, cs1, f1, p1, q1, hg1, ht1, hv1, hd1, ⟨g2, t2, cs2, f2, p2, q2, hg2, ht2, hv2, hd2, ⟨g3, t3, cs3, f3, p3, q3, hg3, ht3, hv3, hd3, _, _⟩, _⟩, _⟩, _⟩, _, _⟩ := h
 obtain rfl := Option.some.inj ((show Tryz.prog.globalNamed "math/bits.deBruijn64tab" = some 6 by kernel_rfl).symm.trans hg3)
 obtain rfl := Option.some.inj ((show (Tryz.prog.globals[6]?).map (·.type) = some 176 by kernel_rfl).symm.trans ht3)
 obtain ⟨xs, m, _, _, hlen, _⟩ := DataW.trod_array Tryz.underlying176 hd3
 have hl : cs3.toList.length = 64 := hlen.trans (by kernel_rfl)
 have hc := World.var?_cell hg3 hv3 0
 have : ∃ v, cs3[0]? = some v := ⟨_, Array.getElem?_eq_getElem (by simpa using (show 0 < cs3.toList.length by omega))⟩
 obtain ⟨v, hv⟩ := this
 rw [hv] at hc
 have := X.cell_lt hc
 show 7 ≤ _
 omega
end Go.Proofs.YtjklgjjgndalcaaGreatDoor

namespace Go.Proofs.YtjklgjjgndalcaaGreatDoor
open Go.ChangeShapes Go.WideShapes Go.ChangeAt Go.RowKit
section
variable {H : Type} {enc : TypeId × Value → H} {w : World} {base : Nat}
set_option maxRecDepth 100000 in
theorem qfX {spare : Nat → Bool} {held : Bool} {n : Nat} {cs : List Value} {x : DataW H × List MemPlace} (h : DataW.trod enc Tryz.prog w base spare held n 33 cs = some x) (hl : cs.length = 5) : ∃ y : X.Sty, cs = y.vals := by
 obtain ⟨xs, m, _, _, _, hlx, hf⟩ := DataW.trod_struct Tryz.underlying33 h
 have c1 : Tryz.prog.cellsOf 4 = 1 := by kernel_rfl
 have c2 : Tryz.prog.cellsOf 3 = 1 := by kernel_rfl
 have k0 : DataW.trod enc Tryz.prog w base spare held m 4 ((cs.drop 0).take (Tryz.prog.cellsOf 4)) = xs[0]? := hf 0 _ rfl
 have k1 : DataW.trod enc Tryz.prog w base spare held m 4 ((cs.drop 1).take (Tryz.prog.cellsOf 4)) = xs[1]? := hf 1 _ rfl
 have k2 : DataW.trod enc Tryz.prog w base spare held m 4 ((cs.drop 2).take (Tryz.prog.cellsOf 4)) = xs[2]? := hf 2 _ rfl
 have k3 : DataW.trod enc Tryz.prog w base spare held m 3 ((cs.drop 3).take (Tryz.prog.cellsOf 3)) = xs[3]? := hf 3 _ rfl
 have k4 : DataW.trod enc Tryz.prog w base spare held m 3 ((cs.drop 4).take (Tryz.prog.cellsOf 3)) = xs[4]? := hf 4 _ rfl
 rw [c1] at k0 k1 k2
 rw [c2] at k3 k4
 have hlx5 : xs.length = 5 := hlx
 rw [List.getElem?_eq_getElem (by omega)] at k0 k1 k2 k3 k4
 obtain ⟨b0, a0, _⟩ := DataW.trod_bool Tryz.underlying4 k0
 obtain ⟨b1, a1, _⟩ := DataW.trod_bool Tryz.underlying4 k1
 obtain ⟨b2, a2, _⟩ := DataW.trod_bool Tryz.underlying4 k2
 obtain ⟨b3, a3, _⟩ := DataW.trod_int Tryz.underlying3 k3
 obtain ⟨b4, a4, _⟩ := DataW.trod_int Tryz.underlying3 k4
 have g0 := qax a0
 have g1 := qax a1
 have g2 := qax a2
 have g3 := qax a3
 have g4 := qax a4
 refine ⟨⟨b0, b1, b2, b3, b4⟩, ?_⟩
 match cs, hl with
 | [u0, u1, u2, u3, u4], _ =>
  simp only [List.getElem?_cons_zero, List.getElem?_cons_succ, Option.some.injEq] at g0 g1 g2 g3 g4
  rw [g0, g1, g2, g3, g4]; rfl
set_option maxRecDepth 100000 in
theorem qhj {spare : Nat → Bool} {held : Bool} {n : Nat} {cs : List Value} {x : DataW H × List MemPlace} (h : DataW.trod enc Tryz.prog w base spare held n 66 cs = some x) (hl : cs.length = 6) : ∃ y : X.Cel, cs = y.vals := by
 obtain ⟨xs, m, _, _, _, hlx, hf⟩ := DataW.trod_struct Tryz.underlying66 h
 have c1 : Tryz.prog.cellsOf 21 = 1 := by kernel_rfl
 have c2 : Tryz.prog.cellsOf 33 = 5 := by kernel_rfl
 have k0 : DataW.trod enc Tryz.prog w base spare held m 21 ((cs.drop 0).take (Tryz.prog.cellsOf 21)) = xs[0]? := hf 0 _ rfl
 have k1 : DataW.trod enc Tryz.prog w base spare held m 33 ((cs.drop 1).take (Tryz.prog.cellsOf 33)) = xs[1]? := hf 1 _ rfl
 rw [c1] at k0
 rw [c2] at k1
 have hlx2 : xs.length = 2 := hlx
 rw [List.getElem?_eq_getElem (by omega)] at k0 k1
 obtain ⟨r, a0, _⟩ := DataW.trod_int Tryz.underlying21 k0
 obtain ⟨s, a1⟩ := qfX k1 (by rw [List.length_take, List.length_drop, hl]; rfl)
 have g0 := qax a0
 refine ⟨⟨r, s⟩, ?_⟩
 match cs, hl with
 | [u0, u1, u2, u3, u4, u5], _ =>
  simp only [List.getElem?_cons_zero, Option.some.injEq] at g0
  have a1' : [u1, u2, u3, u4, u5] = s.vals := a1
  rw [g0, a1']; rfl
set_option maxRecDepth 100000 in
theorem qhk {n0 : Nat} {v : Value} {x : DataW H × List MemPlace} (hf : DataW.trod enc Tryz.prog w base (fun _ => true) true n0 49 [v] = some x) :
  ∃ (a : Option Addr) (n c : Nat) (l : List X.Cel), v = .slice a n c ∧ (n = 0 ∨ ∃ b off, a = some ⟨b, off, none⟩) ∧ X.Rd w a (X.flat l) ∧ l.length = n := by
 have ce : Tryz.prog.cellsOf 66 = 6 := by kernel_rfl
 rcases Deep.open_slice Tryz.underlying49 hf with ⟨h0, _⟩ | ⟨a, len, cap, m, n, D, Pl, hv, _, hl, _, hm, _, hx⟩
 ·have h1 : v = .slice (none) 0 0 := List.head_eq_of_cons_eq h0
  exact ⟨none, 0, 0, [], h1, .inl rfl, X.Rd.nil _ _, rfl⟩
 ·have h1 : v = .slice (some a) len cap := List.head_eq_of_cons_eq hv
  have hm' : m = cap := by simpa using hm
  rw [ce] at hx
  have each : ∀ i, i < len → ∃ y : X.Cel, w.cells? base (a.add (i * 6)) 6 = some y.vals := fun i hi => by
   obtain ⟨cs, e1, e2⟩ := hx i (by omega)
   obtain ⟨_, hlen, _⟩ := World.cells?_some e1
   obtain ⟨y, rfl⟩ := qhj e2 hlen
   exact ⟨y, e1⟩
  have : Inhabited X.Cel := ⟨X.cel0⟩
  obtain ⟨f, hfy⟩ := Deep.choose_lt each
  refine ⟨some a, len, cap, (List.range len).map f, h1, ?_, ⟨fun e => (by cases e), fun ad e j u hj => ?_⟩, by simp⟩
  ·rcases Nat.eq_zero_or_pos len with h0 | h0
   ·exact .inl h0
   ·right
    obtain ⟨_, _, hc⟩ := World.cells?_some (hfy 0 h0)
    have h2 := hc 0 (by omega)
    rw [Deep.add_add] at h2
    have h3 : w.cell? a = some (.int .i32 (f 0).rune) := h2
    obtain ⟨b, off, sp⟩ := a
    cases sp with
    | none => exact ⟨b, off, rfl⟩
    | some q =>
     unfold World.cell? at h3
     split at h3
     ·simp at h3
     ·cases h3
  ·obtain rfl : a = ad := by injection e
   have hlen : (X.flat ((List.range len).map f)).length = len * 6 := by rw [X.flat_len]; simp
   have hlt : j < len * 6 := by
    rw [← hlen]
    exact (List.getElem?_eq_some_iff.1 hj).1
   have hi : j / 6 < len := by omega
   have hr : j % 6 < 6 := by omega
   have hjj : j = j / 6 * 6 + j % 6 := by omega
   have h2 := X.flat_get ((List.range len).map f) ((j / 6 : Nat) : Int) (j % 6) (by omega) (by simp; omega) hr
   rw [Int.toNat_natCast, ← hjj, hj] at h2
   have hg : X.gc ((List.range len).map f) ((j / 6 : Nat) : Int) = f (j / 6) := by rw [X.gc_at (by simpa using hi), List.getElem_map, List.getElem_range]
   rw [hg] at h2
   obtain ⟨_, _, hc⟩ := World.cells?_some (hfy (j / 6) hi)
   have h3 := hc (j % 6) hr
   rw [Deep.add_add, ← hjj] at h3
   rw [h3, ← h2]
theorem agg4 {P : Program} {r : Reach} {b0 : Nat} {t : TypeId} {fs : Array Field} {v : Value} (ht : P.underlying t = some (.struct fs)) (ct : P.cellsOf t = 4) (hval : Value.okWide P w r b0 t v) : ∃ u0 u1 u2 u3, v = .agg #[u0, u1, u2, u3] := by
 obtain ⟨cs, rfl, hs⟩ : ∃ cs, v = .agg cs ∧ cs.size = 4 := by
  unfold Value.okWide at hval
  rw [ht] at hval
  obtain ⟨cs, h1, h2, _⟩ := hval
  exact ⟨cs, h1, by rw [h2, ct]⟩
 match hl : cs.toList, (show cs.toList.length = 4 by simpa using hs) with
 | [a, b, c, d], _ => exact ⟨a, b, c, d, by rw [← Array.toArray_toList (xs := cs), hl]⟩
set_option maxRecDepth 100000 in
theorem qfs {r : Reach} {b0 : Nat} {v : Value} {d : DataW H} {ps : List MemPlace} (hval : Value.okWide Tryz.prog w r b0 51 v) (hd : DataW.Trod enc Tryz.prog w base (fun _ => true) true 51 v d ps) :
  ∃ (a : Option Addr) (n c : Nat) (l : List X.Cel) (x y : Int) (hid : Bool), v = .agg #[.slice a n c, .int .i64 x, .int .i64 y, .bool hid] ∧ (n = 0 ∨ ∃ b off, a = some ⟨b, off, none⟩) ∧ X.Rd w a (X.flat l) ∧ l.length = n := by
 obtain ⟨u0, u1, u2, u3, rfl⟩ := agg4 Tryz.underlying51 (by kernel_rfl) hval
 obtain ⟨fuel, hf⟩ := hd
 obtain ⟨xs, m, _, _, _, hlx, hf⟩ := DataW.trod_struct Tryz.underlying51 hf
 have c1 : Tryz.prog.cellsOf 4 = 1 := by kernel_rfl
 have c2 : Tryz.prog.cellsOf 3 = 1 := by kernel_rfl
 have c3 : Tryz.prog.cellsOf 49 = 1 := by kernel_rfl
 have hlx4 : xs.length = 4 := hlx
 have k0 : DataW.trod enc Tryz.prog w base (fun _ => true) true m 49 (([u0, u1, u2, u3].drop 0).take (Tryz.prog.cellsOf 49)) = xs[0]? := hf 0 _ rfl
 have k1 : DataW.trod enc Tryz.prog w base (fun _ => true) true m 3 (([u0, u1, u2, u3].drop 1).take (Tryz.prog.cellsOf 3)) = xs[1]? := hf 1 _ rfl
 have k2 : DataW.trod enc Tryz.prog w base (fun _ => true) true m 3 (([u0, u1, u2, u3].drop 2).take (Tryz.prog.cellsOf 3)) = xs[2]? := hf 2 _ rfl
 have k3 : DataW.trod enc Tryz.prog w base (fun _ => true) true m 4 (([u0, u1, u2, u3].drop 3).take (Tryz.prog.cellsOf 4)) = xs[3]? := hf 3 _ rfl
 rw [c3] at k0
 rw [c2] at k1 k2
 rw [c1] at k3
 rw [List.getElem?_eq_getElem (by omega)] at k0 k1 k2 k3
 obtain ⟨a, n, c, l, e0, ha, hr, hn⟩ := qhk (v := u0) k0
 obtain ⟨x, a1, _⟩ := DataW.trod_int Tryz.underlying3 k1
 obtain ⟨y, a2, _⟩ := DataW.trod_int Tryz.underlying3 k2
 obtain ⟨z, a3, _⟩ := DataW.trod_bool Tryz.underlying4 k3
 have g1 := qax a1
 have g2 := qax a2
 have g3 := qax a3
 simp only [List.getElem?_cons_zero, List.getElem?_cons_succ, Option.some.injEq] at g1 g2 g3
 exact ⟨a, n, c, l, x, y, z, by rw [e0, g1, g2, g3], ha, hr, hn⟩
end
end Go.Proofs.YtjklgjjgndalcaaGreatDoor
