/- What the proof of RenderPaints needs, part 4: the walks of the program's functions and the plain laws about them. -/
import Derived.Test.YtjklgjjgndalcaaGreatDoorQD3
set_option linter.unusedSimpArgs false
set_option linter.unusedVariables false
set_option maxHeartbeats 4000000
namespace Go.Proofs.YtjklgjjgndalcaaGreatDoor.X
open Go Go.RowKit Go.Proofs.YtjklgjjgndalcaaGreatDoor
theorem up_lim {w : World} {t : Nat} {W H : Int} {T : TS} {F : Nat → Prop} (hA : TermAt w t T F) (hT : qI w) (hL : Lim W H T) : Calls Tryz.prog 84 [pX t].toArray w fun e w' => e = .returned (.tuple #[]) ∧ TermAt w' t (upT T) (more F w w') ∧ Ch F w w' :=
  up_at hA hT (by have := hL.cu; have := hL.hb; omega)
theorem esc_at {w : World} {t : Nat} {W H : Int} {T : TS} {F : Nat → Prop} (hA0 : TermAt w t T F) (hT : LT w) (hL : Lim W H T) {ao : Option Nat} {an cc : Nat} {ac : Ac} (hV : IntsAt w .i64 ao an cc ac.params (fun b => ¬ F b ∧ b < w.heap.size)) (hV8 : an ≤ 8) (hVb : ∀ x ∈ ac.params, 0 ≤ x ∧ x ≤ 9999) : Calls Tryz.prog 63 [pX t, .agg #[iX ac.kind, rX ac.rune, uX ac.last, .string ac.marks, .slice (ao.map at0) an cc, .string ac.text]].toArray w fun e w' => e = .returned (.tuple #[]) ∧ TermAt w' t (qem T ac) (more F w w') ∧ Ch F w w' := by
 have h := Sep.startT hA0; have hg := Gz.of hA0; have hM := hL; have P := hM.all; refine yA Tryz.func63 rfl <| ysr <| yo (zN [iX ac.kind, rX ac.rune, uX ac.last, .string ac.marks, .slice (ao.map at0) an cc, .string ac.text] 90 h fun u Q h => ?_); refine ye <| ys <| ysr <| yp 4 [] (.l (h.c 1 3) .z) <| yw [7] (rY ((ac.marks).toList == ((⟨#[40]⟩ : ByteArray)).toList)) (fun f => ?_) fun f => ?_
 ·have r := f; obtain ⟨s, v⟩ := mark40 f; refine yz 8 <| yct <| ys <| ysr <| yp 4 [] (.l (h.c 1 2) .z) <| yw [15] (rE ac.last 48) (fun j => ?_) fun j => ?_
  ·refine yz 8 <| yct <| zD [11] h fun u h => yd (uL 0 11) [4] (.l (h.c 1 3) (.i 0 ((ac.marks).size) (.p (q := InR .u8 ((bt ac.marks 0) - 40)) (in8 (by omega) (by omega)) (.l (h.c 1 2) (.i ((bt ac.marks 0) - 40) (2) .z))))) ?_; have hz : (((bt ac.marks 0) - 40) : Int).toNat = 0 := by omega
   refine yK 11 (zTi 0 ({ T with draw0 := ((ac.last : Int) == 48) } : TS) (92 + (((bt ac.marks 0) - 40) : Int).toNat * 1) [.bool ((ac.last : Int) == 48)] h (fun _ _ _ _ => by rw [hz]; kernel_rfl) fun u h => ?_); refine qa <| yDe (nS ?_); refine q8 (rS (yR0 ?_)); refine h.tfin hg ?_; simp only [qem, qan, *, ↓reduceIte, Int.reduceEq, Int.reduceLT, Int.reduceLE, sB]
  refine yp 8 [] (.l (h.c 1 2) .z) <| ye <| yc (rE ac.last 66) (fun d => ?_) fun d => ?_
  ·refine zD [11] h fun u h => yd (uL 0 11) [4] (.l (h.c 1 3) (.i 0 ((ac.marks).size) (.p (q := InR .u8 ((bt ac.marks 0) - 40)) (in8 (by omega) (by omega)) (.l (h.c 1 2) (.i ((bt ac.marks 0) - 40) (2) .z))))) ?_; have hz : (((bt ac.marks 0) - 40) : Int).toNat = 0 := by omega
   refine yK 11 (zTi 0 ({ T with draw0 := ((ac.last : Int) == 48) } : TS) (92 + (((bt ac.marks 0) - 40) : Int).toNat * 1) [.bool ((ac.last : Int) == 48)] h (fun _ _ _ _ => by rw [hz]; kernel_rfl) fun u h => ?_); refine qa <| yDe (nS ?_); refine q8 (rS (yR0 ?_)); refine h.tfin hg ?_; simp only [qem, qan, *, ↓reduceIte, Int.reduceEq, Int.reduceLT, Int.reduceLE, sB]
  refine yk <| q8 (rS (yR0 ?_)); refine h.tfin hg ?_; simp only [qem, qan, *, ↓reduceIte, Int.reduceEq, Int.reduceLT, Int.reduceLE, sB]
 have r := f; refine yp 8 [] (.l (h.c 1 3) .z) <| ye <| yc (rY ((ac.marks).toList == ((⟨#[41]⟩ : ByteArray)).toList)) (fun g => ?_) fun g => ?_
 ·have j := g; obtain ⟨s, v⟩ := mark41 g; refine ys <| ysr <| yp 4 [] (.l (h.c 1 2) .z) <| yw [15] (rE ac.last 48) (fun d => ?_) fun d => ?_
  ·refine yz 8 <| yct <| zD [11] h fun u h => yd (uL 0 11) [4] (.l (h.c 1 3) (.i 0 ((ac.marks).size) (.p (q := InR .u8 ((bt ac.marks 0) - 40)) (in8 (by omega) (by omega)) (.l (h.c 1 2) (.i ((bt ac.marks 0) - 40) (2) .z))))) ?_; have hz : (((bt ac.marks 0) - 40) : Int).toNat = 1 := by omega
   refine yK 11 (zTi 0 ({ T with draw1 := ((ac.last : Int) == 48) } : TS) (92 + (((bt ac.marks 0) - 40) : Int).toNat * 1) [.bool ((ac.last : Int) == 48)] h (fun _ _ _ _ => by rw [hz]; kernel_rfl) fun u h => ?_); refine qa <| yDe (nS ?_); refine q8 (rS (yR0 ?_)); refine h.tfin hg ?_; simp only [qem, qan, *, ↓reduceIte, Int.reduceEq, Int.reduceLT, Int.reduceLE, sB]
  refine yp 8 [] (.l (h.c 1 2) .z) <| ye <| yc (rE ac.last 66) (fun k => ?_) fun k => ?_
  ·refine zD [11] h fun u h => yd (uL 0 11) [4] (.l (h.c 1 3) (.i 0 ((ac.marks).size) (.p (q := InR .u8 ((bt ac.marks 0) - 40)) (in8 (by omega) (by omega)) (.l (h.c 1 2) (.i ((bt ac.marks 0) - 40) (2) .z))))) ?_; have hz : (((bt ac.marks 0) - 40) : Int).toNat = 1 := by omega
   refine yK 11 (zTi 0 ({ T with draw1 := ((ac.last : Int) == 48) } : TS) (92 + (((bt ac.marks 0) - 40) : Int).toNat * 1) [.bool ((ac.last : Int) == 48)] h (fun _ _ _ _ => by rw [hz]; kernel_rfl) fun u h => ?_); refine qa <| yDe (nS ?_); refine q8 (rS (yR0 ?_)); refine h.tfin hg ?_; simp only [qem, qan, *, ↓reduceIte, Int.reduceEq, Int.reduceLT, Int.reduceLE, sB]
  refine yk <| q8 (rS (yR0 ?_)); refine h.tfin hg ?_; simp only [qem, qan, *, ↓reduceIte, Int.reduceEq, Int.reduceLT, Int.reduceLE, sB]
 have j := g; refine yk <| ys <| ysr <| yp 3 [] (.l (h.c 1 3) .z) <| ye <| yc (rN (rY ((ac.marks).toList == (ByteArray.empty).toList))) (fun d => ?_) fun d => ?_
 ·refine q8 (rS (yR0 ?_)); refine h.tfin hg ?_; simp only [qem, qan, *, ↓reduceIte, Int.reduceEq, Int.reduceLT, Int.reduceLE, sB]
 refine yk <| ysr <| yp 2 [] (.l (h.c 1 2) .z) <| ye <| q9 <| yx 2 <| yc (rE ac.last 55) (fun k => ?_) fun k => ?_
 ·refine q7 <| yp 7 [] (.a (h.ts 0 2 8) .z) <| yo (zT 0 ({ T with saved := T.cursor } : TS) h fun u h => ?_); refine yE (nB (qA ?_)); refine h.tfin hg ?_; simp only [qem, qan, *, ↓reduceIte, Int.reduceEq, Int.reduceLT, Int.reduceLE, sB]
 refine yx 2 <| yc (rE ac.last 56) (fun A => ?_) fun A => ?_
 ·refine q7 <| yp 7 [] (.a (h.ts 0 10 8) .z) <| yo (zT 0 ({ T with cursor := T.saved } : TS) h fun u h => ?_); refine yE (nB (qA ?_)); refine h.tfin hg ?_; simp only [qem, qan, *, ↓reduceIte, Int.reduceEq, Int.reduceLT, Int.reduceLE, sB]
 refine yx 2 <| yc (rE ac.last 68) (fun B => ?_) fun B => ?_
 ·refine ysr <| yq 1 <| yo (yQ (h.met 0 fun F hA hF => qbG hA (h.tb hg hT.tb) hL  ) fun u h => ?_); refine ye <| q7 <| yq 4 ?_; have n : Lim W H (qay T) := (qaI hL)
  generalize C : (qay T) = T21 at h n; have D := n; have R := D.all; refine yo (zT 0 ({ T21 with cursor := (Cur.mk T21.cursor.x T21.cursor.y false T21.cursor.sty) } : TS) h fun u h => ?_); refine yE (nB (qA ?_)); subst C; refine h.tfin hg ?_; simp only [qem, qan, *, ↓reduceIte, Int.reduceEq, Int.reduceLT, Int.reduceLE, sB]
 refine yx 2 <| yc (rE ac.last 69) (fun E => ?_) fun E => ?_
 ·refine ysr <| yq 1 <| yo (yQ (h.met 0 fun F hA hF => qbG hA (h.tb hg hT.tb) hL  ) fun u h => ?_); refine ye <| q7 ?_; have m : Lim W H (qay T) := (qaI hL)
  generalize G : (qay T) = I at h m; have J := m; have S := J.all; refine yp 6 [] (.l (h.tc 0 3) .z) <| yo (yQ (h.met 0 fun F hA hF => qa1 hA (h.tb hg hT.tb) m  (0) (I.cursor.y)) fun u h => ?_); refine yE (nB (qA ?_)); subst G; refine h.tfin hg ?_; simp only [qem, qan, *, ↓reduceIte, Int.reduceEq, Int.reduceLT, Int.reduceLE, sB]
 refine yx 2 <| yc (rE ac.last 77) (fun K => ?_) fun K => ?_
 ·refine ysr <| yq 1 <| yo (yQ (h.met 0 fun F hA hF => up_lim hA (h.tb hg hT.tb) hL  ) fun u h => ?_); refine ye <| q7 <| yq 4 ?_; have o : Lim W H (upT T) := (lim_up hL)
  generalize L : (upT T) = T25 at h o; have M := o; have U := M.all; refine yo (zT 0 ({ T25 with cursor := (Cur.mk T25.cursor.x T25.cursor.y false T25.cursor.sty) } : TS) h fun u h => ?_); refine yE (nB (qA ?_)); subst L; refine h.tfin hg ?_; simp only [qem, qan, *, ↓reduceIte, Int.reduceEq, Int.reduceLT, Int.reduceLE, sB]
 refine yx 2 <| yc (rE ac.last 72) (fun N => ?_) fun N => ?_
 ·refine zD [9] h fun u h => yd (uL 0 9) [] (.l (h.tc 0 2) (.i T.cursor.x (60) .z)) <| yK 9 (zTi 0 ({ T with tabs := (fun i => if i = (T.cursor.x : Int).toNat then true else T.tabs i) } : TS) (28 + (T.cursor.x : Int).toNat * 1) [.bool true] h (fun _ _ _ _ => qeG T _ _ _ _ _ (by omega) _) fun u h => ?_); refine qa <| yDe (nB (qA ?_)); refine h.tfin hg ?_; simp only [qem, qan, *, ↓reduceIte, Int.reduceEq, Int.reduceLT, Int.reduceLE, sB]
 refine yx 2 <| yc (rE ac.last 99) (fun O => ?_) fun O => ?_
 ·obtain ⟨V, X, h⟩ := h.opn 0; refine zD [15] h fun u h => yd (uL 0 15) [] (.l (h.tg 0) (.l (h.gw 0).1 (.l (h.tg 0) (.l (h.gw 0).2 .z)))) <| yK 15 (yQ (h.met 0 fun F hA hF => start_at hA (h.lt hg hT) hL  (T.grid.w) (T.grid.h)) fun u h => ?_); refine qa <| yDe (nB (qA ?_)); refine h.tfin hg ?_; simp only [qem, qan, *, ↓reduceIte, Int.reduceEq, Int.reduceLT, Int.reduceLE, sB]
 refine qf (nB (qA ?_)); refine h.tfin hg ?_; simp only [qem, qan, *, ↓reduceIte, Int.reduceEq, Int.reduceLT, Int.reduceLE, sB]
theorem act_at {w : World} {t : Nat} {W H : Int} {T : TS} {F : Nat → Prop} (hA0 : TermAt w t T F) (hT : LT w) (hL : Lim W H T) {ao : Option Nat} {an cc : Nat} {ac : Ac} (hV : IntsAt w .i64 ao an cc ac.params (fun b => ¬ F b ∧ b < w.heap.size)) (hV8 : an ≤ 8) (hVb : ∀ x ∈ ac.params, 0 ≤ x ∧ x ≤ 9999) (hat : ac.text.size ≤ 1000) : Calls Tryz.prog 35 [pX t, .agg #[iX ac.kind, rX ac.rune, uX ac.last, .string ac.marks, .slice (ao.map at0) an cc, .string ac.text]].toArray w fun e w' => e = .returned (.tuple #[]) ∧ TermAt w' t (qcU T ac) (more F w w') ∧ Ch F w w' := by
 have h := Sep.startT hA0; have hg := Gz.of hA0; have hM := hL; have p := hM.all; refine yA Tryz.func35 rfl <| ysr <| yo (zN [iX ac.kind, rX ac.rune, uX ac.last, .string ac.marks, .slice (ao.map at0) an cc, .string ac.text] 90 h fun u q h => ?_); refine ye <| ysr <| yp 2 [] (.l (h.c 1 0) .z) <| ye <| q9 <| yx 2 <| yc (rE ac.kind 0) (fun d => ?_) fun d => ?_
 ·refine q7 <| yp 3 [] (.l (h.c 1 1) .z) <| yo (yQ (h.met 0 fun F hA hF => print_at hA (h.tb hg hT.tb) hL  (ac.rune)) fun u h => ?_); refine yE (nB (qA ?_)); refine h.tfin hg ?_; simp only [qcU, qio, d, ↓reduceIte, Int.reduceEq, Int.reduceLT, Int.reduceLE, sB]
 refine yx 2 <| yc (rE ac.kind 1) (fun f => ?_) fun f => ?_
 ·refine q7 <| yp 3 [] (.l (h.c 1 2) .z) <| yo (yQ (h.met 0 fun F hA hF => exec_at hA (h.tb hg hT.tb) hL  (ac.last)) fun u h => ?_); refine yE (nB (qA ?_)); refine h.tfin hg ?_; simp only [qcU, qio, d, f, ↓reduceIte, Int.reduceEq, Int.reduceLT, Int.reduceLE, sB]
 refine yx 2 <| yc (rE ac.kind 2) (fun g => ?_) fun g => ?_
 ·refine q7 <| yp 2 [] (.a (h.cs 1 0 6) .z) <| yo (yQ (h.met 0 fun F hA hF => esc_at hA (h.lt hg hT) hL  (h.intsF hV hF) hV8 hVb) fun u h => ?_); refine yE (nB (qA ?_)); refine h.tfin hg ?_; simp only [qcU, qio, d, f, g, ↓reduceIte, Int.reduceEq, Int.reduceLT, Int.reduceLE, sB]
 refine yx 2 <| yc (rE ac.kind 3) (fun i => ?_) fun i => ?_
 ·refine q7 <| yp 2 [] (.a (h.cs 1 0 6) .z) <| yo (yQ (h.met 0 fun F hA hF => csi_at hA (h.lt hg hT) hL  (h.intsF hV hF) hV8 hVb) fun u h => ?_); refine yE (nB (qA ?_)); refine h.tfin hg ?_; simp only [qcU, qio, d, f, g, i, ↓reduceIte, Int.reduceEq, Int.reduceLT, Int.reduceLE, sB]
 refine yx 2 <| yc (rE ac.kind 4) (fun k => ?_) fun k => ?_
 ·refine ysr <| yp 5 [] (.l (h.c 1 5) .z) <| yw [34] (rM 2 ((ac.text).size : Int)) (fun m => ?_) fun m => ?_
  ·refine yp 10 [] (.l (h.c 1 5) (.j 2 ((ac.text).size) .z)) <| yw [39] (rY ((((ac.text).extract 0 (2 : Int).toNat)).toList == ((⟨#[48, 59]⟩ : ByteArray)).toList)) (fun n => ?_) fun n => ?_
   ·refine yz 16 <| yct <| q7 <| yp 6 [] (.l (h.c 1 5) (.j 2 ((ac.text).size) .z)) <| yo (zT 0 ({ T with title := ((ac.text).extract (2 : Int).toNat (ac.text).size) } : TS) h fun u h => ?_); refine yE (nB (qA ?_)); refine h.tfin hg ?_; simp only [qcU, qio, d, f, g, i, k, m, n, ↓reduceIte, Int.reduceEq, Int.reduceLT, Int.reduceLE, sB]
   refine yp 16 [] (.l (h.c 1 5) (.j 2 ((ac.text).size) .z)) <| ye <| yc (rY ((((ac.text).extract 0 (2 : Int).toNat)).toList == ((⟨#[50, 59]⟩ : ByteArray)).toList)) (fun o => ?_) fun o => ?_
   ·refine q7 <| yp 6 [] (.l (h.c 1 5) (.j 2 ((ac.text).size) .z)) <| yo (zT 0 ({ T with title := ((ac.text).extract (2 : Int).toNat (ac.text).size) } : TS) h fun u h => ?_); refine yE (nB (qA ?_)); refine h.tfin hg ?_; simp only [qcU, qio, d, f, g, i, k, m, n, o, ↓reduceIte, Int.reduceEq, Int.reduceLT, Int.reduceLE, sB]
   refine qf (nB (qA ?_)); refine h.tfin hg ?_; simp only [qcU, qio, d, f, g, i, k, m, n, o, ↓reduceIte, Int.reduceEq, Int.reduceLT, Int.reduceLE, sB]
  refine yz 16 <| ycf <| qf (nB (qA ?_)); refine h.tfin hg ?_; simp only [qcU, qio, d, f, g, i, k, m, ↓reduceIte, Int.reduceEq, Int.reduceLT, Int.reduceLE, sB]
 refine qf (nB (qA ?_)); refine h.tfin hg ?_; simp only [qcU, qio, *, ↓reduceIte, Int.reduceEq, Int.reduceLT, Int.reduceLE, sB]
def qgr (T : TS) (c : Int) : TS := (qaz T.parser c).2.foldl qcU { T with parser := (qaz T.parser c).1 }
def qdM (T : TS) (s : ByteArray) : Nat → TS
 | 0 => T
 | k + 1 => qgr (qdM T s k) (bt s ((k : Nat) : Int))
def qjq (T : TS) (s : ByteArray) : TS := qdM T s s.size
structure AcOk (a : Ac) : Prop where
 n : a.params.length ≤ 8
 b : ∀ x ∈ a.params, 0 ≤ x ∧ x ≤ 9999
 t : a.text.size ≤ 40
theorem qcx {k r l : Int} {m u : ByteArray} (h : u.size ≤ 40) : AcOk ⟨k, r, l, m, [], u⟩ := ⟨by simp, (fun x hx => by cases hx), h⟩
theorem qaE (s : Int) : (atP s).lim := ⟨qhO, (by decide : (0 : Nat) ≤ 2), (by decide : (0 : Nat) ≤ 40), (by decide : (0 : Nat) ≤ 8), fun x hx => by cases hx⟩
def qeP (r : PS × List Ac) : Prop := r.1.lim ∧ ∀ a ∈ r.2, AcOk a
theorem qQ {p : PS} (h : p.lim) : qeP (p, []) := ⟨h, fun a ha => by cases ha⟩
theorem qcy {p : PS} {a : Ac} (h : p.lim) (ha : AcOk a) : qeP (p, [a]) := ⟨h, fun b hb => by obtain rfl := List.mem_singleton.1 hb; exact ha⟩
theorem qcz (l : List Int) : ∀ a ∈ l.map acP, AcOk a := fun a ha => by
 obtain ⟨r, _, rfl⟩ := List.mem_map.1 ha
 exact qcx (by decide)
theorem qgY {l m : List Ac} (h : ∀ a ∈ l, AcOk a) (h' : ∀ a ∈ m, AcOk a) : ∀ a ∈ l ++ m, AcOk a := fun a ha => (List.mem_append.1 ha).elim (h a) (h' a)
theorem ql {P : PS × List Ac → Prop} {c : Prop} [Decidable c] {a b : PS × List Ac} (h1 : c → P a) (h2 : ¬ c → P b) : P (if c then a else b) := by
 by_cases h : c
 ·rw [if_pos h]; exact h1 h
 ·rw [if_neg h]; exact h2 h
theorem qeq {p : PS} (h : p.lim) (s : Int) : qeP (qr p s) := qcy (qaE 0) (qcx h.t)
theorem qhY {p : PS} (h : p.lim) (c : Int) : qeP (qk p c) := by
 unfold qk
 refine ql (fun _ => qQ ?_) fun _ => ql (fun _ => qQ (qaE 3)) fun _ => ql (fun _ => qQ (qaE 5)) fun _ => ql (fun _ => qQ (qaE 6)) fun _ => qcy (qaE 0) (qcx (by decide))
 split
 ·exact ⟨h.u, by show (p.marks ++ qH [c]).size ≤ 2; rw [ByteArray.size_append, qao]; omega, h.t, h.n, h.b⟩
 ·exact ⟨h.u, h.m, h.t, h.n, h.b⟩
theorem qhZ {p : PS} (h : p.lim) (c : Int) : qeP (qD p c) := by
 unfold qD
 refine ql (fun _ => qQ ⟨h.u, h.m, h.t, h.n, h.b⟩) fun _ => ql (fun _ => qeq h 5) fun _ => ql (fun _ => qQ (qaE 0)) fun _ => ql (fun h3 => qQ ⟨h.u, h.m, ?_, h.n, h.b⟩) fun _ => qQ h
 show (p.text ++ qH [c]).size ≤ 40
 rw [ByteArray.size_append, qao]; omega
theorem someL_bd {l : List Int} (h : ∀ x ∈ l, 0 ≤ x ∧ x ≤ 9999) : ∀ x ∈ qal l, 0 ≤ x ∧ x ≤ 9999 := fun x hx => by
 unfold qal at hx
 split at hx
 ·simp at hx; omega
 ·exact h x hx
theorem fed_csi {p : PS} (h : p.lim) (c : Int) : qeP (qaJ p c) := by
 have h1 := qdC p.params
 have h2 := someL_bd h.b
 have h3 := qgU h.b
 have h4 := h.n
 unfold qaJ
 refine ql (fun hc => qQ ⟨h.u, h.m, h.t, ?_, ?_⟩) fun _ => ql (fun _ => qQ ?_) fun _ => ql (fun _ => ql (fun _ => qQ (qaE 0)) fun _ => qcy (qaE 0) ⟨h.n, h.b, (by decide : (0 : Nat) ≤ 40)⟩) fun _ => ql (fun _ => qQ ⟨h.u, h.m, h.t, h.n, h.b⟩) fun h5 => qQ ⟨h.u, ?_, h.t, h.n, h.b⟩
 ·show (qcR _ _).length ≤ 8
  unfold qcR; rw [List.length_set]; omega
 ·intro x hx
  have hx' : x ∈ (qal p.params).set ((qal p.params).length - 1) (min (10 * qdD (qal p.params) + (c - 48)) 9999) := hx
  rcases List.mem_or_eq_of_mem_set hx' with hx | rfl
  ·exact h2 x hx
  ·omega
 ·split
  ·refine ⟨h.u, h.m, h.t, ?_, ?_⟩
   ·show (qal p.params ++ [0]).length ≤ 8
    rw [List.length_append]; simp only [List.length_cons, List.length_nil]; omega
   ·intro x hx
    rcases List.mem_append.1 hx with hx | hx
    ·exact h2 x hx
    ·simp at hx; omega
  ·exact ⟨h.u, h.m, h.t, by show (qal p.params).length ≤ 8; omega, h2⟩
 ·show (p.marks ++ qH [c]).size ≤ 2
  have := h.m
  rw [ByteArray.size_append, qao]; omega
theorem qgZ {u : US} (h : u.ok) {c : Int} (hc : 0 ≤ c ∧ c ≤ 255) : (qbY u c).1.ok := by
 have hb : ∀ x ∈ u.pend ++ [c], 0 ≤ x ∧ x ≤ 255 := fun x hx => (List.mem_append.1 hx).elim (h.pend x) (fun h => by simp at h; omega)
 exact mkU_ok (fun x hx => qdE hb 4 x (List.mem_of_mem_take hx)) (by rw [List.length_take]; omega)
theorem qi0 {p : PS} (h : p.lim) {c : Int} (hc : 0 ≤ c ∧ c ≤ 255) : qeP (qE p c) := by
 unfold qE
 refine ql (fun _ => ql (fun _ => ⟨qaE 1, qcz _⟩) fun _ => ql (fun _ => ⟨⟨qhO, h.m, h.t, h.n, h.b⟩, qgY (qcz _) fun a ha => by obtain rfl := List.mem_singleton.1 ha; exact qcx (by decide)⟩) fun _ => ⟨⟨qgZ qhO hc, h.m, h.t, h.n, h.b⟩, qgY (qcz _) (qcz _)⟩) fun _ => ⟨⟨qgZ h.u hc, h.m, h.t, h.n, h.b⟩, qcz _⟩
theorem qfE {p : PS} (h : p.lim) {c : Int} (hc : 0 ≤ c ∧ c ≤ 255) : qeP (qag p c) := by
 unfold qag
 exact ql (fun _ => qi0 h hc) fun _ => ql (fun _ => qhZ h c) fun _ => ql (fun _ => qQ (qaE 0)) fun _ => ql (fun _ => qQ (qaE 1)) fun _ => ql (fun _ => qcy h (qcx (by decide))) fun _ => ql (fun _ => qQ h) fun _ => ql (fun _ => fed_csi h c) fun _ => qhY h c
theorem qh0 {p : PS} (h : p.lim) {c : Int} (hc : 0 ≤ c ∧ c ≤ 255) : qeP (qaz p c) := by
 unfold qaz
 exact ql (fun _ => ql (fun _ => qeq h _) fun _ => qfE (qaE 1) hc) fun _ => qfE h hc
theorem fed_len {p : PS} (h : p.lim) (c : Int) : (qaz p c).2.length ≤ 8 := by
 have hf : (qai p.utf).length ≤ 3 := by unfold qai; rw [List.length_replicate]; have := h.u.n; omega
 have hu := qcu h.u c
 have h0 := qcu qhO c
 have l1 : ∀ (q : PS) (s : Int), (qr q s).2.length ≤ 8 := fun _ _ => by simp [qr]
 have l2 : ∀ q : PS, (qk q c).2.length ≤ 8 := fun q => by
  unfold qk
  exact ql (P := fun r => r.2.length ≤ 8) (fun _ => by simp) fun _ => ql (P := fun r => r.2.length ≤ 8) (fun _ => by simp) fun _ => ql (P := fun r => r.2.length ≤ 8) (fun _ => by simp) fun _ => ql (P := fun r => r.2.length ≤ 8) (fun _ => by simp) fun _ => by simp
 have l3 : ∀ q : PS, (qD q c).2.length ≤ 8 := fun q => by
  unfold qD
  exact ql (P := fun r => r.2.length ≤ 8) (fun _ => by simp) fun _ => ql (P := fun r => r.2.length ≤ 8) (fun _ => l1 _ _) fun _ => ql (P := fun r => r.2.length ≤ 8) (fun _ => by simp) fun _ => ql (P := fun r => r.2.length ≤ 8) (fun _ => by simp) fun _ => by simp
 have l4 : ∀ q : PS, (qaJ q c).2.length ≤ 8 := fun q => by
  unfold qaJ
  exact ql (P := fun r => r.2.length ≤ 8) (fun _ => by simp) fun _ => ql (P := fun r => r.2.length ≤ 8) (fun _ => by simp) fun _ => ql (P := fun r => r.2.length ≤ 8) (fun _ => ql (P := fun r => r.2.length ≤ 8) (fun _ => by simp) fun _ => by simp) fun _ => ql (P := fun r => r.2.length ≤ 8) (fun _ => by simp) fun _ => by simp
 have l5 : (qE p c).2.length ≤ 8 := by
  unfold qE
  exact ql (P := fun r => r.2.length ≤ 8) (fun _ => ql (P := fun r => r.2.length ≤ 8) (fun _ => by simp; omega) fun _ => ql (P := fun r => r.2.length ≤ 8) (fun _ => by simp; omega) fun _ => by simp; omega) fun _ => by simp; omega
 have l6 : ∀ q : PS, (qE q c).2.length ≤ 8 → (qag q c).2.length ≤ 8 := fun q hq => by
  unfold qag
  exact ql (P := fun r => r.2.length ≤ 8) (fun _ => hq) fun _ => ql (P := fun r => r.2.length ≤ 8) (fun _ => l3 _) fun _ => ql (P := fun r => r.2.length ≤ 8) (fun _ => by simp) fun _ => ql (P := fun r => r.2.length ≤ 8) (fun _ => by simp) fun _ => ql (P := fun r => r.2.length ≤ 8) (fun _ => by simp) fun _ => ql (P := fun r => r.2.length ≤ 8) (fun _ => by simp) fun _ => ql (P := fun r => r.2.length ≤ 8) (fun _ => l4 _) fun _ => l2 _
 have l7 : (qE (atP 1) c).2.length ≤ 8 := by
  have hz : (qai (atP 1).utf).length ≤ 3 := by simp [qai, atP]
  have hv : (qbY (atP 1).utf c).2.length ≤ 4 := h0
  unfold qE
  exact ql (P := fun r => r.2.length ≤ 8) (fun _ => ql (P := fun r => r.2.length ≤ 8) (fun _ => by simp; omega) fun _ => ql (P := fun r => r.2.length ≤ 8) (fun _ => by simp; omega) fun _ => by simp; omega) fun _ => by simp; omega
 unfold qaz
 exact ql (P := fun r => r.2.length ≤ 8) (fun _ => ql (P := fun r => r.2.length ≤ 8) (fun _ => l1 _ _) fun _ => l6 _ l7) fun _ => l6 _ l5
theorem TermIn.newPs {w w' : World} {t g o : Nat} {ba : Option Addr} {bn bc : Nat} {pa : Option Addr} {pn pc : Nat} {T : TS} {F F1 F2 FB FP K : Nat → Prop} (h : TermIn w t g o ba bn bc pa pn pc T F F1 F2 FB FP) (hc : Ch (fun j => j = t) w w') {p' : PS} {po : Option Nat} {pn' pc' : Nat}
  (hb : Blk w' t (({ T with parser := p' } : TS).vals g o (.slice ba bn bc) (.slice (po.map at0) pn' pc')) qbD) (hp : IntsAt w' .i64 po pn' pc' p'.params K) (hK : ∀ b, po = some b → FP b ∨ (¬ F b ∧ gTop ≤ b)) :
  TermIn w' t g o ba bn bc (po.map at0) pn' pc' ({ T with parser := p' } : TS) (fun b => F b ∨ po = some b) F1 F2 FB (fun b => FP b ∨ po = some b) := by
 obtain ⟨rows, hL, hl⟩ := h.bk
 have key : ∀ (X : Nat → Prop), (∀ b, X b → F b) → (∀ b, X b → ¬ FP b) → ∀ b, X b → ¬ (FP b ∨ po = some b) := fun X h1 h2 b hx hy => hy.elim (h2 b hx) fun e => (hK b e).elim (h2 b hx) fun h3 => h3.1 (h1 b hx)
 exact
 {blk := hb
  g1 := h.g1.ch hc fun b hb e => h.t1 (e ▸ hb)
  g2 := h.g2.ch hc fun b hb e => h.t2 (e ▸ hb)
  bk := ⟨rows, hL.ch hc fun b hb e => h.tB (e ▸ hb), hl⟩
  bcap := h.bcap
  ps := ⟨hp.1, hp.2.1, (fun e => hp.2.2.1 (by cases po <;> simp_all)), fun ad e => by
   cases po with
   | none => cases e
   | some b => cases e; exact .inr rfl⟩
  pz := ⟨po, rfl⟩
  bz := h.bz
  t1 := h.t1, t2 := h.t2, tB := h.tB
  tP := key (fun b => b = t) (fun b e => e ▸ h.inF.1) (fun b e => e ▸ h.tP) t rfl
  a12 := h.a12, a1B := h.a1B, a2B := h.a2B
  a1P := key F1 h.inF.2.1 h.a1P
  a2P := key F2 h.inF.2.2.1 h.a2P
  inF := ⟨.inl h.inF.1, fun b hb => .inl (h.inF.2.1 b hb), fun b hb => .inl (h.inF.2.2.1 b hb), fun b hb => .inl (h.inF.2.2.2.1 b hb), fun b hb => hb.imp (h.inF.2.2.2.2 b) id⟩
  lt := fun b hb => hb.elim (fun hb => Nat.lt_of_lt_of_le (h.lt b hb) hc.size) fun e => (hp.2.2.2 b e).2
  hi := fun b hb => hb.elim (h.hi b) fun e => (hK b e).elim (fun hb => h.hi b (h.inF.2.2.2.2 b hb)) fun h3 => h3.2 }
theorem TermIn.ints {w : World} {t g o : Nat} {ba : Option Addr} {bn bc : Nat} {pa : Option Addr} {pn pc : Nat} {T : TS} {F F1 F2 FB FP : Nat → Prop} (h : TermIn w t g o ba bn bc pa pn pc T F F1 F2 FB FP) :
  ∃ po : Option Nat, pa = po.map at0 ∧ IntsAt w .i64 po pn pc T.parser.params (fun b => po = some b) ∧ ∀ b, po = some b → FP b := by
 obtain ⟨po, rfl⟩ := h.pz
 have hf : ∀ b, po = some b → FP b := fun b e => by subst e; exact h.ps.2.2.2 _ rfl
 refine ⟨po, rfl, ⟨h.ps.1, h.ps.2.1, fun e => h.ps.2.2.1 (by rw [e]; rfl), fun b e => ⟨e, h.lt b (h.inF.2.2.2.2 b (hf b e))⟩⟩, hf⟩
theorem ActsAt.at {w : World} {b n c : Nat} {l : List Ac} {K : Nat → Prop} (h : ActsAt w (some b) n c l K) {j : Nat} (hj : j < n) : ∃ ac ao an cc, l[j]? = some ac ∧ IntsAt w .i64 ao an cc ac.params K ∧
  w.cell? ⟨b, (0 + ((j : Nat) : Int).toNat * 6), none⟩ = some (.int .i64 ac.kind) ∧ w.cell? ⟨b, (0 + ((j : Nat) : Int).toNat * 6) + 1, none⟩ = some (.int .i32 ac.rune) ∧ w.cell? ⟨b, (0 + ((j : Nat) : Int).toNat * 6) + 2, none⟩ = some (.int .u8 ac.last) ∧
  w.cell? ⟨b, (0 + ((j : Nat) : Int).toNat * 6) + 3, none⟩ = some (.string ac.marks) ∧ w.cell? ⟨b, (0 + ((j : Nat) : Int).toNat * 6) + 4, none⟩ = some (.slice (ao.map at0) an cc) ∧ w.cell? ⟨b, (0 + ((j : Nat) : Int).toNat * 6) + 5, none⟩ = some (.string ac.text) := by
 obtain ⟨vss, h1, h2, h3⟩ := h.ex
 have hl := h.len
 have hj1 : j < l.length := by omega
 have hj2 : j < vss.length := by omega
 obtain ⟨ao, an, cc, e, hv⟩ := h3 j hj1 hj2
 have h6 : ∀ v ∈ vss, v.length = 6 := fun v hv => by
  obtain ⟨i, hi, rfl⟩ := List.getElem_of_mem hv
  exact (h3 i (by omega) hi).len
 have key : ∀ k, k < 6 → ∀ v, (l[j].vals (.slice (ao.map at0) an cc))[k]? = some v → w.cell? ⟨b, 0 + (j * 6 + k), none⟩ = some v := fun k hk v hv => qbk h1.rd _ _ (by rw [qhK h6 hj2 hk, e]; exact hv)
 refine ⟨l[j], ao, an, cc, List.getElem?_eq_getElem hj1, hv, ?_⟩
 rw [Int.toNat_natCast, Nat.zero_add]
 have k0 := key 0 (by decide) _ rfl
 have k1 := key 1 (by decide) _ rfl
 have k2 := key 2 (by decide) _ rfl
 have k3 := key 3 (by decide) _ rfl
 have k4 := key 4 (by decide) _ rfl
 have k5 := key 5 (by decide) _ rfl
 simp only [Nat.zero_add, Nat.add_zero] at k0 k1 k2 k3 k4 k5
 exact ⟨k0, k1, k2, k3, k4, k5⟩
theorem qjr {l : List Ac} {j : Nat} {ac : Ac} (h : l[j]? = some ac) (T : TS) : (l.take (j + 1)).foldl qcU T = qcU ((l.take j).foldl qcU T) ac := by
 obtain ⟨hj, rfl⟩ := List.getElem?_eq_some_iff.1 h
 rw [List.take_succ_eq_append_getElem hj, List.foldl_append]
 rfl
theorem qjs {F F2 : Nat → Prop} {w u v : World} (h : ∀ b, F2 b → more F w u b) (h1 : w.heap.size ≤ u.heap.size) (h2 : u.heap.size ≤ v.heap.size) : ∀ b, more F2 u v b → more F w v b := fun b hb => hb.elim (fun hb => (h b hb).imp id fun h => ⟨h.1, by omega⟩) fun hb => .inr ⟨by omega, hb.2⟩
theorem ch_in {F F2 : Nat → Prop} {w u v : World} (hc : Ch F w u) (h : ∀ b, F2 b → more F w u b) (hc2 : Ch F2 u v) : Ch F w v := hc.trans hc2 fun i hi h2 => (h i h2).elim id fun h => by omega
theorem qeQ {W H : Int} {T : TS} (h : Lim W H T) (l : List Ac) : Lim W H (l.foldl qcU T) := by
 induction l generalizing T with
 | nil => exact h
 | cons a l ih => exact ih (qjl h a)
theorem qer {W H : Int} {T : TS} (h : Lim W H T) (p : PS) : Lim W H { T with parser := p } := h.flags rfl rfl rfl rfl rfl rfl rfl rfl rfl
theorem lim_feed {W H : Int} {T : TS} (h : Lim W H T) (c : Int) : Lim W H (qgr T c) := qeQ (qer h _) _
theorem qjt {W H : Int} {T : TS} (h : Lim W H T) (s : ByteArray) (k : Nat) : Lim W H (qdM T s k) := by
 induction k with
 | zero => exact h
 | succ k ih => exact lim_feed ih _
theorem qx {c : Prop} [Decidable c] {a b : TS} {p : PS} (h1 : a.parser = p) (h2 : b.parser = p) : (if c then a else b).parser = p := by
 split <;> assumption
theorem qfF (T : TS) (n : Int) : (qaT T n).parser = T.parser := qx rfl rfl
theorem qeR (T : TS) (x y : Int) : (qdc T x y).parser = T.parser := qx rfl rfl
theorem qcj (T : TS) : (qay T).parser = T.parser := qx (qfF T 1) (qx rfl rfl)
theorem upT_p (T : TS) : (upT T).parser = T.parser := qx rfl (qx rfl rfl)
theorem printT_p (T : TS) (r : Int) : (qdB T r).parser = T.parser := by
 have hA : ∀ T, (qbX T).parser = T.parser := fun T => qx (qcj _) rfl
 have hB : ∀ T n, (qbw T n).parser = T.parser := fun T n => qx (qx (qcj _) rfl) rfl
 have hC : ∀ T n, (qbL T n).parser = T.parser := fun T n => qx rfl rfl
 have hE : ∀ T n, (qec T n).parser = T.parser := fun T n => qx rfl rfl
 unfold qdB
 rw [hE]
 exact (hC _ _).trans ((hB _ _).trans (hA _))
theorem execT_p (T : TS) (c : Int) : (qcg T c).parser = T.parser :=
 qx rfl (qx rfl (qx (qcj T) (qx (qcj T) (qx (qcj T) (qx rfl (qx rfl (qx rfl rfl)))))))
theorem escT_p (T : TS) (a : Ac) : (qem T a).parser = T.parser :=
 qx (qx rfl rfl) (qx (qx rfl rfl) (qx rfl (qx rfl (qx rfl (qx (qcj T) (qx (qcj T) (qx (upT_p T) (qx rfl (qx rfl rfl)))))))))
theorem qeS (T : TS) (s : ByteArray) : (qcv T s).parser = T.parser := qx rfl rfl
theorem tellT_p (T : TS) (c k : Int) : (qbP T c k).parser = T.parser := qx rfl (qx rfl (qx rfl (qx (qeS _ _) (qx (qeS _ _) (qx (qeS _ _) rfl)))))
theorem eraseN_p (T : TS) (k x y : Int) (s : Sty) (a : Int) (j : Nat) : (qd7 T k x y s a j).parser = T.parser := by
 induction j with
 | zero => rfl
 | succ j ih => exact (qx rfl (qx rfl (qx rfl rfl)) : (qaq (qd7 T k x y s a j) k x y s (a + (j : Int))).parser = _).trans ih
theorem qeT (T : TS) (k a b : Int) : (qel T k a b).parser = T.parser := eraseN_p _ _ _ _ _ _ _
theorem editT_p (T : TS) (c n : Int) (l : List Int) : (qaw T c n l).parser = T.parser :=
 qx rfl (qx rfl (qx rfl (qx (qeT _ _ _ _) (qx (qx (qeT _ _ _ _) (qeT _ _ _ _)) (qx (qx rfl rfl) (qx (qx rfl rfl) (qx (qfF _ _) (qx rfl (tellT_p _ _ _)))))))))
theorem plainT_p (T : TS) (c : Int) (l : List Int) : (qY T c l).parser = T.parser :=
 qx rfl (qx rfl (qx rfl (qx rfl (qx rfl (qx (qeR _ _ _) (qx (qeR _ _ _) (qx rfl (qx (qx (qeR _ _ _) rfl) (editT_p _ _ _ _)))))))))
theorem turnT_p (T : TS) (b : Bool) : (qji T b).parser = T.parser := qx rfl (qx rfl rfl)
theorem modeT_p (T : TS) (n : Int) (b : Bool) : (qaA T n b).parser = T.parser := qx (qeR _ _ _) (qx rfl (qx rfl (qx (turnT_p _ _) rfl)))
theorem modes_p (T : TS) (l : List Int) (b : Bool) : (l.foldl (fun T n => qaA T n b) T).parser = T.parser := by
 induction l generalizing T with
 | nil => rfl
 | cons n l ih => exact (ih _).trans (modeT_p _ _ _)
theorem csiT_p (T : TS) (a : Ac) : (qin T a).parser = T.parser := qx (plainT_p _ _ _) (qx (modes_p _ _ _) rfl)
theorem actT_p (T : TS) (a : Ac) : (qcU T a).parser = T.parser := qx (printT_p _ _) (qx (execT_p _ _) (qx (escT_p _ _) (qx (csiT_p _ _) (qx (qx rfl rfl) rfl))))
theorem acts_p (T : TS) (l : List Ac) : (l.foldl qcU T).parser = T.parser := by
 induction l generalizing T with
 | nil => rfl
 | cons a l ih => exact (ih _).trans (actT_p _ _)
theorem feedT_p (T : TS) (c : Int) : (qgr T c).parser = (qaz T.parser c).1 := acts_p _ _
theorem qi1 {T : TS} (h : T.parser.lim) (s : ByteArray) (k : Nat) : (qdM T s k).parser.lim := by
 induction k with
 | zero => exact h
 | succ k ih => exact (feedT_p _ _) ▸ (qh0 ih (qcl s _)).1
def zeroT : TS := { grid := ⟨0, 0, []⟩, other := ⟨0, 0, []⟩, cursor := cur0, saved := cur0, away := cur0, top := 0, bot := 0, tabs := fun _ => false, wrap := false, origin := false, insert := false, hidden := false, draw0 := false, draw1 := false, shift := false, alt := false, title := ByteArray.empty, back := [], parser := ⟨0, ⟨0, 0, 0, 0⟩, ByteArray.empty, [], ByteArray.empty, 0⟩, reply := ByteArray.empty }
theorem qh1 (p1 p2 : Int) (w : World) (hT : LT w) (h7 : gTop ≤ w.heap.size) : Calls Tryz.prog 10 [iX p1, iX p2].toArray w fun e w' => ∃ t, e = .returned (pX t) ∧ TermAt w' t (startT zeroT p1 p2) (fun b => w.heap.size ≤ b ∧ b < w'.heap.size) ∧ Ch (fun _ => False) w w' := by
 refine yA Tryz.func10 rfl <| yx 1 <| ysr <| yq 1 <| yo (yN [.pointer none, .pointer none, iX 0, iX 0, .bool false, .bool false, .bool false, .bool false, iX 0, iX 0, iX 0, iX 0, .bool false, .bool false, .bool false, .bool false, iX 0, iX 0, iX 0, iX 0, .bool false, .bool false, .bool false, .bool false, iX 0, iX 0, iX 0, iX 0, .bool false, .bool false, .bool false, .bool false, .bool false, .bool false, .bool false, .bool false, .bool false, .bool false, .bool false, .bool false, .bool false, .bool false, .bool false, .bool false, .bool false, .bool false, .bool false, .bool false, .bool false, .bool false, .bool false, .bool false, .bool false, .bool false, .bool false, .bool false, .bool false, .bool false, .bool false, .bool false, .bool false, .bool false, .bool false, .bool false, .bool false, .bool false, .bool false, .bool false, .bool false, .bool false, .bool false, .bool false, .bool false, .bool false, .bool false, .bool false, .bool false, .bool false, .bool false, .bool false, .bool false, .bool false, .bool false, .bool false, .bool false, .bool false, .bool false, .bool false, .bool false, .bool false, .bool false, .bool false, .bool false, .bool false, .bool false, .bool false, oX, nX, iX 0, uX 0, uX 0, uX 0, iX 0, oX, nX, oX, iX 0, oX] 46 fun d a j p k l => ?_); have q := zn j (zm w); have c := zu (zm w) l iZ; refine yz 3 <| ysr <| yq 3 ?_; have f : Blk d a (zeroT.valsG (.pointer none) (.pointer none) (nX) (nX)) qbD := Blk.to k (by kernel_rfl); have r := zzs c
 have m : PsAt d a none 0 0 zeroT.parser.params (fun _ => False) := ⟨⟨Rd.nil _ _, rfl, fun _ => rfl, fun ad e => by cases e⟩, ⟨none, rfl⟩, fun b h => h.elim⟩
 have n := qJ (Up.ch c) hT (fun _ h => h.elim); refine yo (yQ (qfD f m (by omega) n (by decide) p1 p2) ?_); rintro s ⟨o, g⟩; refine ye <| yx 2 <| q8 (yR1 (pX a) ?_); refine ⟨a, rfl, TermAt.mono o (fun b hb => ?_) (fun b hb => ⟨hb.2, by omega⟩), zt (Up.ch c) g (fun i hi h => ?_)⟩
 ·have hz := zzs g; rcases hb with rfl | hb | hb
  ·exact ⟨by omega, by have := f.lt; omega⟩
  ·exact hb.elim
  exact ⟨by omega, hb.2⟩
 rcases h with rfl | h
 ·omega
 exact h
theorem qju {X : PS × List Ac} {w : World} {po : Option Nat} {pn pc : Nat} {p : PS} {c : Int} (hX : qaz p c = X) (hP : IntsAt w .i64 po pn pc p.params (fun b => po = some b)) (hcB : 0 ≤ c ∧ c ≤ 255) (hU : qcr w) (hp : p.lim) (hn8 : pn ≤ 8) : Calls Tryz.prog 34 [.agg #[iX p.state, uX p.utf.b0, uX p.utf.b1, uX p.utf.b2, iX p.utf.n, .string p.marks, .slice (po.map at0) pn pc, .string p.text, iX p.within], uX c].toArray w fun e w' => Fed w w' e po X.1 X.2 := by
 subst hX; exact feed_any hP c hcB hU hp hn8
theorem write_at {w : World} {t : Nat} {W H : Int} {T : TS} {F : Nat → Prop} (hA0 : TermAt w t T F) (hT : LT w) (hL : Lim W H T) (hp : T.parser.lim) (s : ByteArray) (hs : s.size ≤ 1000000) : Calls Tryz.prog 13 [pX t, .string s].toArray w fun e w' => e = .returned (.tuple #[]) ∧ TermAt w' t (qjq T s) (more F w w') ∧ Ch F w w' := by
 obtain ⟨g, o, ba, bn, bc, pa, pn, pc, F1, r, FB, FP, hI⟩ := hA0; have hA0 : TermAt w t T F := ⟨g, o, ba, bn, bc, pa, pn, pc, F1, r, FB, FP, hI⟩
 have l := hI.inF.1; obtain ⟨gv, cA⟩ := hI.g1.head; have cB : Df t g := fun e => hI.t1 (e ▸ hI.g1.inF); obtain ⟨⟨cC, cD⟩, ⟨cE, cF⟩, cG, cH⟩ := hI.g1.ok; have bf := hL; have cI := bf.all; refine yA Tryz.func13 rfl <| yx 3 <| q9 ?_; have az := hI.cht (Ch.refl (· = t) w); have bg := hI.pk1 hI az; refine qP [0, 1, 9, 10] (f' := [(0, pX t), (1, .string s), (9, iX ((s).size : Int)), (10, iX 0)]) <| qz (σ := Nat) (fun k => [(0, pX t), (1, .string s), (9, iX ((s).size : Int)), (10, iX ((k : Nat) : Int))]) (fun k u => k ≤ s.size ∧ (TermAt u t (qdM T s k) (more F w u) ∧ Ch F w u)) (fun k => s.size - k) 0 rfl ?_ ?_
 ·exact ⟨Nat.zero_le _, (TermAt.eq' bg rfl), az⟩
 intro k ah bh cJ aA; obtain ⟨hk, aB, ai⟩ := bh; have bi := qJ ai hT (fun b hb => hI.hi b hb); have aj : Lim W H (qdM T s k) := (qjt hL s k)
 generalize U : (qdM T s k) = y at aB aj; have bj := aj; have cK := bj.all; obtain ⟨ak, bk, bl, bm, bo, cL, cM, cN, cO, cP, cQ, cR, C⟩ := aB; obtain ⟨cS, cT⟩ := C.g1.head; have cU : Df t ak := fun e => C.t1 (e ▸ C.g1.inF); obtain ⟨bp, bq, br, V⟩ := C.ints; subst bq; refine yx 1 <| ys <| yc (rL ((k : Nat) : Int) ((s).size : Int)) (fun bs => ?_) fun bs => ?_
 ·refine yk <| ys <| q9 <| yx 2 <| yx 1 <| ys <| yD [8, 14] fun D cV Y => ?_; have N := zt (Ch.refl (· = t) ah) Y eZ; have aC := qJ Y bi (fun _ h => h.elim); have Z := C.blk.ch Y id; have aD := br.ch Y iZ; refine yd (uL 0 8) [] (.a (Z.cs 98 9) (.i ((k : Nat) : Int) ((s).size) .z)) ?_; have cW := C.scalar (T' := y) N Z rfl rfl rfl rfl; have aE := C.scalar (T' := y) N Z rfl rfl rfl rfl; have O := Ch.on ai N l; have cX := aE.pk2 N hI O; have bu := aE.mono (F' := more F w D) (fun b hb => hb.elim .inl (fun x => .inr ⟨x.1, by have := zzs N; omega⟩)) (hI.moreOk O.size); obtain ⟨d, a0⟩ : ∃ X, qaz y.parser (bt s ((k : Nat) : Int)) = X := ⟨_, rfl⟩
  have a1 : (y.parser).lim := (U ▸ qi1 hp s k)
  have aF := qh0 a1 (qcl s ((k : Nat) : Int)); have bv := fed_len a1 (bt s ((k : Nat) : Int)); rw [a0] at aF bv; refine yK 8 (yC ((qju a0 (p := y.parser) aD (qcl s _) aC.ut a1 (by have := a1.n; have := aD.2.1; omega))) ?_); rintro _ al ⟨E, aG, aH, bw, c, a2, rfl, aI, bx, P⟩; refine ⟨_, rfl, ?_⟩; have cY := zzs P; have bz := qJ P aC (fun _ h => h.elim); have bA := Z.ch P id; refine qa <| yd (uL 9 5) [] .z ?_; have a3 := bu.same P iZ; refine yK 14 (qR 98 [iX d.1.state, uX d.1.utf.b0, uX d.1.utf.b1, uX d.1.utf.b2, iX d.1.utf.n, .string d.1.marks, .slice (E.map at0) aG aH, .string d.1.text, iX d.1.within] none (by kernel_rfl) bA (qaM (by kernel_rfl)) ?_); intro q am A; replace am : Blk q t (TS.vals ({ y with parser := d.1 } : TS) ak bk (.slice bl bm bo) (.slice (E.map at0) aG aH)) qbD := Blk.to am (by kernel_rfl); have ap : ∀ b, E = some b → bp = some b ∨ (D.heap.size ≤ b ∧ b < al.heap.size) := fun b e => (aI.2.2.2 b e).1; have G : ∀ b, more F w D b → b < D.heap.size ∧ gTop ≤ b := hI.moreOk O.size; have cZ : ∀ b, E = some b → ¬ b = t := fun b e h => (ap b e).elim (fun x => a3.tP (h ▸ V b x)) (fun x => by have := (G t (.inl l)).1; omega); have bB := aI.ch A (fun b hb (h : b = t) => hb.elim (fun x => a3.tP (h ▸ V b x)) (fun x => by have := (G t (.inl l)).1; omega)); have f := a3.newPs A (p' := d.1) am bB (fun b e => (ap b e).imp (fun h => V b h) (fun h => ⟨fun x => by have := (G b x).1; omega, by have := (G t (.inl l)).2; have := (G t (.inl l)).1; omega⟩))
  obtain ⟨r, aq⟩ : ∃ F' : Nat → Prop, F' = fun b => more F w D b ∨ E = some b := ⟨_, rfl⟩
  rw [← aq] at f; have a4 : ∀ b, r b → more F w q b := fun b hb => by
   rw [aq] at hb; rcases hb with hb | hb
   ·exact hb.imp id fun h => ⟨h.1, by have := zzs A; omega⟩
   rcases ap b hb with h | h
   ·exact (a3.inF.2.2.2.2 b (V b h)).imp id fun h => ⟨h.1, by have := zzs A; omega⟩
   exact .inr ⟨by have := zzs O; omega, by have := zzs A; omega⟩
  have J : Ch F w q := zt (zt O P eZ) A (fun i _ h => h ▸ l); have ar : ∀ b, ((D.heap.size ≤ b ∧ b < al.heap.size) ∧ E ≠ some b) → b < q.heap.size := fun b hb => by have := zzs A; omega
  have aJ : ∀ b, ((D.heap.size ≤ b ∧ b < al.heap.size) ∧ E ≠ some b) → ¬ r b := fun b hb h => by
   rw [aq] at h; rcases h with h | h
   ·have := (G b h).1; omega
   exact hb.2 h
  have bC := qJ A bz (fun b (h : b = t) => h ▸ hI.hi t l); have a5 := bx.ch A (fun b hb (h : b = t) => by have := (G t (.inl l)).1; omega); have Q : r t := f.inF.1; have aK : TermAt q t ({ y with parser := d.1 } : TS) r := ⟨_, _, _, _, _, _, _, _, _, _, _, _, f⟩
  have au : Lim W H ({ y with parser := d.1 } : TS) := qer aj _; generalize aL : ({ y with parser := d.1 } : TS) = T68 at f aK au; obtain ⟨d0, d1⟩ := f.g1.head; have d2 : Df t ak := fun e => f.t1 (e ▸ f.g1.inF); refine qa <| yd [15] [] .z <| yDe (nS ?_); refine yx 3 <| q9 ?_; rcases bw with _ | ab
  ·have av : d.2.length = c := a5.len; have d3 : c = 0 := by
    obtain ⟨d4, h1, x, h3⟩ := a5.ex; exact (h1.2.2.2.1 rfl).1
   have aM := f.cht (Ch.refl (· = t) q); have bE := f.pk1 f aM; refine qP [0, 1, 9, 10, 27, 28, 29] (f' := [(0, pX t), (1, .string s), (9, iX ((s).size : Int)), (10, iX ((k : Nat) : Int)), (27, .slice none c a2), (28, iX ((c : Nat) : Int)), (29, iX 0)]) <| qz (σ := Nat) (fun j => [(0, pX t), (1, .string s), (9, iX ((s).size : Int)), (10, iX ((k : Nat) : Int)), (27, .slice none c a2), (28, iX ((c : Nat) : Int)), (29, iX ((j : Nat) : Int))]) (fun j v => j ≤ c ∧ (TermAt v t ((d.2.take j).foldl qcU T68) (more r q v) ∧ Ch r q v)) (fun j => c - j) 0 rfl ?_ ?_
   ·exact ⟨Nat.zero_le _, (TermAt.eq' bE rfl), aM⟩
   intro j a6 bF d6 d7; obtain ⟨hj, aN, bG⟩ := bF; have aw : Lim W H ((d.2.take j).foldl qcU T68) := (qeQ au _)
   generalize bH : ((d.2.take j).foldl qcU T68) = T83 at aN aw; have bI := aw; have d8 := bI.all; obtain ⟨bJ, d9, da, db, dc, dd, de, df, dg, dh, di, dj, a7⟩ := aN; obtain ⟨dk, dl⟩ := a7.g1.head; have dm : Df t bJ := fun e => a7.t1 (e ▸ a7.g1.inF); refine yx 1 <| ys <| yc (rL ((j : Nat) : Int) ((c : Nat) : Int)) (fun bK => ?_) fun bK => ?_
   ·exfalso; omega
   have ax : j = c := by omega
   have a8 := Ch.on bG (Ch.refl (· = t) a6) Q; have bL := a7.pk2 (Ch.refl (· = t) a6) f a8; have aO := bL.mono (qjs a4 (zzs J) (zzs a8)) (hI.moreOk (Nat.le_trans (zzs J) (zzs a8))); have bM := ch_in J a4 a8; have aP : Lim W H T83 := aw; generalize bN : T83 = T92 at aO aP; have bO := aP; have dn := bO.all; obtain ⟨bP, dp, dq, dr, ds, dt, du, dv, dw, dx, dy, dz, a9⟩ := aO; obtain ⟨dA, dB⟩ := a9.g1.head; have dC : Df t bP := fun e => a9.t1 (e ▸ a9.g1.inF); refine qp (eS (qd (qb (nB (nS ?_))))); refine q7 <| yp 2 [] (.q6 (((k : Nat) : Int) + 1) .z) ?_; have aQ := Ch.on bM (Ch.refl (· = t) a6) l; have bQ := a9.pk2 (Ch.refl (· = t) a6) hI aQ; refine yE (fun a ha => aA (k + 1) _ ⟨(by omega), (TermAt.eq' bQ (by subst bN; subst bH; subst aL; subst U; show qgr _ _ = _; unfold qgr; rw [a0, ax, ← av, List.take_length])), aQ⟩ (by show s.size - (k + 1) < s.size - k; omega) a (ha.kp [0, 1, 9, 10]))
  have av : d.2.length = c := a5.len; have aR := f.cht (Ch.refl (· = t) q); have bR := f.pk1 f aR; refine qP [0, 1, 9, 10, 27, 28, 29] (f' := [(0, pX t), (1, .string s), (9, iX ((s).size : Int)), (10, iX ((k : Nat) : Int)), (27, .slice (some ⟨ab, 0, none⟩) c a2), (28, iX ((c : Nat) : Int)), (29, iX 0)]) <| qz (σ := Nat) (fun j => [(0, pX t), (1, .string s), (9, iX ((s).size : Int)), (10, iX ((k : Nat) : Int)), (27, .slice (some ⟨ab, 0, none⟩) c a2), (28, iX ((c : Nat) : Int)), (29, iX ((j : Nat) : Int))]) (fun j v => j ≤ c ∧ (TermAt v t ((d.2.take j).foldl qcU T68) (more r q v) ∧ Ch r q v)) (fun j => c - j) 0 rfl ?_ ?_
  ·exact ⟨Nat.zero_le _, (TermAt.eq' bR rfl), aR⟩
  intro j I bS dD bT; obtain ⟨hj, aS, K⟩ := bS; have bU := qJ K bC (fun b hb => f.hi b hb); have bV := a5.ch K (fun b hb h => aJ b hb h); have R : Lim W H ((d.2.take j).foldl qcU T68) := (qeQ au _)
  generalize aT : ((d.2.take j).foldl qcU T68) = L at aS R; have bW := R; have dE := bW.all; obtain ⟨bX, dF, dG, dH, dI, dJ, dK, dL, dM, dN, dO, dP, B⟩ := aS; obtain ⟨dQ, dR⟩ := B.g1.head; have dS : Df t bX := fun e => B.t1 (e ▸ B.g1.inF); refine yx 1 <| ys <| yc (rL ((j : Nat) : Int) ((c : Nat) : Int)) (fun bY => ?_) fun bY => ?_
  ·obtain ⟨ac, ao, an, cc, aU, bZ, c0, c1, c2, c3, c4, c5⟩ := bV.at (j := j) (by omega); have ay := aF.2 ac (List.mem_of_getElem? aU); refine yk <| ys <| q9 <| ysr <| yp 2 [] (.i ((j : Nat) : Int) (c) (.m c0 (.m c1 (.m c2 (.m c3 (.m c4 (.m c5 (.e .z)))))))) <| yo (yN [iX 0, rX 0, uX 0, oX, nX, oX] 90 fun dT S c6 dU c7 aa => ?_); have dV : I.heap.size ≤ S := by rw [c6]; exact zzs (Ch.refl (· = t) I)
   have c8 := zt (Ch.refl (· = t) I) aa eZ; have c9 := qJ aa bU (fun _ h => h.elim); have ca := B.blk.ch aa id; have cb := bZ.ch aa iZ; refine yo (yT [iX ac.kind, rX ac.rune, uX ac.last, .string ac.marks, .slice (ao.map at0) an cc, .string ac.text] c7 fun aV cd ad => ?_); have M := zt c8 ad (fun i hi (h : i = S) => by omega); have ce := qJ ad c9 (fun b (h : b = S) => by have := hI.hi t l; have := B.blk.lt; omega); have aW := ca.ch ad (fun (h : t = S) => by have := B.blk.lt; omega); have cf := cb.ch ad (fun b hb (h : b = S) => by have := ar b hb; have := zzs K; omega); refine ye <| q7 <| yp 2 [] (.a (cd.cs 0 6) .z) ?_; have cg := B.scalar (T' := L) M aW rfl rfl rfl rfl; have aX := Ch.on K M Q; have dW := cg.pk2 M f aX; have aY := cf.mono (K' := fun b => ¬ more r q aV b ∧ b < aV.heap.size) (fun b hb => ⟨fun h => h.elim (aJ b hb) (fun h => by have := ar b hb; omega), by have := ar b hb; have := zzs aX; omega⟩); have ci := B.scalar (T' := L) M aW rfl rfl rfl rfl; have aZ := Ch.on K M Q; have cj := ci.pk2 M f aZ; refine yo (yQ (act_at cj ce R  aY (by have := ay.n; have := aY.2.1; omega) ay.b (by have := ay.t; omega)) ?_); rintro b3 ⟨ck, cl⟩; obtain ⟨b4, cm⟩ := TermAt.next aK aZ cl ck; have b5 : Lim W H (qcU L ac) := (qjl R ac)
   generalize cn : (qcU L ac) = T150 at b4 b5; have co := b5; have dX := co.all; obtain ⟨cp, dY, dZ, e0, e1, e2, e3, e4, e5, e6, e7, e8, ae⟩ := b4; obtain ⟨e9, ea⟩ := ae.g1.head; have eb : Df t cp := fun e => ae.t1 (e ▸ ae.g1.inF); refine yE (nB (nS ?_)); refine q7 <| yp 2 [] (.q6 (((j : Nat) : Int) + 1) .z) ?_; have b6 := Ch.on cm (Ch.refl (· = t) b3) Q; have cq := ae.pk2 (Ch.refl (· = t) b3) f b6; refine yE (fun a ha => bT (j + 1) _ ⟨(by omega), (TermAt.eq' cq (by subst cn; subst aT; exact qjr aU _)), b6⟩ (by show c - (j + 1) < c - j; omega) a (ha.kp [0, 1, 9, 10, 27, 28, 29]))
  have ax : j = c := by omega
  have af := Ch.on K (Ch.refl (· = t) I) Q; have cr := B.pk2 (Ch.refl (· = t) I) f af; have b7 := cr.mono (qjs a4 (zzs J) (zzs af)) (hI.moreOk (Nat.le_trans (zzs J) (zzs af))); have ct := ch_in J a4 af; have b8 : Lim W H L := R; generalize cu : L = T160 at b7 b8; have cv := b8; have ec := cv.all; obtain ⟨cw, ed, ee, ef, eg, eh, ei, ej, ek, el, em, en, ag⟩ := b7; obtain ⟨eo, ep⟩ := ag.g1.head; have er : Df t cw := fun e => ag.t1 (e ▸ ag.g1.inF); refine qp (eS (qd (qb (nB (nS ?_))))); refine q7 <| yp 2 [] (.q6 (((k : Nat) : Int) + 1) .z) ?_; have b9 := Ch.on ct (Ch.refl (· = t) I) l; have cx := ag.pk2 (Ch.refl (· = t) I) hI b9; refine yE (fun a ha => aA (k + 1) _ ⟨(by omega), (TermAt.eq' cx (by subst cu; subst aT; subst aL; subst U; show qgr _ _ = _; unfold qgr; rw [a0, ax, ← av, List.take_length])), b9⟩ (by show s.size - (k + 1) < s.size - k; omega) a (ha.kp [0, 1, 9, 10]))
 have cy : k = s.size := by omega
 refine qp (eS (qd (qb (qA ?_)))); have bb := Ch.on ai (Ch.refl (· = t) ah) l; have cz := C.pk2 (Ch.refl (· = t) ah) hI bb; subst U; subst cy; exact ⟨rfl, cz, bb⟩
theorem qcA {α : Type} {l m : List α} {k : Nat} (h : l.take k = m.take k) (h1 : k < l.length) (h2 : k < m.length) (he : l[k] = m[k]) : l.take (k + 1) = m.take (k + 1) := by
 rw [List.take_succ_eq_append_getElem h1, List.take_succ_eq_append_getElem h2, h, he]
theorem ne_at {α : Type} {l m : List α} {k : Nat} (h1 : k < l.length) (h2 : k < m.length) (he : l[k] ≠ m[k]) : l ≠ m := fun e => he (by subst e; rfl)
theorem gc_at {l : List Cel} {k : Nat} (h : k < l.length) : gc l ((k : Nat) : Int) = l[k] := by simp [gc, List.getD, List.getElem?_eq_getElem h]
def eqLB (l m : List Cel) : Bool := decide (l = m)
def eqRB (l m : List (List Cel)) : Bool := decide (l = m)
theorem qh2 {l m : List Cel} (h : l = m) : eqLB l m = true := decide_eq_true h
theorem qh3 {l m : List Cel} (h : l ≠ m) : eqLB l m = false := decide_eq_false h
theorem eqRB_t {l m : List (List Cel)} (h : l = m) : eqRB l m = true := decide_eq_true h
theorem eqRB_f {l m : List (List Cel)} (h : l ≠ m) : eqRB l m = false := decide_eq_false h
def grB (G G' : Gr) : Bool := decide (G.w = G'.w) && (decide (G.h = G'.h) && eqRB G.lines G'.lines)
theorem grB_t {G G' : Gr} (h1 : G.w = G'.w) (h2 : G.h = G'.h) (h3 : G.lines = G'.lines) : grB G G' = true := by simp [grB, h1, h2, eqRB_t h3]
theorem qh4 (G : Gr) : grB G G = true := grB_t rfl rfl rfl
theorem grB_w {G G' : Gr} (h : G.w ≠ G'.w) : grB G G' = false := by simp [grB, h]
theorem grB_h {G G' : Gr} (h : G.h ≠ G'.h) : grB G G' = false := by simp [grB, h]
theorem grB_l {G G' : Gr} (h : G.lines ≠ G'.lines) : grB G G' = false := by simp [grB, eqRB_f h]
theorem qfG {rows : List Row} {L : List (List Cel)} (h : rows.map Row.l = L) {k : Nat} {x : Row} (hx : rows[k]? = some x) : ∃ hk : k < L.length, L[k] = x.l := by
 subst h
 obtain ⟨hk, rfl⟩ := List.getElem?_eq_some_iff.1 hx
 exact ⟨by simpa using hk, by simp⟩
theorem qfH {rows : List Row} {k : Nat} (h : k < rows.length) : ∃ x, rows[k]? = some x := ⟨_, List.getElem?_eq_getElem h⟩
theorem qfI {w : World} {b off : Nat} {rows : List Row} (h : Rd w (some ⟨b, off, none⟩) (rows.map Row.val)) {k : Nat} {x : Row} (hx : rows[k]? = some x) : w.cell? ⟨b, off + ((k : Nat) : Int).toNat * 1, none⟩ = some x.val := by
 rw [Int.toNat_natCast, Nat.mul_one]
 exact qbk h k _ (by rw [List.getElem?_map, hx]; rfl)
theorem qbn (a b : Cel) : (((a.rune : Int) == b.rune) && (((a.sty.bold == b.sty.bold) && ((a.sty.under == b.sty.under) && ((a.sty.turned == b.sty.turned) && (((a.sty.fore : Int) == b.sty.fore) && (((a.sty.back : Int) == b.sty.back) && true))))) && true)) = (a == b) := qiN a b
theorem eqcells0 (b1 b2 c1 c2 : Nat) (l m : List Cel) (w : World) (h1 : Rd w (some ⟨b1, 0, none⟩) (flat l)) (h2 : Rd w (some ⟨b2, 0, none⟩) (flat m)) (hl : l.length ≤ maxLen) : Calls Tryz.prog 40 [.slice (some ⟨b1, 0, none⟩) l.length c1, .slice (some ⟨b2, 0, none⟩) m.length c2].toArray w fun e w' => e = .returned (.bool (eqLB l m)) ∧ Ch (fun _ => False) w w' := by
 simp only [maxLen] at hl; refine yA Tryz.func40 rfl <| yx 1 <| ys <| yx 5 <| yc (rI ((l.length : Nat) : Int) ((m.length : Nat) : Int)) (fun j => ?_) fun j => ?_
 ·have p := j; refine yx 1 <| q8 (rS (yR1 (.bool false) ?_)); refine ⟨?_, Up.ch (zm w)⟩; rw [qh3 (fun e => p (by rw [e]))]
 have C := j; refine yk <| ys <| yx 3 <| q9 <| qP [0, 1, 12, 13] (f' := [(0, .slice (some ⟨b1, 0, none⟩) l.length c1), (1, .slice (some ⟨b2, 0, none⟩) m.length c2), (12, iX ((l.length : Nat) : Int)), (13, iX 0)]) <| qz (σ := Nat) (fun k => [(0, .slice (some ⟨b1, 0, none⟩) l.length c1), (1, .slice (some ⟨b2, 0, none⟩) m.length c2), (12, iX ((l.length : Nat) : Int)), (13, iX ((k : Nat) : Int))]) (fun k u => k ≤ l.length ∧ l.take k = m.take k ∧ Ch (fun _ => False) w u) (fun k => l.length - k) 0 rfl ?_ ?_
 ·exact ⟨Nat.zero_le _, rfl, Ch.refl _ _⟩
 intro k D q E r; obtain ⟨hk, n, f⟩ := q; have o := zu (zm w) f iZ; have s := Ch.rd f h1 id; have t := Ch.rd f h2 id; refine yx 1 <| ys <| yc (rL ((k : Nat) : Int) ((l.length : Nat) : Int)) (fun v => ?_) fun v => ?_
 ·refine yk <| ys <| q9 <| yx 2 <| ys <| yD [] fun F G g => ?_; have x := zu o g iZ; have y := zt f g eZ; have b := Ch.rd g s id; have c := Ch.rd g t id; refine yd (uL 0 9) [] (.i ((k : Nat) : Int) (l.length) (.m (qbJ (i := ((k : Nat) : Int)) b (by omega) (by omega)) (.m (qbS (i := ((k : Nat) : Int)) b (by omega) (by omega)) (.m (qb4 (i := ((k : Nat) : Int)) b (by omega) (by omega)) (.m (qat (i := ((k : Nat) : Int)) b (by omega) (by omega)) (.m (qbT (i := ((k : Nat) : Int)) b (by omega) (by omega)) (.m (qbU (i := ((k : Nat) : Int)) b (by omega) (by omega)) (.e (.i ((k : Nat) : Int) (m.length) (.m (qbJ (i := ((k : Nat) : Int)) c (by omega) (by omega)) (.m (qbS (i := ((k : Nat) : Int)) c (by omega) (by omega)) (.m (qb4 (i := ((k : Nat) : Int)) c (by omega) (by omega)) (.m (qat (i := ((k : Nat) : Int)) c (by omega) (by omega)) (.m (qbT (i := ((k : Nat) : Int)) c (by omega) (by omega)) (.m (qbU (i := ((k : Nat) : Int)) c (by omega) (by omega)) (.e .z)))))))))))))))) <| yDe (nS ?_); refine yc (rN (rY ((((gc l ((k : Nat) : Int)).rune : Int) == (gc m ((k : Nat) : Int)).rune) && ((((gc l ((k : Nat) : Int)).sty.bold == (gc m ((k : Nat) : Int)).sty.bold) && (((gc l ((k : Nat) : Int)).sty.under == (gc m ((k : Nat) : Int)).sty.under) && (((gc l ((k : Nat) : Int)).sty.turned == (gc m ((k : Nat) : Int)).sty.turned) && ((((gc l ((k : Nat) : Int)).sty.fore : Int) == (gc m ((k : Nat) : Int)).sty.fore) && ((((gc l ((k : Nat) : Int)).sty.back : Int) == (gc m ((k : Nat) : Int)).sty.back) && true))))) && true)))) (fun d => ?_) fun d => ?_
  ·rw [qbn] at d; have h := d; refine yx 1 <| q8 (rB (rS (qa0 (rB (rS (yR1 (.bool false) ?_)))))); refine ⟨?_, Up.ch x⟩; rw [qh3 (ne_at (k := k) (by omega) (by omega) (fun e => by rw [← gc_at (by omega), ← gc_at (by omega)] at e; rw [e] at h; simp at h))]
  rw [qbn] at d; have h := eq_of_beq d; refine qf (nB (nS ?_)); refine q7 <| yp 2 [] (.q6 (((k : Nat) : Int) + 1) .z) <| yE (fun a ha => r (k + 1) _ ⟨by omega, qcA n (by omega) (by omega) (by rw [← gc_at (by omega), ← gc_at (by omega)]; exact h), y⟩ (by show l.length - (k + 1) < l.length - k; omega) a (ha.kp [0, 1, 12, 13]))
 have A : k = l.length := by omega
 refine qp (eS (qd (qb (nS ?_)))); refine yx 1 <| q8 (yR1 (.bool true) ?_); refine ⟨?_, Up.ch o⟩; have B : m.length = l.length := by omega
 rw [qh2 (by rw [A, List.take_length, ← B, List.take_length] at n; exact n)]
theorem same80 (b1 b2 c1 c2 : Nat) (l m : List Cel) (w : World) (h1 : Rd w (some ⟨b1, 0, none⟩) (flat l)) (h2 : Rd w (some ⟨b2, 0, none⟩) (flat m)) (hl : l.length ≤ maxLen) : Calls Tryz.prog 22 [.slice (some ⟨b1, 0, none⟩) l.length c1, .slice (some ⟨b2, 0, none⟩) m.length c2].toArray w fun e w' => e = .returned (.bool (eqLB l m)) ∧ Ch (fun _ => False) w w' := by
 simp only [maxLen] at hl; refine yA Tryz.func22 rfl <| yx 1 <| ys <| yx 5 <| yc (rI ((l.length : Nat) : Int) ((m.length : Nat) : Int)) (fun j => ?_) fun j => ?_
 ·have p := j; refine yx 1 <| q8 (rS (yR1 (.bool false) ?_)); refine ⟨?_, Up.ch (zm w)⟩; rw [qh3 (fun e => p (by rw [e]))]
 have C := j; refine yk <| ys <| yx 3 <| q9 <| qP [0, 1, 12, 13] (f' := [(0, .slice (some ⟨b1, 0, none⟩) l.length c1), (1, .slice (some ⟨b2, 0, none⟩) m.length c2), (12, iX ((l.length : Nat) : Int)), (13, iX 0)]) <| qz (σ := Nat) (fun k => [(0, .slice (some ⟨b1, 0, none⟩) l.length c1), (1, .slice (some ⟨b2, 0, none⟩) m.length c2), (12, iX ((l.length : Nat) : Int)), (13, iX ((k : Nat) : Int))]) (fun k u => k ≤ l.length ∧ l.take k = m.take k ∧ Ch (fun _ => False) w u) (fun k => l.length - k) 0 rfl ?_ ?_
 ·exact ⟨Nat.zero_le _, rfl, Ch.refl _ _⟩
 intro k D q E r; obtain ⟨hk, n, f⟩ := q; have o := zu (zm w) f iZ; have s := Ch.rd f h1 id; have t := Ch.rd f h2 id; refine yx 1 <| ys <| yc (rL ((k : Nat) : Int) ((l.length : Nat) : Int)) (fun v => ?_) fun v => ?_
 ·refine yk <| ys <| q9 <| yx 2 <| ys <| yD [] fun F G g => ?_; have x := zu o g iZ; have y := zt f g eZ; have b := Ch.rd g s id; have c := Ch.rd g t id; refine yd (uL 0 9) [] (.i ((k : Nat) : Int) (l.length) (.m (qbJ (i := ((k : Nat) : Int)) b (by omega) (by omega)) (.m (qbS (i := ((k : Nat) : Int)) b (by omega) (by omega)) (.m (qb4 (i := ((k : Nat) : Int)) b (by omega) (by omega)) (.m (qat (i := ((k : Nat) : Int)) b (by omega) (by omega)) (.m (qbT (i := ((k : Nat) : Int)) b (by omega) (by omega)) (.m (qbU (i := ((k : Nat) : Int)) b (by omega) (by omega)) (.e (.i ((k : Nat) : Int) (m.length) (.m (qbJ (i := ((k : Nat) : Int)) c (by omega) (by omega)) (.m (qbS (i := ((k : Nat) : Int)) c (by omega) (by omega)) (.m (qb4 (i := ((k : Nat) : Int)) c (by omega) (by omega)) (.m (qat (i := ((k : Nat) : Int)) c (by omega) (by omega)) (.m (qbT (i := ((k : Nat) : Int)) c (by omega) (by omega)) (.m (qbU (i := ((k : Nat) : Int)) c (by omega) (by omega)) (.e .z)))))))))))))))) <| yDe (nS ?_); refine yc (rN (rY ((((gc l ((k : Nat) : Int)).rune : Int) == (gc m ((k : Nat) : Int)).rune) && ((((gc l ((k : Nat) : Int)).sty.bold == (gc m ((k : Nat) : Int)).sty.bold) && (((gc l ((k : Nat) : Int)).sty.under == (gc m ((k : Nat) : Int)).sty.under) && (((gc l ((k : Nat) : Int)).sty.turned == (gc m ((k : Nat) : Int)).sty.turned) && ((((gc l ((k : Nat) : Int)).sty.fore : Int) == (gc m ((k : Nat) : Int)).sty.fore) && ((((gc l ((k : Nat) : Int)).sty.back : Int) == (gc m ((k : Nat) : Int)).sty.back) && true))))) && true)))) (fun d => ?_) fun d => ?_
  ·rw [qbn] at d; have h := d; refine yx 1 <| q8 (rB (rS (qa0 (rB (rS (yR1 (.bool false) ?_)))))); refine ⟨?_, Up.ch x⟩; rw [qh3 (ne_at (k := k) (by omega) (by omega) (fun e => by rw [← gc_at (by omega), ← gc_at (by omega)] at e; rw [e] at h; simp at h))]
  rw [qbn] at d; have h := eq_of_beq d; refine qf (nB (nS ?_)); refine q7 <| yp 2 [] (.q6 (((k : Nat) : Int) + 1) .z) <| yE (fun a ha => r (k + 1) _ ⟨by omega, qcA n (by omega) (by omega) (by rw [← gc_at (by omega), ← gc_at (by omega)]; exact h), y⟩ (by show l.length - (k + 1) < l.length - k; omega) a (ha.kp [0, 1, 12, 13]))
 have A : k = l.length := by omega
 refine qp (eS (qd (qb (nS ?_)))); refine yx 1 <| q8 (yR1 (.bool true) ?_); refine ⟨?_, Up.ch o⟩; have B : m.length = l.length := by omega
 rw [qh2 (by rw [A, List.take_length, ← B, List.take_length] at n; exact n)]
theorem qgs (b1 b2 c1 c2 : Nat) {n1 n2 : Nat} (l m : List Cel) (w : World) (h1 : Rd w (some ⟨b1, 0, none⟩) (flat l)) (h2 : Rd w (some ⟨b2, 0, none⟩) (flat m)) (hl : l.length ≤ maxLen) (e1 : l.length = n1) (e2 : m.length = n2) : Calls Tryz.prog 40 [.slice (some ⟨b1, 0, none⟩) n1 c1, .slice (some ⟨b2, 0, none⟩) n2 c2].toArray w fun e w' => e = .returned (.bool (eqLB l m)) ∧ Ch (fun _ => False) w w' := by
 subst e1 e2; exact eqcells0 b1 b2 c1 c2 l m w h1 h2 hl
theorem qfJ (b1 b2 c1 c2 : Nat) {n1 n2 : Nat} (l m : List Cel) (w : World) (h1 : Rd w (some ⟨b1, 0, none⟩) (flat l)) (h2 : Rd w (some ⟨b2, 0, none⟩) (flat m)) (hl : l.length ≤ maxLen) (e1 : l.length = n1) (e2 : m.length = n2) : Calls Tryz.prog 22 [.slice (some ⟨b1, 0, none⟩) n1 c1, .slice (some ⟨b2, 0, none⟩) n2 c2].toArray w fun e w' => e = .returned (.bool (eqLB l m)) ∧ Ch (fun _ => False) w w' := by
 subst e1 e2; exact same80 b1 b2 c1 c2 l m w h1 h2 hl
theorem gsame0 {w : World} (g1 r1 rc1 : Nat) (rows1 : List Row) (G1 : Gr) (M1 : List (List Cel)) (hM1 : rows1.map Row.l = M1) (hG1 : G1.lines = M1) (hh1 : Blk w g1 [iX G1.w, iX G1.h, .slice (some ⟨r1, 0, none⟩) rows1.length rc1] qe0) (hb1 : Rd w (some ⟨r1, 0, none⟩) (rows1.map Row.val)) (hl1 : ∀ x ∈ rows1, LineAt w x.b x.l x.cap ∧ x.l.length = x.n) (hn1 : rows1.length = G1.h.toNat) (hk10 : 1 ≤ G1.h ∧ G1.h ≤ 60) (g2 r2 rc2 : Nat) (rows2 : List Row) (G2 : Gr) (M2 : List (List Cel)) (hM2 : rows2.map Row.l = M2) (hG2 : G2.lines = M2) (hh2 : Blk w g2 [iX G2.w, iX G2.h, .slice (some ⟨r2, 0, none⟩) rows2.length rc2] qe0) (hb2 : Rd w (some ⟨r2, 0, none⟩) (rows2.map Row.val)) (hl2 : ∀ x ∈ rows2, LineAt w x.b x.l x.cap ∧ x.l.length = x.n) (hn2 : rows2.length = G2.h.toNat) (hk20 : 1 ≤ G2.h ∧ G2.h ≤ 60) : Calls Tryz.prog 17 [pX g1, pX g2].toArray w fun e w' => e = .returned (.bool (grB G1 G2)) ∧ Ch (fun _ => False) w w' := by
 refine yA Tryz.func17 rfl <| yx 1 <| ys <| ys <| yD [] fun q ah g => ?_; have r := zu (zm w) g iZ; have o := hh1.ch g id; have s := hh2.ch g id; have W := Ch.rd g hb1 id; have X := Ch.rd g hb2 id; have J : ∀ x ∈ rows1, LineAt q x.b x.l x.cap ∧ x.l.length = x.n := fun x hx => ⟨(hl1 x hx).1.ch g id, (hl1 x hx).2⟩
 have K : ∀ x ∈ rows2, LineAt q x.b x.l x.cap ∧ x.l.length = x.n := fun x hx => ⟨(hl2 x hx).1.ch g id, (hl2 x hx).2⟩
 refine yd (uL 0 10) [] (.l (o.c 0) (.l (s.c 0) .z)) <| yv [15] (rI G1.w G2.w) (fun t => ?_) fun t => ?_
 ·have v := t; refine yd (uL 10 10) [] .z <| yDe (nS ?_); refine yct <| yx 1 <| q8 (rS (yR1 (.bool false) ?_)); refine ⟨?_, Up.ch r⟩; rw [grB_w v]
 have v : G1.w = G2.w := by have := t; omega
 refine yd (uL 10 10) [] (.l (o.c 1) (.l (s.c 1) .z)) <| yDe (nS ?_); refine yc (rI G1.h G2.h) (fun y => ?_) fun y => ?_
 ·have A := y; refine yx 1 <| q8 (rS (yR1 (.bool false) ?_)); refine ⟨?_, Up.ch r⟩; rw [grB_h A]
 have A : G1.h = G2.h := by have := y; omega
 refine yk <| ys <| ysr <| yp 5 [] (.l (o.c 1) .z) <| ye <| q9 <| qP [0, 1, 29, 30] (f' := [(0, pX g1), (1, pX g2), (29, iX G1.h), (30, iX 0)]) <| qz (σ := Nat) (fun k => [(0, pX g1), (1, pX g2), (29, iX G1.h), (30, iX ((k : Nat) : Int))]) (fun k u => k ≤ rows1.length ∧ M1.take k = M2.take k ∧ Ch (fun _ => False) q u) (fun k => rows1.length - k) 0 rfl ?_ ?_
 ·exact ⟨Nat.zero_le _, rfl, Ch.refl _ _⟩
 intro k L Y ai Z; obtain ⟨hk, B, d⟩ := Y; have M := zu r d iZ; have a0 := o.ch d id; have a1 := s.ch d id; have a2 := Ch.rd d W id; have a3 := Ch.rd d X id; have N : ∀ x ∈ rows1, LineAt L x.b x.l x.cap ∧ x.l.length = x.n := fun x hx => ⟨(J x hx).1.ch d id, (J x hx).2⟩
 have O : ∀ x ∈ rows2, LineAt L x.b x.l x.cap ∧ x.l.length = x.n := fun x hx => ⟨(K x hx).1.ch d id, (K x hx).2⟩
 refine yx 1 <| ys <| yc (rL ((k : Nat) : Int) G1.h) (fun a4 => ?_) fun a4 => ?_
 ·obtain ⟨j, C⟩ := qfH (rows := rows1) (k := k) (by omega); obtain ⟨m, D⟩ := qfH (rows := rows2) (k := k) (by omega); obtain ⟨P, Q⟩ := qfG hM1 C; obtain ⟨R, S⟩ := qfG hM2 D; refine yk <| ys <| q9 <| yx 2 <| ys <| yD [14] fun T aj f => ?_; have a5 := zu M f iZ; have a6 := zt d f eZ; have a7 := a0.ch f id; have a8 := a1.ch f id; have a9 := Ch.rd f a2 id; have aa := Ch.rd f a3 id; have E : ∀ x ∈ rows1, LineAt T x.b x.l x.cap ∧ x.l.length = x.n := fun x hx => ⟨(N x hx).1.ch f id, (N x hx).2⟩
  have F : ∀ x ∈ rows2, LineAt T x.b x.l x.cap ∧ x.l.length = x.n := fun x hx => ⟨(O x hx).1.ch f id, (O x hx).2⟩
  refine yd (uL 0 14) [] (.l (a7.c 2) (.i ((k : Nat) : Int) (rows1.length) (.l (qfI a9 C) (.l (a8.c 2) (.i ((k : Nat) : Int) (rows2.length) (.l (qfI aa D) .z)))))) ?_; obtain ⟨G, ab⟩ := E j (List.mem_of_getElem? C); obtain ⟨ac, ad⟩ := F m (List.mem_of_getElem? D); refine yK 14 (yQ ((qgs j.b m.b j.cap m.cap j.l m.l _ G.rd ac.rd (Nat.le_trans G.2.1 G.2.2.1) ab ad)) fun U p => ?_); have ae := zu a5 p iZ; have af := zt a6 p eZ; have ak : ∀ x ∈ rows1, LineAt U x.b x.l x.cap ∧ x.l.length = x.n := fun x hx => ⟨(E x hx).1.ch p id, (E x hx).2⟩
  have al : ∀ x ∈ rows2, LineAt U x.b x.l x.cap ∧ x.l.length = x.n := fun x hx => ⟨(F x hx).1.ch p id, (F x hx).2⟩
  refine qa <| yd [15] [] .z <| yDe (nS ?_); refine yc (rN (rY (eqLB j.l m.l))) (fun H => ?_) fun H => ?_
  ·have I : ¬ j.l = m.l := of_decide_eq_false H; refine yx 1 <| q8 (rB (rS (qa0 (rB (rS (yR1 (.bool false) ?_)))))); refine ⟨?_, Up.ch ae⟩; rw [grB_l (by rw [hG1, hG2]; exact ne_at P R (by rw [Q, S]; exact I))]
  have I : j.l = m.l := of_decide_eq_true H; refine qf (nB (nS ?_)); refine q7 <| yp 2 [] (.q6 (((k : Nat) : Int) + 1) .z) <| yE (fun a ha => Z (k + 1) _ ⟨by omega, qcA B P R (by rw [Q, S]; exact I), af⟩ (by show rows1.length - (k + 1) < rows1.length - k; omega) a (ha.kp [0, 1, 29, 30]))
 have am : k = rows1.length := by omega
 refine qp (eS (qd (qb (nS ?_)))); refine yx 1 <| q8 (yR1 (.bool true) ?_); refine ⟨?_, Up.ch M⟩; have V : M1.length = k := by rw [← hM1, List.length_map]; omega
 have ag : M2.length = k := by rw [← hM2, List.length_map]; omega
 rw [grB_t v A (by rw [hG1, hG2]; rw [← V, List.take_length, V, ← ag, List.take_length] at B; exact B)]
theorem qdN {w : World} {g1 g2 : Nat} {G1 G2 : Gr} {F1 F2 : Nat → Prop} (h1 : GridAt w g1 G1 F1) (h2 : GridAt w g2 G2 F2) : Calls Tryz.prog 17 [pX g1, pX g2].toArray w fun e w' => e = .returned (.bool (grB G1 G2)) ∧ Ch (fun _ => False) w w' := by
 obtain ⟨a, b, c, h1⟩ := h1; obtain ⟨d, f, g, h2⟩ := h2; exact gsame0 g1 a b c G1 G1.lines h1.lines rfl h1.head h1.body.rd h1.line h1.len h1.ok.2.1 g2 d f g G2 G2.lines h2.lines rfl h2.head h2.body.rd h2.line h2.len h2.ok.2.1
theorem qdO {w : World} {b off : Nat} {rows : List Row} (h : Rd w (some ⟨b, off, none⟩) (rows.map Row.val)) {k : Nat} {x : Row} (hx : rows[k]? = some x) : w.cell? ⟨b, off + ((k : Nat) : Int).toNat * 1, none⟩ = some x.val := by
 rw [Int.toNat_natCast, Nat.mul_one]
 exact qbk h k _ (by rw [List.getElem?_map, hx]; rfl)
theorem qi2 {rows : List Row} {k : Nat} {q : Row} (h : rows[k]? = some q) : (rows.map Row.l).take (k + 1) = (rows.map Row.l).take k ++ [q.l] := by
 have hk : k < (rows.map Row.l).length := by rw [List.length_map]; exact (List.getElem?_eq_some_iff.1 h).1
 rw [List.take_succ_eq_append_getElem hk]
 congr 2
 have : (rows.map Row.l)[k]? = some q.l := by rw [List.getElem?_map, h]; rfl
 exact (List.getElem?_eq_some_iff.1 this).2
theorem qeU {rows : List Row} {k : Nat} (h : k < rows.length) : ∃ q, rows[k]? = some q ∧ q ∈ rows := ⟨_, List.getElem?_eq_getElem h, List.getElem_mem h⟩
def qab (s : Sty) : List Bool := [s.bold, s.under, s.turned, decide (0 < s.fore), decide (0 < s.back)]
def numsS (s : Sty) : List Int := [1, 4, 7, 29 + s.fore, 39 + s.back]
def qcW (s : Sty) : Nat → List Int
 | 0 => [0]
 | k + 1 => if (qab s).getD k false = true then qcW s k ++ [(numsS s).getD k 0] else qcW s k
abbrev qK (s : Sty) : List Int := qcW s 5
theorem qaU {s : Sty} {k : Nat} (h : (qab s).getD k false = true) : qcW s (k + 1) = qcW s k ++ [(numsS s).getD k 0] := if_pos h
theorem qam {s : Sty} {k : Nat} (h : ¬ (qab s).getD k false = true) : qcW s (k + 1) = qcW s k := if_neg h
theorem qbH (s : Sty) (k : Nat) : (qcW s k).length ≤ k + 1 := by
 induction k with
 | zero => exact Nat.le_refl _
 | succ k ih =>
  by_cases h : (qab s).getD k false = true
  ·rw [qaU h, List.length_append]; simp only [List.length_cons, List.length_nil]; omega
  ·rw [qam h]; omega
theorem qgt {s : Sty} (h : (0 ≤ s.fore ∧ s.fore ≤ 8) ∧ 0 ≤ s.back ∧ s.back ≤ 8) (k : Nat) (hk : k ≤ 5) : ∀ x ∈ qcW s k, 0 ≤ x ∧ x ≤ 47 := by
 induction k with
 | zero => intro x hx; simp [qcW] at hx; omega
 | succ k ih =>
  intro x hx
  by_cases e : (qab s).getD k false = true
  ·rw [qaU e, List.mem_append] at hx
   rcases hx with hx | hx
   ·exact ih (by omega) x hx
   ·obtain rfl := List.mem_singleton.1 hx
    match k, hk with
    | 0, _ | 1, _ | 2, _ => simp [numsS]
    | 3, _ | 4, _ => simp [numsS]; omega
  ·rw [qam e] at hx; exact ih (by omega) x hx
def csiB : ByteArray := ⟨#[27, 91]⟩
def semB : ByteArray := ⟨#[59]⟩
def mB : ByteArray := ⟨#[109]⟩
def hB : ByteArray := ⟨#[72]⟩
theorem qaZ : csiB.size = 2 := rfl
theorem qaK : semB.size = 1 := rfl
theorem qcB : mB.size = 1 := rfl
theorem qcC : hB.size = 1 := rfl
def qg1 (l : List Int) : Nat → ByteArray
 | 0 => csiB
 | k + 1 => (if 0 < k then qg1 l k ++ semB else qg1 l k) ++ qa6 (l.getD k 0)
theorem styK_on {l : List Int} {k : Nat} (h : 0 < k) : qg1 l (k + 1) = qg1 l k ++ semB ++ qa6 (l.getD k 0) := congrArg (· ++ qa6 (l.getD k 0)) (if_pos h)
theorem styK_off {l : List Int} {k : Nat} (h : ¬ 0 < k) : qg1 l (k + 1) = qg1 l k ++ qa6 (l.getD k 0) := congrArg (· ++ qa6 (l.getD k 0)) (if_neg h)
def qh5 (s : Sty) : ByteArray := qg1 (qK s) (qK s).length ++ mB
def toB (x y : Int) : ByteArray := csiB ++ qa6 (y + 1) ++ semB ++ qa6 (x + 1) ++ hB
theorem qbx {n : Int} (h0 : -99 ≤ n) (h1 : n ≤ 99) : (qa6 n).size ≤ 3 := by
 have key : ∀ k : Nat, k ≤ 198 → (qa6 ((k : Int) - 99)).size ≤ 3 := by decide +kernel
 have := key (n + 99).toNat (by omega)
 rwa [show (((n + 99).toNat : Int) - 99) = n by omega] at this
theorem qjv {l : List Int} {k : Nat} (hk : k < l.length) : l.getD k 0 ∈ l := by
 rw [List.getD_eq_getElem?_getD, List.getElem?_eq_getElem hk, Option.getD_some]
 exact List.getElem_mem hk
theorem qfK {l : List Int} (hl : ∀ x ∈ l, 0 ≤ x ∧ x ≤ 99) (k : Nat) (hk : k ≤ l.length) : (qg1 l k).size ≤ 2 + 4 * k := by
 induction k with
 | zero => exact Nat.le_refl _
 | succ k ih =>
  have h1 := ih (by omega)
  have h2 := hl _ (qjv (l := l) (k := k) (by omega))
  have h3 := qbx (n := l.getD k 0) (by omega) (by omega)
  unfold qg1
  rw [ByteArray.size_append]
  split
  ·rw [ByteArray.size_append]
   have := qaK
   omega
  ·omega
theorem qc7 {s : Sty} (h : (0 ≤ s.fore ∧ s.fore ≤ 8) ∧ 0 ≤ s.back ∧ s.back ≤ 8) : (qh5 s).size ≤ 27 := by
 have h1 := qfK (l := qK s) (fun x hx => by have := qgt h 5 (Nat.le_refl _) x hx; omega) _ (Nat.le_refl _)
 have h2 : (qK s).length ≤ 6 := qbH s 5
 unfold qh5
 rw [ByteArray.size_append]
 have := qcB
 omega
theorem qeV {x y : Int} (hx : 0 ≤ x ∧ x ≤ 60) (hy : 0 ≤ y ∧ y ≤ 60) : (toB x y).size ≤ 10 := by
 have h1 := qbx (n := x + 1) (by omega) (by omega)
 have h2 := qbx (n := y + 1) (by omega) (by omega)
 unfold toB
 simp only [ByteArray.size_append]
 have := qaZ
 have := qaK
 have := qcC
 omega
theorem qjw (c : Cel) (l : List Cel) (k : Nat) : gc (c :: l) ((k + 1 : Nat) : Int) = gc l (k : Int) := by
 unfold gc
 rw [Int.toNat_natCast, Int.toNat_natCast, List.getD_cons_succ]
def qc1 : List Cel → List Cel → Nat
 | c :: l, d :: m => if c = d then qc1 l m + 1 else 0
 | _, _ => 0
theorem qcD : ∀ (k : Nat) (a b : List Cel), k ≤ a.length → k ≤ b.length → a.take k = b.take k → (k = a.length ∨ k = b.length ∨ gc a k ≠ gc b k) → qc1 a b = k
 | 0, [], b, _, _, _, _ => by cases b <;> rfl
 | 0, c :: l, [], _, _, _, _ => rfl
 | 0, c :: l, d :: m, _, _, _, h => by
  have h' : c ≠ d := by
   rcases h with h | h | h
   ·simp at h
   ·simp at h
   ·exact h
  unfold qc1
  rw [if_neg h']
 | k + 1, [], b, ha, _, _, _ => by simp at ha
 | k + 1, c :: l, [], _, hb, _, _ => by simp at hb
 | k + 1, c :: l, d :: m, ha, hb, ht, h => by
  simp only [List.take_succ_cons, List.cons.injEq] at ht
  unfold qc1
  rw [if_pos ht.1, qcD k l m (by simpa using ha) (by simpa using hb) ht.2]
  rcases h with h | h | h
  ·exact .inl (by simpa using h)
  ·exact .inr (.inl (by simpa using h))
  ·refine .inr (.inr fun e => h ?_)
   rw [qjw, qjw]; exact e
def qcX (a b : List Cel) : Nat × Nat := (qc1 a b, b.length - qc1 (a.drop (qc1 a b)).reverse (b.drop (qc1 a b)).reverse)
theorem qdj {a b : List Cel} {x j : Nat} (hl : a.length = b.length) (hx : qc1 a b = x) (h1 : x ≤ j) (h2 : j ≤ b.length) (hd : a.drop j = b.drop j) (he : j = x ∨ gc a ((j : Int) - 1) ≠ gc b ((j : Int) - 1)) : qcX a b = (x, j) := by
 unfold qcX
 rw [hx]
 have hr : ∀ l : List Cel, l.length = b.length → (l.drop x).reverse.take (b.length - j) = (l.drop j).reverse := fun l h => by
  rw [List.take_reverse, List.drop_drop, List.length_drop, h, show x + (b.length - x - (b.length - j)) = j by omega]
 have hg : ∀ l : List Cel, l.length = b.length → x < j → gc (l.drop x).reverse ((b.length - j : Nat) : Int) = gc l ((j : Int) - 1) := fun l h hj => by
  unfold gc
  rw [Int.toNat_natCast, List.getD_eq_getElem?_getD, List.getD_eq_getElem?_getD, List.getElem?_reverse (by rw [List.length_drop]; omega), List.getElem?_drop, List.length_drop, h, show x + (b.length - x - 1 - (b.length - j)) = ((j : Int) - 1).toNat by omega]
 rw [qcD (b.length - j) _ _ (by rw [List.length_reverse, List.length_drop]; omega) (by rw [List.length_reverse, List.length_drop]; omega) (by rw [hr a hl, hr b rfl, hd])]
 ·rw [show b.length - (b.length - j) = j by omega]
 ·by_cases hj : j = x
  ·refine .inl ?_
   rw [List.length_reverse, List.length_drop]; omega
  ·exact .inr (.inr (by rw [hg a hl (by omega), hg b rfl (by omega)]; exact he.resolve_left hj))
def wrK (l : List Cel) : Nat → ByteArray
 | 0 => ByteArray.empty
 | k + 1 =>
  let o := if k = 0 ∨ ¬ (gc l (k : Int)).sty = (gc l ((k : Int) - 1)).sty then wrK l k ++ qh5 (gc l (k : Int)).sty else wrK l k
  if (gc l (k : Int)).rune = 0 then o else o ++ Utf8.encode (gc l (k : Int)).rune
def wrB (l : List Cel) : ByteArray := wrK l l.length
theorem qjx (a b : Sty) : ((a.bold == b.bold) && ((a.under == b.under) && ((a.turned == b.turned) && (((a.fore : Int) == b.fore) && (((a.back : Int) == b.back) && true))))) = decide (a = b) := by
 obtain ⟨b1, b2, b3, f, k⟩ := a
 obtain ⟨c1, c2, c3, f', k'⟩ := b
 rw [Bool.eq_iff_iff]
 simp
theorem gc_in {l : List Cel} {k : Nat} (h : k < l.length) : gc l (k : Int) ∈ l := by
 rw [gc_at h]; exact List.getElem_mem h
section
variable {l : List Cel} {k : Nat}
theorem wrK_ss (h : k = 0 ∨ ¬ (gc l (k : Int)).sty = (gc l ((k : Int) - 1)).sty) (h2 : ¬ (gc l (k : Int)).rune = 0) : wrK l (k + 1) = wrK l k ++ qh5 (gc l (k : Int)).sty ++ Utf8.encode (gc l (k : Int)).rune := by
 unfold wrK; dsimp only; rw [if_neg h2, if_pos h]; cases k <;> rfl
theorem wrK_sn (h : k = 0 ∨ ¬ (gc l (k : Int)).sty = (gc l ((k : Int) - 1)).sty) (h2 : (gc l (k : Int)).rune = 0) : wrK l (k + 1) = wrK l k ++ qh5 (gc l (k : Int)).sty := by
 unfold wrK; dsimp only; rw [if_pos h2, if_pos h]; cases k <;> rfl
theorem wrK_ns (h : ¬ k = 0) (h1 : (gc l (k : Int)).sty = (gc l ((k : Int) - 1)).sty) (h2 : ¬ (gc l (k : Int)).rune = 0) : wrK l (k + 1) = wrK l k ++ Utf8.encode (gc l (k : Int)).rune := by
 unfold wrK; dsimp only; rw [if_neg h2, if_neg (fun h' => h'.elim h fun h' => h' h1)]; cases k <;> rfl
theorem wrK_nn (h : ¬ k = 0) (h1 : (gc l (k : Int)).sty = (gc l ((k : Int) - 1)).sty) (h2 : (gc l (k : Int)).rune = 0) : wrK l (k + 1) = wrK l k := by
 conv => lhs; unfold wrK
 dsimp only; rw [if_pos h2, if_neg (fun h' => h'.elim h fun h' => h' h1)]
end
theorem qfL {l m : List Cel} {j : Nat} (h0 : 0 < j) (hl : l.length = m.length) (hj : j ≤ m.length) (h : l.drop j = m.drop j) (e : gc l ((j : Int) - 1) = gc m ((j : Int) - 1)) : l.drop (j - 1) = m.drop (j - 1) := by
 rw [show ((j : Int) - 1) = ((j - 1 : Nat) : Int) by omega, gc_at (by omega), gc_at (by omega)] at e
 rw [List.drop_eq_getElem_cons (show j - 1 < l.length by omega), List.drop_eq_getElem_cons (show j - 1 < m.length by omega), e, show j - 1 + 1 = j by omega, h]
def dfK (A B : Gr) : Nat → ByteArray
 | 0 => ByteArray.empty
 | k + 1 =>
  let q := qcX (gl A (k : Int)) (gl B (k : Int))
  if q.1 < q.2 then dfK A B k ++ (toB q.1 k ++ wrB (((gl B (k : Int)).take q.2).drop q.1)) else dfK A B k
def hideB : ByteArray := ⟨#[27, 91, 63, 50, 53, 108]⟩
def showB : ByteArray := ⟨#[27, 91, 63, 50, 53, 104]⟩
structure Vw where
 g : Gr
 x : Int
 y : Int
 hid : Bool
abbrev noneB (o : ByteArray) : Bool := o.toList == ByteArray.empty.toList
theorem none_iff {o : ByteArray} : noneB o = true ↔ o.size = 0 := by
 constructor
 ·intro h
  rw [qjp (u := ByteArray.empty) h]; rfl
 ·intro h
  have : o = ByteArray.empty := ByteArray.ext (Array.ext (by simpa using h) (fun i hi => by have : o.data.size = 0 := h; omega))
  rw [this]; exact beq_self_eq_true _
theorem none_f {o : ByteArray} (h : noneB o = false) : ¬ o.size = 0 := fun e => Bool.false_ne_true (h.symm.trans (none_iff.2 e))
def df1 (A B : Vw) : ByteArray := if (dfK A.g B.g B.g.h.toNat).size = 0 then dfK A.g B.g B.g.h.toNat else dfK A.g B.g B.g.h.toNat ++ qh5 qaD
def df2 (A B : Vw) : ByteArray := if ¬ (df1 A B).size = 0 ∨ ¬ A.x = B.x ∨ ¬ A.y = B.y then df1 A B ++ toB B.x B.y else df1 A B
def qfM (A B : Vw) : ByteArray := if B.hid = true ∧ A.hid = false then df2 A B ++ hideB else if A.hid = true ∧ B.hid = false then df2 A B ++ showB else df2 A B
theorem qaP : hideB.size = 6 := rfl
theorem qaQ : showB.size = 6 := rfl
theorem dfK_on {A B : Gr} {k x e : Nat} {l m : List Cel} (e1 : gl A (k : Int) = l) (e2 : gl B (k : Int) = m) (hE : qcX l m = (x, e)) (h : (x : Int) < e) : dfK A B (k + 1) = dfK A B k ++ (toB (x : Int) (k : Int) ++ wrB ((m.take e).drop x)) := by
 conv => lhs; unfold dfK
 dsimp only
 rw [e1, e2, hE, if_pos (by dsimp only; omega)]
theorem dfK_off {A B : Gr} {k x e : Nat} {l m : List Cel} (e1 : gl A (k : Int) = l) (e2 : gl B (k : Int) = m) (hE : qcX l m = (x, e)) (h : ¬ (x : Int) < e) : dfK A B (k + 1) = dfK A B k := by
 conv => lhs; unfold dfK
 dsimp only
 rw [e1, e2, hE, if_neg (by dsimp only; omega)]
def qdP (s : Sty) : Prop := (0 ≤ s.fore ∧ s.fore ≤ 8) ∧ 0 ≤ s.back ∧ s.back ≤ 8
theorem qh6 (r : Int) : (Utf8.encode r).size ≤ 4 := by
 unfold Utf8.encode
 generalize (if Utf8.valid r = true then r.toNat else Utf8.runeError) = c
 dsimp only
 split
 ·exact (show (1 : Nat) ≤ 4 by decide)
 ·split
  ·exact (show (2 : Nat) ≤ 4 by decide)
  ·split
   ·exact (show (3 : Nat) ≤ 4 by decide)
   ·exact Nat.le_refl 4
theorem qeW {l : List Cel} (h : ∀ c ∈ l, qdP c.sty) (k : Nat) (hk : k ≤ l.length) : (wrK l k).size ≤ 31 * k := by
 induction k with
 | zero => exact Nat.le_refl _
 | succ k ih =>
  have h1 := ih (by omega)
  have hm : gc l (k : Int) ∈ l := by
   unfold gc
   rw [Int.toNat_natCast, List.getD_eq_getElem?_getD, List.getElem?_eq_getElem (by omega), Option.getD_some]
   exact List.getElem_mem _
  have h2 := qc7 (h _ hm)
  have h3 := qh6 (gc l (k : Int)).rune
  unfold wrK
  dsimp only
  split <;> split <;> (try rw [ByteArray.size_append]) <;> (try rw [ByteArray.size_append]) <;> omega
theorem qh7 (a b : List Cel) : (qcX a b).2 ≤ b.length := Nat.sub_le _ _
theorem qeX {A B : Gr} (h : ∀ l ∈ B.lines, l.length ≤ 60 ∧ ∀ c ∈ l, qdP c.sty) (k : Nat) (hk : k ≤ B.lines.length) (hk2 : k ≤ 60) : (dfK A B k).size ≤ 1870 * k := by
 induction k with
 | zero => exact Nat.le_refl _
 | succ k ih =>
  have h1 := ih (by omega) (by omega)
  have hm : gl B (k : Int) ∈ B.lines := by
   unfold gl
   rw [Int.toNat_natCast, List.getD_eq_getElem?_getD, List.getElem?_eq_getElem (by omega), Option.getD_some]
   exact List.getElem_mem _
  have h2 := h _ hm
  have h3 := qh7 (gl A (k : Int)) (gl B (k : Int))
  unfold dfK
  dsimp only
  split
  ·rename_i hq
   have h4 := qeV (x := ((qcX (gl A (k : Int)) (gl B (k : Int))).1 : Int)) (y := (k : Int)) (by omega) (by omega)
   have h5 := qeW (l := ((gl B (k : Int)).take (qcX (gl A (k : Int)) (gl B (k : Int))).2).drop (qcX (gl A (k : Int)) (gl B (k : Int))).1) (fun c hc => h2.2 c (List.mem_of_mem_take (List.mem_of_mem_drop hc))) _ (Nat.le_refl _)
   have h6 : (((gl B (k : Int)).take (qcX (gl A (k : Int)) (gl B (k : Int))).2).drop (qcX (gl A (k : Int)) (gl B (k : Int))).1).length ≤ 60 := by
    rw [List.length_drop, List.length_take]; omega
   unfold wrB
   simp only [ByteArray.size_append]
   omega
  ·omega
section
variable {w : World} {b o : Nat} {l : List Cel} {i : Int} (h : Rd w (some ⟨b, o, none⟩) (flat l)) (h0 : 0 ≤ i) (h1 : i < (l.length : Nat))
include h h0 h1
theorem qb8 : w.cell? ⟨b, o + i.toNat * 6, none⟩ = some (.int .i32 (gc l i).rune) := qbk h (i.toNat * 6) _ (flat_get l i 0 h0 h1 (by decide))
theorem qh (k : Nat) (v : Value) (hk : k < 6) (hv : (gc l i).vals[k]? = some v) : w.cell? ⟨b, o + i.toNat * 6 + k, none⟩ = some v := by rw [Nat.add_assoc]; exact qbk h (i.toNat * 6 + k) _ (by rw [flat_get l i k h0 h1 hk]; exact hv)
end
section
variable {A B : Vw} (hok : ∀ l ∈ B.g.lines, l.length ≤ 60 ∧ ∀ c ∈ l, qdP c.sty) (hl : B.g.h.toNat ≤ B.g.lines.length) (h60 : B.g.h.toNat ≤ 60)
include hok hl h60
theorem qh8 : (df1 A B).size ≤ 112300 := by
 have h1 := qeX (A := A.g) hok B.g.h.toNat hl h60
 have h2 := qc7 (s := qaD) ⟨⟨Int.le_refl _, by decide⟩, Int.le_refl _, by decide⟩
 unfold df1
 split
 ·omega
 ·rw [ByteArray.size_append]; omega
theorem df2_size (hx : 0 ≤ B.x ∧ B.x ≤ 60) (hy : 0 ≤ B.y ∧ B.y ≤ 60) : (df2 A B).size ≤ 112400 := by
 have h1 := qh8 (A := A) hok hl h60
 have h2 := qeV hx hy
 unfold df2
 split
 ·rw [ByteArray.size_append]; omega
 ·omega
end
theorem qi3 {w : World} {b cap n : Nat} {l : List Cel} (h : Rd w (some ⟨b, 0, none⟩) (flat l)) (hl : l.length ≤ cap) : Rd w (some ⟨b, if cap = n then 0 else 0 + n * 6, none⟩) (flat (l.drop n)) := by
 by_cases e : cap = n
 ·rw [show l.drop n = [] from List.drop_eq_nil_of_le (by omega)]; exact Rd.nil _ _
 ·rw [if_neg e, ← qfg]
  refine ⟨(fun e => by cases e), fun ad e2 j u hj => ?_⟩
  cases e2
  rw [qbb, Nat.zero_add]
  rw [List.getElem?_drop] at hj
  have := qbk h (n * 6 + j) u hj
  rw [Nat.zero_add] at this
  exact this
theorem glq {w : World} {g r cap : Nat} {rows : List Row} {G : Gr} {F : Nat → Prop} {k : Nat} {q : Row} (h : GridIn w g r cap rows G F) (hq : rows[k]? = some q) : gl G (k : Int) = q.l := by
 unfold gl
 rw [Int.toNat_natCast, List.getD_eq_getElem?_getD, ← h.lines, List.getElem?_map, hq]; rfl
def qgu (l : List Cel) (x : Int) (m : List Cel) : List Cel := l.take x.toNat ++ m.take (l.length - x.toNat) ++ l.drop (x.toNat + (m.take (l.length - x.toNat)).length)
def qg2 (G : Gr) (x y : Int) (m : List Cel) : Gr := if y < G.h ∧ x < G.w then qda G y (qj (qgu (gl G y) x m)) else G
theorem qdk {l : List Cel} {x : Int} (m : List Cel) (h : x.toNat ≤ l.length) : (qgu l x m).length = l.length := by
 unfold qgu
 simp only [List.length_append, List.length_take, List.length_drop]; omega
theorem qh9 (G : Gr) (x y : Int) (m : List Cel) : (qg2 G x y m).w = G.w ∧ (qg2 G x y m).h = G.h := by unfold qg2 qda; split <;> exact ⟨rfl, rfl⟩
structure Bx where
 x : Int
 y : Int
 w : Int
 h : Int
def qcE (b : Bx) : Bool := decide ((0 ≤ b.x ∧ b.x ≤ 60) ∧ (0 ≤ b.y ∧ b.y ≤ 60) ∧ (0 ≤ b.w ∧ b.w ≤ 60) ∧ 0 ≤ b.h ∧ b.h ≤ 60)
theorem mayB_iff {b : Bx} : qcE b = true ↔ (0 ≤ b.x ∧ b.x ≤ 60) ∧ (0 ≤ b.y ∧ b.y ≤ 60) ∧ (0 ≤ b.w ∧ b.w ≤ 60) ∧ 0 ≤ b.h ∧ b.h ≤ 60 := by unfold qcE; exact decide_eq_true_iff
theorem qaF {P : Program} {N : Nat} {Q : Exit → Act → World → Prop} {f : Fr} {w : World} {x y : Code} {σ : Type} (f' : σ → Fr) (I : σ → World → Prop)
  (h1 : ∀ K : Act → World → Prop, (∀ s u, I s u → ∀ a, Has N (f' s) a → K a u) → WC P N (Exit.then K Q) x f w) (h2 : ∀ s u, I s u → WC P N Q y (f' s) u) : WC P N Q (.seq x y) f w :=
 x_seq fun K hK => h1 K fun s u hI a ha => hK (f' s) u (h2 s u hI) a ha
section
variable {w0 w w' : World} {F0 : Nat → Prop} {l : List Asn} {i : Nat}
theorem Sep.toOwn {b : Nat} {cs : List Value} {t : TypeId} (h : Sep w0 F0 w l) (i n sz : Nat) (hi : l[i]? = some (qW b cs t) := by rfl) (hl : cs.length = n * sz := by rfl) (hn : n ≤ maxLen := by decide) : Sep w0 F0 w (l.set i (qbO t sz (some b) n n cs)) := by
 obtain ⟨_, h⟩ := h.ref (B := fun _ : Unit => qbO t sz (some b) n n cs) hi fun F hA => ⟨(), Own.blk hA.1 hl hn, fun c e => Option.some.inj e ▸ hA.2⟩
 exact h
theorem SepOn.ch {is : List Nat} (h : SepOn w0 F0 l is w) : Ch F0 w0 w := h.elim fun _ h => h.1.ch
theorem SepOn.rd {is : List Nat} {b o : Nat} {ys : List Value} (h : SepOn w0 (fun _ => False) l is w) (hr : Rd w0 (some ⟨b, o, none⟩) ys) : Rd w (some ⟨b, o, none⟩) ys := hr.ch h.ch fun _ _ h => h
def qN (p : Nat) (G : Gr) : Asn := ⟨fun w F => GridAt w p G F, fun h hc hn => h.ch hc hn, fun h hF hl => h.mono hF hl⟩
theorem Sep.grid {p : Nat} {G : Gr} (h : Sep w0 F0 w l) (i : Nat) (hi : l[i]? = some (qN p G) := by rfl) : ∃ F, GridAt w p G F := by
 obtain ⟨F, h1, _⟩ := h.at hi
 exact ⟨F, h1⟩
theorem Sep.startG {p : Nat} {G : Gr} {F : Nat → Prop} (h : GridAt w p G F) : Sep w F w [qN p G] := Sep.one (A := qN p G) h h.lt
theorem Gz.ofG {p : Nat} {G : Gr} {F : Nat → Prop} (h : GridAt w p G F) : Gz w F := ⟨by have := h.hi p h.inF; have := h.lt p h.inF; omega, fun b hb => ⟨h.hi b hb, h.lt b hb⟩⟩
theorem Sep.tbG (h : Sep w0 F0 w l) (hg : Gz w0 F0) (hT : qI w0) : qI w :=
 qe h.ch hT (fun hb => by have := hg.lo _ hb; have := g_lt; omega) (fun hb => by have := hg.lo _ hb; have := g_lt; omega)
theorem Sep.gfin {p : Nat} {G : Gr} {F : Nat → Prop} {v : Value} (h : Sep w0 F w l) (hg : Gz w0 F) (hi : l[0]? = some (qN p G) := by rfl) : Ending.returned v = .returned v ∧ GridAt w p G (more F w0 w) ∧ Ch F w0 w := ⟨rfl, h.fin hg hi⟩
theorem Sep.gridNew {p : Nat} {G : Gr} (h : Sep w0 (fun _ => False) w l) (i : Nat) (hi : l[i]? = some (qN p G) := by rfl) : ∃ F, GridAt w p G F ∧ ∀ b, F b → w0.heap.size ≤ b := by
 obtain ⟨F, h1, h2, h3⟩ := h.ex
 exact ⟨F i, h1 i _ hi, fun b hb => (h3 i b hb).1.elim False.elim id⟩
theorem Sep.newGrid {p : Nat} {G : Gr} {F : Nat → Prop} (h : Sep w0 F0 w l) (hG : GridAt w' p G F) (hlo : ∀ b, F b → w.heap.size ≤ b) (hc : Ch (fun _ => False) w w') : Sep w0 F0 w' (l ++ [qN p G]) :=
 h.add (A := qN p G) hG (fun b hb => ⟨hlo b hb, hG.lt b hb⟩) hc
theorem Sep.gwh {p : Nat} {G : Gr} (h : Sep w0 F0 w l) (i : Nat) (hi : l[i]? = some (qN p G) := by rfl) : w.cell? ⟨p, 0, none⟩ = some (.int .i64 G.w) ∧ w.cell? ⟨p, 1, none⟩ = some (.int .i64 G.h) := by
 obtain ⟨F, r, rc, rows, hI⟩ := h.grid i hi
 exact ⟨hI.head.c 0, hI.head.c 1⟩
theorem Sep.glines {p : Nat} {G : Gr} (h : Sep w0 F0 w l) (i : Nat) (hi : l[i]? = some (qN p G) := by rfl) : ∃ r rc, w.cell? ⟨p, 2, none⟩ = some (.slice (some ⟨r, 0, none⟩) G.h.toNat rc) := by
 obtain ⟨F, r, rc, rows, hI⟩ := h.grid i hi
 exact ⟨r, rc, hI.len ▸ hI.head.c 2⟩
theorem SepOn.gwh {is : List Nat} {p : Nat} {G : Gr} (h : SepOn w0 F0 l is w) (i : Nat) (hm : is.contains i = true := by rfl) (hi : l[i]? = some (qN p G) := by rfl) : w.cell? ⟨p, 0, none⟩ = some (.int .i64 G.w) ∧ w.cell? ⟨p, 1, none⟩ = some (.int .i64 G.h) := by
 obtain ⟨l', h, e⟩ := h
 exact h.gwh i ((List.map_inj_left.1 e i (by simpa using hm)).trans hi)
theorem Sep.ownRd {e : TypeId} {sz b n cap : Nat} {xs : List Value} (h : Sep w0 F0 w l) (i : Nat) (hi : l[i]? = some (qbO e sz (some b) n cap xs) := by rfl) : Rd w (some ⟨b, 0, none⟩) xs := (h.own i hi).rd
def qa4 (p r rc : Nat) (rows : List Row) (G : Gr) : Asn := ⟨fun w F => GridIn w p r rc rows G F, fun h hc hn => h.ch hc hn, fun h hF hl => h.mono hF hl⟩
section
variable {p r rc : Nat} {rows : List Row} {G : Gr} {q : Row} {k : Nat}
theorem Sep.gopn (h : Sep w0 F0 w l) (i : Nat) (hi : l[i]? = some (qN p G) := by rfl) : ∃ r rc rows, Sep w0 F0 w (l.set i (qa4 p r rc rows G)) := by
 obtain ⟨⟨r, rc, rows⟩, h⟩ := h.ref (B := fun y : Nat × Nat × List Row => qa4 p y.1 y.2.1 y.2.2 G) hi fun F ⟨r, rc, rows, hI⟩ => ⟨(r, rc, rows), hI⟩
 exact ⟨r, rc, rows, h⟩
theorem Sep.gI (h : Sep w0 F0 w l) (i : Nat) (hi : l[i]? = some (qa4 p r rc rows G) := by rfl) : ∃ F, GridIn w p r rc rows G F := by
 obtain ⟨F, h1, _⟩ := h.at hi
 exact ⟨F, h1⟩
theorem Sep.gic (h : Sep w0 F0 w l) (i c : Nat) (hi : l[i]? = some (qa4 p r rc rows G) := by rfl) (hc : Nat.blt c 3 = true := by rfl) : w.cell? ⟨p, c, none⟩ = some ([.int .i64 G.w, .int .i64 G.h, .slice (some ⟨r, 0, none⟩) rows.length rc].getD c undef) :=
 (h.gI i hi).elim fun _ h => h.head.c c hc
theorem Sep.girow (h : Sep w0 F0 w l) (i : Nat) (hq : rows[k]? = some q) (hi : l[i]? = some (qa4 p r rc rows G) := by rfl) : w.cell? ⟨r, 0 + ((k : Nat) : Int).toNat * 1, none⟩ = some q.val := by
 obtain ⟨F, hI⟩ := h.gI i hi
 rw [Int.toNat_natCast, Nat.mul_one]
 exact qbk hI.body.rd k _ (by rw [List.getElem?_map, hq]; rfl)
theorem Sep.giln (h : Sep w0 F0 w l) (i : Nat) (hq : rows[k]? = some q) (hi : l[i]? = some (qa4 p r rc rows G) := by rfl) : Rd w (some ⟨q.b, 0, none⟩) (flat q.l) := by
 obtain ⟨F, hI⟩ := h.gI i hi
 exact (hI.line q (List.mem_of_getElem? hq)).1.rd
theorem SepOn.gic {is : List Nat} (h : SepOn w0 F0 l is w) (i c : Nat) (hm : is.contains i = true := by rfl) (hi : l[i]? = some (qa4 p r rc rows G) := by rfl) (hc : Nat.blt c 3 = true := by rfl) : w.cell? ⟨p, c, none⟩ = some ([.int .i64 G.w, .int .i64 G.h, .slice (some ⟨r, 0, none⟩) rows.length rc].getD c undef) := by
 obtain ⟨l', h, e⟩ := h
 exact h.gic i c ((List.map_inj_left.1 e i (by simpa using hm)).trans hi) hc
theorem SepOn.girow {is : List Nat} (h : SepOn w0 F0 l is w) (i : Nat) (hq : rows[k]? = some q) (hm : is.contains i = true := by rfl) (hi : l[i]? = some (qa4 p r rc rows G) := by rfl) : w.cell? ⟨r, 0 + ((k : Nat) : Int).toNat * 1, none⟩ = some q.val := by
 obtain ⟨l', h, e⟩ := h
 exact h.girow i hq ((List.map_inj_left.1 e i (by simpa using hm)).trans hi)
theorem Sep.gifacts (h : Sep w0 F0 w l) (i : Nat) (hi : l[i]? = some (qa4 p r rc rows G) := by rfl) : G.ok ∧ rows.length = G.h.toNat ∧ ∀ (k : Nat) (q : Row), rows[k]? = some q → q.l.length = q.n ∧ q.n = G.w.toNat ∧ gl G (k : Int) = q.l := by
 obtain ⟨F, hI⟩ := h.gI i hi
 refine ⟨hI.ok, hI.len, fun k q hq => ?_⟩
 have hm := List.mem_of_getElem? hq
 have h1 := (hI.line q hm).2
 have h2 : q.l.length = G.w.toNat := hI.ok.2.2.2 _ (hI.lines ▸ List.mem_map_of_mem hm)
 refine ⟨h1, by omega, ?_⟩
 unfold gl
 rw [Int.toNat_natCast, List.getD_eq_getElem?_getD, ← hI.lines, List.getElem?_map, hq]; rfl
theorem qha {k : Nat} (h : k < rows.length) : ∃ q, rows[k]? = some q := ⟨_, List.getElem?_eq_getElem h⟩
end
theorem Sep.own0 (h : Sep w0 F0 w l) (e : TypeId) (sz : Nat) : Sep w0 F0 w (l ++ [qbO e sz none 0 0 []]) := h.fresh (Own.nil w e sz) (fun g e => by cases e) (Ch.refl _ _)
end
theorem qi4 (s : Sty) (w : World) (hs : qdP s) : Calls Tryz.prog 66 [.agg #[.bool s.bold, .bool s.under, .bool s.turned, iX s.fore, iX s.back]].toArray w fun e w' => ∃ b n c, e = .returned (.slice (some ⟨b, 0, none⟩) n c) ∧ (qK s).length = n ∧ Own w' tInt 1 (some b) n c ((qK s).map (Value.int .i64)) ∧ w.heap.size ≤ b ∧ Ch (fun _ => False) w w' := by
 obtain ⟨⟨O, P⟩, Q, R⟩ := hs; have h := Sep.nil w; refine yA Tryz.func66 rfl <| ysr <| yo (zN [.bool s.bold, .bool s.under, .bool s.turned, iX s.fore, iX s.back] 33 h fun u f h => ?_); refine yz 2 <| ysr <| yo (zB [iX 0] 3 1 h fun u x h => ?_); refine yz 2 <| ys <| ysr <| yp 14 [] (.l (h.c 0 0) (.l (h.c 0 1) (.l (h.c 0 2) (.l (h.c 0 3) (.l (h.c 0 4) .z))))) <| ye <| q9 ?_; have h := h.toOwn 1 1 1; refine yU 6 (yU1 ?_); refine yx 1 <| ys <| yct <| yk <| qaF (σ := Nat × Nat × Nat) (fun ⟨o, n, c⟩ => [(1, pX f), (3, .slice (some ⟨o, 0, none⟩) n c), (19, .agg #[.bool s.bold, .bool s.under, .bool s.turned, .bool (decide (0 < s.fore)), .bool (decide (0 < s.back))]), (20, iX 0)]) (fun ⟨o, n, c⟩ u => (qcW s 1).length = n ∧ Sep w (fun _ => False) u [qW f [.bool s.bold, .bool s.under, .bool s.turned, iX s.fore, iX s.back] 33, qbO 3 1 (some o) n c ((qcW s 1).map (Value.int .i64))]) (fun S p => ?_) (fun gs u h => ?_)
 ·refine q9 <| yx 4 <| yx 1 <| yc (rY s.bold) (fun g => ?_) fun g => ?_
  ·have d : (qab s).getD 0 false = true := by simp [qab, g]
   refine q7 <| yp 10 [] (.l (h.c 0 3) (.q6 (29 + s.fore) (.l (h.c 0 4) (.q6 (39 + s.back) .z)))) <| yo (zB [iX 1] 3 1 h fun u T h => ?_); refine yo (zA 1 8 1 1 (1 + 1) ((qcW s 1).map (Value.int .i64)) h (Rd.all (h.b 2)) rfl (hz := by rw [qaU d, List.map_append]; rfl) (hb := by have := qbH s 0; simp only [maxLen]; omega) fun u U y h A => ?_); obtain ⟨B, rfl⟩ := A (by omega); refine yq 13 <| yE (nB (fun a ha => p (B, (1 + 1), y) _ ⟨by rw [qaU d, List.length_append, (show (qcW s 0).length = 1 from rfl)]; rfl, h.take 2⟩ a (ha.kp [1, 3, 19, 20])))
  have d : ¬ (qab s).getD 0 false = true := by simp [qab, g]
  refine qf (nB (fun a ha => p (x, 1, 1) _ ⟨by rw [qam d]; exact (show (qcW s 0).length = 1 from rfl), by rw [qam d]; exact h.take 2⟩ a (ha.kp [1, 3, 19, 20])))
 obtain ⟨o, n, c⟩ := gs; obtain ⟨hl, h⟩ := h; refine q7 <| yp 2 [] (.q6 1 .z) <| yE (nU (yU1 ?_)); refine yx 1 <| ys <| yct <| yk <| qaF (σ := Nat × Nat × Nat) (fun ⟨o, n, c⟩ => [(1, pX f), (3, .slice (some ⟨o, 0, none⟩) n c), (19, .agg #[.bool s.bold, .bool s.under, .bool s.turned, .bool (decide (0 < s.fore)), .bool (decide (0 < s.back))]), (20, iX 1)]) (fun ⟨o, n, c⟩ u => (qcW s 2).length = n ∧ Sep w (fun _ => False) u [qW f [.bool s.bold, .bool s.under, .bool s.turned, iX s.fore, iX s.back] 33, qbO 3 1 (some o) n c ((qcW s 2).map (Value.int .i64))]) (fun V q => ?_) (fun gs u h => ?_)
 ·refine q9 <| yx 4 <| yx 1 <| yc (rY s.under) (fun i => ?_) fun i => ?_
  ·have d : (qab s).getD 1 false = true := by simp [qab, i]
   refine q7 <| yp 10 [] (.l (h.c 0 3) (.q6 (29 + s.fore) (.l (h.c 0 4) (.q6 (39 + s.back) .z)))) <| yo (zB [iX 4] 3 1 h fun u W h => ?_); refine yo (zA 1 8 1 1 (n + 1) ((qcW s 2).map (Value.int .i64)) h (Rd.all (h.b 2)) rfl (hz := by rw [qaU d, List.map_append]; rfl) (hb := by have := qbH s 1; simp only [maxLen]; omega) fun u X C h D => ?_); obtain ⟨E, rfl⟩ := D (by omega); refine yq 13 <| yE (nB (fun a ha => q (E, (n + 1), C) _ ⟨by rw [qaU d, List.length_append, hl]; rfl, h.take 2⟩ a (ha.kp [1, 3, 19, 20])))
  have d : ¬ (qab s).getD 1 false = true := by simp [qab, i]
  refine qf (nB (fun a ha => q (o, n, c) _ ⟨by rw [qam d]; exact hl, by rw [qam d]; exact h.take 2⟩ a (ha.kp [1, 3, 19, 20])))
 obtain ⟨o, n, c⟩ := gs; obtain ⟨hl, h⟩ := h; refine q7 <| yp 2 [] (.q6 2 .z) <| yE (nU (yU1 ?_)); refine yx 1 <| ys <| yct <| yk <| qaF (σ := Nat × Nat × Nat) (fun ⟨o, n, c⟩ => [(1, pX f), (3, .slice (some ⟨o, 0, none⟩) n c), (19, .agg #[.bool s.bold, .bool s.under, .bool s.turned, .bool (decide (0 < s.fore)), .bool (decide (0 < s.back))]), (20, iX 2)]) (fun ⟨o, n, c⟩ u => (qcW s 3).length = n ∧ Sep w (fun _ => False) u [qW f [.bool s.bold, .bool s.under, .bool s.turned, iX s.fore, iX s.back] 33, qbO 3 1 (some o) n c ((qcW s 3).map (Value.int .i64))]) (fun Y r => ?_) (fun gs u h => ?_)
 ·refine q9 <| yx 4 <| yx 1 <| yc (rY s.turned) (fun j => ?_) fun j => ?_
  ·have d : (qab s).getD 2 false = true := by simp [qab, j]
   refine q7 <| yp 10 [] (.l (h.c 0 3) (.q6 (29 + s.fore) (.l (h.c 0 4) (.q6 (39 + s.back) .z)))) <| yo (zB [iX 7] 3 1 h fun u Z h => ?_); refine yo (zA 1 8 1 1 (n + 1) ((qcW s 3).map (Value.int .i64)) h (Rd.all (h.b 2)) rfl (hz := by rw [qaU d, List.map_append]; rfl) (hb := by have := qbH s 2; simp only [maxLen]; omega) fun u a0 F h G => ?_); obtain ⟨H, rfl⟩ := G (by omega); refine yq 13 <| yE (nB (fun a ha => r (H, (n + 1), F) _ ⟨by rw [qaU d, List.length_append, hl]; rfl, h.take 2⟩ a (ha.kp [1, 3, 19, 20])))
  have d : ¬ (qab s).getD 2 false = true := by simp [qab, j]
  refine qf (nB (fun a ha => r (o, n, c) _ ⟨by rw [qam d]; exact hl, by rw [qam d]; exact h.take 2⟩ a (ha.kp [1, 3, 19, 20])))
 obtain ⟨o, n, c⟩ := gs; obtain ⟨hl, h⟩ := h; refine q7 <| yp 2 [] (.q6 3 .z) <| yE (nU (yU1 ?_)); refine yx 1 <| ys <| yct <| yk <| qaF (σ := Nat × Nat × Nat) (fun ⟨o, n, c⟩ => [(1, pX f), (3, .slice (some ⟨o, 0, none⟩) n c), (19, .agg #[.bool s.bold, .bool s.under, .bool s.turned, .bool (decide (0 < s.fore)), .bool (decide (0 < s.back))]), (20, iX 3)]) (fun ⟨o, n, c⟩ u => (qcW s 4).length = n ∧ Sep w (fun _ => False) u [qW f [.bool s.bold, .bool s.under, .bool s.turned, iX s.fore, iX s.back] 33, qbO 3 1 (some o) n c ((qcW s 4).map (Value.int .i64))]) (fun a1 t => ?_) (fun gs u h => ?_)
 ·refine q9 <| yx 4 <| yx 1 <| yc (rL 0 s.fore) (fun k => ?_) fun k => ?_
  ·have d : (qab s).getD 3 false = true := by simp [qab, k]
   refine q7 <| yp 10 [] (.l (h.c 0 3) (.q6 (29 + s.fore) (.l (h.c 0 4) (.q6 (39 + s.back) .z)))) <| yo (zB [iX (29 + s.fore)] 3 1 h fun u a2 h => ?_); refine yo (zA 1 8 1 1 (n + 1) ((qcW s 4).map (Value.int .i64)) h (Rd.all (h.b 2)) rfl (hz := by rw [qaU d, List.map_append]; rfl) (hb := by have := qbH s 3; simp only [maxLen]; omega) fun u a3 I h J => ?_); obtain ⟨K, rfl⟩ := J (by omega); refine yq 13 <| yE (nB (fun a ha => t (K, (n + 1), I) _ ⟨by rw [qaU d, List.length_append, hl]; rfl, h.take 2⟩ a (ha.kp [1, 3, 19, 20])))
  have d : ¬ (qab s).getD 3 false = true := by simp [qab, k]
  refine qf (nB (fun a ha => t (o, n, c) _ ⟨by rw [qam d]; exact hl, by rw [qam d]; exact h.take 2⟩ a (ha.kp [1, 3, 19, 20])))
 obtain ⟨o, n, c⟩ := gs; obtain ⟨hl, h⟩ := h; refine q7 <| yp 2 [] (.q6 4 .z) <| yE (nU (yU1 ?_)); refine yx 1 <| ys <| yct <| yk <| qaF (σ := Nat × Nat × Nat) (fun ⟨o, n, c⟩ => [(1, pX f), (3, .slice (some ⟨o, 0, none⟩) n c), (19, .agg #[.bool s.bold, .bool s.under, .bool s.turned, .bool (decide (0 < s.fore)), .bool (decide (0 < s.back))]), (20, iX 4)]) (fun ⟨o, n, c⟩ u => (qcW s 5).length = n ∧ Sep w (fun _ => False) u [qW f [.bool s.bold, .bool s.under, .bool s.turned, iX s.fore, iX s.back] 33, qbO 3 1 (some o) n c ((qcW s 5).map (Value.int .i64))]) (fun a4 v => ?_) (fun gs u h => ?_)
 ·refine q9 <| yx 4 <| yx 1 <| yc (rL 0 s.back) (fun m => ?_) fun m => ?_
  ·have d : (qab s).getD 4 false = true := by simp [qab, m]
   refine q7 <| yp 10 [] (.l (h.c 0 3) (.q6 (29 + s.fore) (.l (h.c 0 4) (.q6 (39 + s.back) .z)))) <| yo (zB [iX (39 + s.back)] 3 1 h fun u a5 h => ?_); refine yo (zA 1 8 1 1 (n + 1) ((qcW s 5).map (Value.int .i64)) h (Rd.all (h.b 2)) rfl (hz := by rw [qaU d, List.map_append]; rfl) (hb := by have := qbH s 4; simp only [maxLen]; omega) fun u a6 L h M => ?_); obtain ⟨N, rfl⟩ := M (by omega); refine yq 13 <| yE (nB (fun a ha => v (N, (n + 1), L) _ ⟨by rw [qaU d, List.length_append, hl]; rfl, h.take 2⟩ a (ha.kp [1, 3, 19, 20])))
  have d : ¬ (qab s).getD 4 false = true := by simp [qab, m]
  refine qf (nB (fun a ha => v (o, n, c) _ ⟨by rw [qam d]; exact hl, by rw [qam d]; exact h.take 2⟩ a (ha.kp [1, 3, 19, 20])))
 obtain ⟨o, n, c⟩ := gs; obtain ⟨hl, h⟩ := h; refine q7 <| yp 2 [] (.q6 5 .z) <| yE (nU (yU1 ?_)); refine yx 1 <| ys <| ycf <| qp (eS (qd (qb (nS ?_)))); refine yx 2 <| q8 (yR1 (.slice (some ⟨o, 0, none⟩) n c) ?_); exact ⟨o, n, c, rfl, hl, h.own 1, ((h.newo 1) _ rfl).1, h.ch⟩
theorem qcY (s : Sty) (w : World) (hT : LT w) (hs : qdP s) : Calls Tryz.prog 39 [.agg #[.bool s.bold, .bool s.under, .bool s.turned, iX s.fore, iX s.back]].toArray w fun e w' => e = .returned (.string (qh5 s)) ∧ Ch (fun _ => False) w w' := by
 have h := Sep.nil w; refine yA Tryz.func39 rfl <| ysr <| yo (zN [.bool s.bold, .bool s.under, .bool s.turned, iX s.fore, iX s.back] 33 h fun u j h => ?_); refine yz 2 <| yx 1 <| ys <| ysr <| yp 1 [] (.a (h.cs 0 0 5) .z) <| yo (yC (qi4 s _ hs) ?_); rintro _ u ⟨c, b, d, rfl, m, r, t, v⟩; refine ⟨_, rfl, ?_⟩; have h := h.fresh r (fun g e => zi e ▸ t) v; refine yz 4 <| q9 <| qP [3, 7, 8, 9] (f' := [(3, .string csiB), (7, .slice (some ⟨c, 0, none⟩) b d), (8, iX ((b : Nat) : Int)), (9, iX 0)]) <| qz (σ := Nat) (fun k => [(3, .string (qg1 (qK s) k)), (7, .slice (some ⟨c, 0, none⟩) b d), (8, iX ((b : Nat) : Int)), (9, iX ((k : Nat) : Int))]) (fun k u => k ≤ (qK s).length ∧ Sep w (fun _ => False) u [qW j [.bool s.bold, .bool s.under, .bool s.turned, iX s.fore, iX s.back] 33, qbO 3 1 (some c) b d ((qK s).map (Value.int .i64))]) (fun k => (qK s).length - k) 0 rfl ?_ ?_
 ·exact ⟨Nat.zero_le _, h.take 2⟩
 intro k u y D f; obtain ⟨hk, h⟩ := y; have E : (qg1 (qK s) k).size ≤ 2 + 4 * k := qfK (fun x hx => by have := qgt hs 5 (Nat.le_refl _) x hx; omega) k (by omega); have F : (qK s).length ≤ 6 := qbH s 5; refine yx 1 <| ys <| yc (rL ((k : Nat) : Int) ((b : Nat) : Int)) (fun A => ?_) fun A => ?_
 ·have hg := qgt hs 5 (Nat.le_refl _) _ (qjv (l := qK s) (k := k) (by omega)); have G := qbx (n := (qK s).getD k 0) (by omega) (by omega); refine yk <| ys <| q9 <| ysr <| yp 5 [] (.i ((k : Nat) : Int) (b) (.l (o := (0 + (((k : Nat) : Int)).toNat * 1)) (qb6 (h.own 1).rd k (by omega)) .z)) <| ye <| ys <| yx 2 <| yc (rL 0 ((k : Nat) : Int)) (fun B => ?_) fun B => ?_
  ·refine q7 <| yp 3 [] (.p (q := ((qg1 (qK s) k)).size + (semB).size ≤ 9223372036854775807) (by (try simp only [ByteArray.size_append, qaZ, qaK, qcB, qcC]); omega) .z) <| ye <| q7 <| yq 2 <| yo (yQ (h.look (qbf ((qK s).getD k 0) _ (qJ h.ch hT (fun _ h => h.elim)).pt (by omega) (by omega))) fun u h => ?_); refine yp 5 [] (.p (q := (((qg1 (qK s) k) ++ semB)).size + ((qa6 ((qK s).getD k 0))).size ≤ 9223372036854775807) (by (try simp only [ByteArray.size_append, qaZ, qaK, qcB, qcC]); omega) .z) <| yE (nB (nS ?_)); refine q7 <| yp 2 [] (.q6 (((k : Nat) : Int) + 1) .z) <| yE (fun a ha => f (k + 1) _ ⟨by omega, h.take 2⟩ (by show (qK s).length - (k + 1) < (qK s).length - k; omega) a (by rw [styK_on (by omega)]; exact ha.kp [3, 7, 8, 9]))
  refine yk <| q7 <| yq 2 <| yo (yQ (h.look (qbf ((qK s).getD k 0) _ (qJ h.ch hT (fun _ h => h.elim)).pt (by omega) (by omega))) fun u h => ?_); refine yp 5 [] (.p (q := ((qg1 (qK s) k)).size + ((qa6 ((qK s).getD k 0))).size ≤ 9223372036854775807) (by (try simp only [ByteArray.size_append, qaZ, qaK, qcB, qcC]); omega) .z) <| yE (nB (nS ?_)); refine q7 <| yp 2 [] (.q6 (((k : Nat) : Int) + 1) .z) <| yE (fun a ha => f (k + 1) _ ⟨by omega, h.take 2⟩ (by show (qK s).length - (k + 1) < (qK s).length - k; omega) a (by rw [styK_off (by omega)]; exact ha.kp [3, 7, 8, 9]))
 have C : k = b := by omega
 refine qp (eS (qd (qb (nS ?_)))); refine ysr <| yp 3 [] (.p (q := ((qg1 (qK s) k)).size + (mB).size ≤ 9223372036854775807) (by (try simp only [ByteArray.size_append, qaZ, qaK, qcB, qcC]); omega) .z) <| ye <| q8 (yR1 (.string ((qg1 (qK s) k) ++ mB)) ?_); refine ⟨?_, h.ch⟩; unfold qh5; rw [m, ← C]
theorem qhb (x y : Int) (w : World) (hT : LT w) (hx : 0 ≤ x ∧ x ≤ 60) (hy : 0 ≤ y ∧ y ≤ 60) : Calls Tryz.prog 37 [iX x, iX y].toArray w fun e w' => e = .returned (.string (toB x y)) ∧ Ch (fun _ => False) w w' := by
 have a := qbx (n := x + 1) (by omega) (by omega); have b := qbx (n := y + 1) (by omega) (by omega); have h := Sep.nil w; refine yA Tryz.func37 rfl <| yx 1 <| ysr <| yp 2 [] (.q6 (y + 1) .z) <| yo (yQ (h.look (qbf (y + 1) _ (qJ h.ch hT (fun _ h => h.elim)).pt (by omega) (by omega))) fun u h => ?_); refine yp 7 [] (.p (q := (csiB).size + ((qa6 (y + 1))).size ≤ 9223372036854775807) (by (try simp only [ByteArray.size_append, qaZ, qaK, qcB, qcC]); omega) (.p (q := ((csiB ++ (qa6 (y + 1)))).size + (semB).size ≤ 9223372036854775807) (by (try simp only [ByteArray.size_append, qaZ, qaK, qcB, qcC]); omega) (.q6 (x + 1) .z))) <| yo (yQ (h.look (qbf (x + 1) _ (qJ h.ch hT (fun _ h => h.elim)).pt (by omega) (by omega))) fun u h => ?_); refine yp 11 [] (.p (q := (((csiB ++ (qa6 (y + 1))) ++ semB)).size + ((qa6 (x + 1))).size ≤ 9223372036854775807) (by (try simp only [ByteArray.size_append, qaZ, qaK, qcB, qcC]); omega) (.p (q := ((((csiB ++ (qa6 (y + 1))) ++ semB) ++ (qa6 (x + 1)))).size + (hB).size ≤ 9223372036854775807) (by (try simp only [ByteArray.size_append, qaZ, qaK, qcB, qcC]); omega) .z)) <| ye <| q8 (yR1 (.string ((((csiB ++ (qa6 (y + 1))) ++ semB) ++ (qa6 (x + 1))) ++ hB)) ?_); exact ⟨rfl, h.ch⟩
theorem ends_any (b1 b2 c1 c2 n1 n2 x e : Nat) (l m : List Cel) (w : World) (h1 : Rd w (some ⟨b1, 0, none⟩) (flat l)) (h2 : Rd w (some ⟨b2, 0, none⟩) (flat m)) (hn1 : l.length = n1) (hn2 : m.length = n2) (hl : l.length = m.length) (hm : m.length ≤ 60) (hE : qcX l m = (x, e)) : Calls Tryz.prog 36 [.slice (some ⟨b1, 0, none⟩) n1 c1, .slice (some ⟨b2, 0, none⟩) n2 c2].toArray w fun r w' => r = .returned (.tuple #[iX (x : Int), iX (e : Int)]) ∧ Ch (fun _ => False) w w' := by
 subst hn1 hn2; have h := Sep.nil w; refine yA Tryz.func36 rfl <| yx 2 <| yx 4 <| ys <| q9 <| qP [0, 1, 6, 7] (f' := [(0, .slice (some ⟨b1, 0, none⟩) l.length c1), (1, .slice (some ⟨b2, 0, none⟩) m.length c2), (6, iX 0), (7, iX ((m.length : Nat) : Int))]) <| qz (σ := Nat) (fun k => [(0, .slice (some ⟨b1, 0, none⟩) l.length c1), (1, .slice (some ⟨b2, 0, none⟩) m.length c2), (6, iX ((k : Nat) : Int)), (7, iX ((m.length : Nat) : Int))]) (fun k u => k ≤ m.length ∧ l.take k = m.take k ∧ Sep w (fun _ => False) u []) (fun k => m.length - k) 0 rfl ?_ ?_
 ·exact ⟨Nat.zero_le _, rfl, h.take 0⟩
 intro k u s E t; obtain ⟨hk, o, h⟩ := s; refine ys <| ys <| zD [] h fun u h => yd (uL 0 4) [] .z <| yv [13] (rL ((k : Nat) : Int) ((m.length : Nat) : Int)) (fun v => ?_) fun v => ?_
 ·refine yd (uL 4 10) [] (.i ((k : Nat) : Int) (l.length) (.m (qb8 (i := ((k : Nat) : Int)) (h.rd h1) (by omega) (by omega)) (.m (qh (i := ((k : Nat) : Int)) (h.rd h1) (by omega) (by omega) 1 _ (by decide) rfl) (.m (qh (i := ((k : Nat) : Int)) (h.rd h1) (by omega) (by omega) 2 _ (by decide) rfl) (.m (qh (i := ((k : Nat) : Int)) (h.rd h1) (by omega) (by omega) 3 _ (by decide) rfl) (.m (qh (i := ((k : Nat) : Int)) (h.rd h1) (by omega) (by omega) 4 _ (by decide) rfl) (.m (qh (i := ((k : Nat) : Int)) (h.rd h1) (by omega) (by omega) 5 _ (by decide) rfl) (.e (.i ((k : Nat) : Int) (m.length) (.m (qb8 (i := ((k : Nat) : Int)) (h.rd h2) (by omega) (by omega)) (.m (qh (i := ((k : Nat) : Int)) (h.rd h2) (by omega) (by omega) 1 _ (by decide) rfl) (.m (qh (i := ((k : Nat) : Int)) (h.rd h2) (by omega) (by omega) 2 _ (by decide) rfl) (.m (qh (i := ((k : Nat) : Int)) (h.rd h2) (by omega) (by omega) 3 _ (by decide) rfl) (.m (qh (i := ((k : Nat) : Int)) (h.rd h2) (by omega) (by omega) 4 _ (by decide) rfl) (.m (qh (i := ((k : Nat) : Int)) (h.rd h2) (by omega) (by omega) 5 _ (by decide) rfl) (.e .z)))))))))))))))) <| yDe (nS ?_); refine yc (rY ((((gc l ((k : Nat) : Int)).rune : Int) == (gc m ((k : Nat) : Int)).rune) && ((((gc l ((k : Nat) : Int)).sty.bold == (gc m ((k : Nat) : Int)).sty.bold) && (((gc l ((k : Nat) : Int)).sty.under == (gc m ((k : Nat) : Int)).sty.under) && (((gc l ((k : Nat) : Int)).sty.turned == (gc m ((k : Nat) : Int)).sty.turned) && ((((gc l ((k : Nat) : Int)).sty.fore : Int) == (gc m ((k : Nat) : Int)).sty.fore) && ((((gc l ((k : Nat) : Int)).sty.back : Int) == (gc m ((k : Nat) : Int)).sty.back) && true))))) && true))) (fun c => ?_) fun c => ?_
  ·rw [qbn] at c; have d := eq_of_beq c; refine yk <| q9 <| q7 <| yp 3 [] (.q6 (((k : Nat) : Int) + 1) .z) <| yE (nB  (fun a ha => t (k + 1) _ ⟨by omega, qcA o (by omega) (by omega) (by rw [← gc_at (by omega), ← gc_at (by omega)]; exact d), h.take 0⟩ (by show m.length - (k + 1) < m.length - k; omega) a (ha.kp [0, 1, 6, 7])))
  rw [qbn] at c; have y : ¬ _ := fun e => absurd (beq_iff_eq.2 e) (by rw [c]; decide); have hx : qc1 l m = k := qcD k l m (by omega) (by omega) o (.inr (.inr y)); refine qp (eS (qd (qb (nS ?_)))); refine ys <| q9 <| qP [0, 1, 6, 7] (f' := [(0, .slice (some ⟨b1, 0, none⟩) l.length c1), (1, .slice (some ⟨b2, 0, none⟩) m.length c2), (6, iX ((k : Nat) : Int)), (7, iX ((m.length : Nat) : Int))]) <| qz (σ := Nat) (fun j => [(0, .slice (some ⟨b1, 0, none⟩) l.length c1), (1, .slice (some ⟨b2, 0, none⟩) m.length c2), (6, iX ((k : Nat) : Int)), (7, iX ((j : Nat) : Int))]) (fun j u => k ≤ j ∧ j ≤ m.length ∧ l.drop j = m.drop j ∧ Sep w (fun _ => False) u []) (fun j => j) m.length rfl ?_ ?_
  ·exact ⟨hk, Nat.le_refl _, by rw [List.drop_length, ← hl, List.drop_length], h.take 0⟩
  intro j u A F B; obtain ⟨f, b, hd, h⟩ := A; refine ys <| ys <| zD [] h fun u h => yd (uL 0 4) [] .z <| yv [29] (rL ((k : Nat) : Int) ((j : Nat) : Int)) (fun p => ?_) fun p => ?_
  ·refine yd (uL 4 12) [] (.q6 (((j : Nat) : Int) - 1) (.i (((j : Nat) : Int) - 1) (l.length) (.m (qb8 (i := (((j : Nat) : Int) - 1)) (h.rd h1) (by omega) (by omega)) (.m (qh (i := (((j : Nat) : Int) - 1)) (h.rd h1) (by omega) (by omega) 1 _ (by decide) rfl) (.m (qh (i := (((j : Nat) : Int) - 1)) (h.rd h1) (by omega) (by omega) 2 _ (by decide) rfl) (.m (qh (i := (((j : Nat) : Int) - 1)) (h.rd h1) (by omega) (by omega) 3 _ (by decide) rfl) (.m (qh (i := (((j : Nat) : Int) - 1)) (h.rd h1) (by omega) (by omega) 4 _ (by decide) rfl) (.m (qh (i := (((j : Nat) : Int) - 1)) (h.rd h1) (by omega) (by omega) 5 _ (by decide) rfl) (.e (.q6 (((j : Nat) : Int) - 1) (.i (((j : Nat) : Int) - 1) (m.length) (.m (qb8 (i := (((j : Nat) : Int) - 1)) (h.rd h2) (by omega) (by omega)) (.m (qh (i := (((j : Nat) : Int) - 1)) (h.rd h2) (by omega) (by omega) 1 _ (by decide) rfl) (.m (qh (i := (((j : Nat) : Int) - 1)) (h.rd h2) (by omega) (by omega) 2 _ (by decide) rfl) (.m (qh (i := (((j : Nat) : Int) - 1)) (h.rd h2) (by omega) (by omega) 3 _ (by decide) rfl) (.m (qh (i := (((j : Nat) : Int) - 1)) (h.rd h2) (by omega) (by omega) 4 _ (by decide) rfl) (.m (qh (i := (((j : Nat) : Int) - 1)) (h.rd h2) (by omega) (by omega) 5 _ (by decide) rfl) (.e .z)))))))))))))))))) <| yDe (nS ?_); refine yc (rY ((((gc l (((j : Nat) : Int) - 1)).rune : Int) == (gc m (((j : Nat) : Int) - 1)).rune) && ((((gc l (((j : Nat) : Int) - 1)).sty.bold == (gc m (((j : Nat) : Int) - 1)).sty.bold) && (((gc l (((j : Nat) : Int) - 1)).sty.under == (gc m (((j : Nat) : Int) - 1)).sty.under) && (((gc l (((j : Nat) : Int) - 1)).sty.turned == (gc m (((j : Nat) : Int) - 1)).sty.turned) && ((((gc l (((j : Nat) : Int) - 1)).sty.fore : Int) == (gc m (((j : Nat) : Int) - 1)).sty.fore) && ((((gc l (((j : Nat) : Int) - 1)).sty.back : Int) == (gc m (((j : Nat) : Int) - 1)).sty.back) && true))))) && true))) (fun g => ?_) fun g => ?_
   ·rw [qbn] at g; have d := eq_of_beq g; refine yk <| q9 <| q7 <| yp 3 [] (.q6 (((j : Nat) : Int) - 1) .z) <| yE (nB  (fun a ha => B (j - 1) _ ⟨by omega, by omega, qfL (by omega) hl b hd d, h.take 0⟩ (by show j - 1 < j; omega) a (by rw [show ((j - 1 : Nat) : Int) = (j : Int) - 1 by omega]; exact ha.kp [0, 1, 6, 7])))
   rw [qbn] at g; have q : ¬ _ := fun e => absurd (beq_iff_eq.2 e) (by rw [g]; decide); refine qp (eS (qd (qb (nS ?_)))); refine yx 4 <| q8 (yR2 [iX ((k : Nat) : Int), iX ((j : Nat) : Int)] .z ?_); obtain ⟨rfl, rfl⟩ := Prod.mk.inj ((qdj hl hx f b hd (.inr q)).symm.trans hE); exact ⟨rfl, h.ch⟩
  refine yd (uL 4 12) [] .z <| yDe (nS ?_); refine ycf <| qp (eS (qd (qb (nS ?_)))); refine yx 4 <| q8 (yR2 [iX ((k : Nat) : Int), iX ((j : Nat) : Int)] .z ?_); obtain ⟨rfl, rfl⟩ := Prod.mk.inj ((qdj hl hx f b hd (.inl (by omega))).symm.trans hE); exact ⟨rfl, h.ch⟩
 have hx : qc1 l m = k := qcD k l m (by omega) (by omega) o (.inl (by omega)); refine yd (uL 4 10) [] .z <| yDe (nS ?_); refine ycf <| qp (eS (qd (qb (nS ?_)))); refine ys <| q9 <| qP [0, 1, 6, 7] (f' := [(0, .slice (some ⟨b1, 0, none⟩) l.length c1), (1, .slice (some ⟨b2, 0, none⟩) m.length c2), (6, iX ((k : Nat) : Int)), (7, iX ((m.length : Nat) : Int))]) <| qz (σ := Nat) (fun j => [(0, .slice (some ⟨b1, 0, none⟩) l.length c1), (1, .slice (some ⟨b2, 0, none⟩) m.length c2), (6, iX ((k : Nat) : Int)), (7, iX ((j : Nat) : Int))]) (fun j u => k ≤ j ∧ j ≤ m.length ∧ l.drop j = m.drop j ∧ Sep w (fun _ => False) u []) (fun j => j) m.length rfl ?_ ?_
 ·exact ⟨hk, Nat.le_refl _, by rw [List.drop_length, ← hl, List.drop_length], h.take 0⟩
 intro j u C G D; obtain ⟨f, b, hd, h⟩ := C; refine ys <| ys <| zD [] h fun u h => yd (uL 0 4) [] .z <| yv [29] (rL ((k : Nat) : Int) ((j : Nat) : Int)) (fun p => ?_) fun p => ?_
 ·refine yd (uL 4 12) [] (.q6 (((j : Nat) : Int) - 1) (.i (((j : Nat) : Int) - 1) (l.length) (.m (qb8 (i := (((j : Nat) : Int) - 1)) (h.rd h1) (by omega) (by omega)) (.m (qh (i := (((j : Nat) : Int) - 1)) (h.rd h1) (by omega) (by omega) 1 _ (by decide) rfl) (.m (qh (i := (((j : Nat) : Int) - 1)) (h.rd h1) (by omega) (by omega) 2 _ (by decide) rfl) (.m (qh (i := (((j : Nat) : Int) - 1)) (h.rd h1) (by omega) (by omega) 3 _ (by decide) rfl) (.m (qh (i := (((j : Nat) : Int) - 1)) (h.rd h1) (by omega) (by omega) 4 _ (by decide) rfl) (.m (qh (i := (((j : Nat) : Int) - 1)) (h.rd h1) (by omega) (by omega) 5 _ (by decide) rfl) (.e (.q6 (((j : Nat) : Int) - 1) (.i (((j : Nat) : Int) - 1) (m.length) (.m (qb8 (i := (((j : Nat) : Int) - 1)) (h.rd h2) (by omega) (by omega)) (.m (qh (i := (((j : Nat) : Int) - 1)) (h.rd h2) (by omega) (by omega) 1 _ (by decide) rfl) (.m (qh (i := (((j : Nat) : Int) - 1)) (h.rd h2) (by omega) (by omega) 2 _ (by decide) rfl) (.m (qh (i := (((j : Nat) : Int) - 1)) (h.rd h2) (by omega) (by omega) 3 _ (by decide) rfl) (.m (qh (i := (((j : Nat) : Int) - 1)) (h.rd h2) (by omega) (by omega) 4 _ (by decide) rfl) (.m (qh (i := (((j : Nat) : Int) - 1)) (h.rd h2) (by omega) (by omega) 5 _ (by decide) rfl) (.e .z)))))))))))))))))) <| yDe (nS ?_); refine yc (rY ((((gc l (((j : Nat) : Int) - 1)).rune : Int) == (gc m (((j : Nat) : Int) - 1)).rune) && ((((gc l (((j : Nat) : Int) - 1)).sty.bold == (gc m (((j : Nat) : Int) - 1)).sty.bold) && (((gc l (((j : Nat) : Int) - 1)).sty.under == (gc m (((j : Nat) : Int) - 1)).sty.under) && (((gc l (((j : Nat) : Int) - 1)).sty.turned == (gc m (((j : Nat) : Int) - 1)).sty.turned) && ((((gc l (((j : Nat) : Int) - 1)).sty.fore : Int) == (gc m (((j : Nat) : Int) - 1)).sty.fore) && ((((gc l (((j : Nat) : Int) - 1)).sty.back : Int) == (gc m (((j : Nat) : Int) - 1)).sty.back) && true))))) && true))) (fun n => ?_) fun n => ?_
  ·rw [qbn] at n; have d := eq_of_beq n; refine yk <| q9 <| q7 <| yp 3 [] (.q6 (((j : Nat) : Int) - 1) .z) <| yE (nB  (fun a ha => D (j - 1) _ ⟨by omega, by omega, qfL (by omega) hl b hd d, h.take 0⟩ (by show j - 1 < j; omega) a (by rw [show ((j - 1 : Nat) : Int) = (j : Int) - 1 by omega]; exact ha.kp [0, 1, 6, 7])))
  rw [qbn] at n; have q : ¬ _ := fun e => absurd (beq_iff_eq.2 e) (by rw [n]; decide); refine qp (eS (qd (qb (nS ?_)))); refine yx 4 <| q8 (yR2 [iX ((k : Nat) : Int), iX ((j : Nat) : Int)] .z ?_); obtain ⟨rfl, rfl⟩ := Prod.mk.inj ((qdj hl hx f b hd (.inr q)).symm.trans hE); exact ⟨rfl, h.ch⟩
 refine yd (uL 4 12) [] .z <| yDe (nS ?_); refine ycf <| qp (eS (qd (qb (nS ?_)))); refine yx 4 <| q8 (yR2 [iX ((k : Nat) : Int), iX ((j : Nat) : Int)] .z ?_); obtain ⟨rfl, rfl⟩ := Prod.mk.inj ((qdj hl hx f b hd (.inl (by omega))).symm.trans hE); exact ⟨rfl, h.ch⟩
theorem qi5 (b o c n : Nat) (l : List Cel) (w : World) (hT : LT w) (hr : Rd w (some ⟨b, o, none⟩) (flat l)) (hn : l.length = n) (hl : l.length ≤ 60) (hok : ∀ c ∈ l, qdP c.sty) : Calls Tryz.prog 38 [.slice (some ⟨b, o, none⟩) n c].toArray w fun e w' => e = .returned (.string (wrB l)) ∧ Ch (fun _ => False) w w' := by
 subst hn; have h := Sep.nil w; refine yA Tryz.func38 rfl <| yx 1 <| yx 1 <| ys <| yx 3 <| q9 <| qP [0, 3, 6, 7, 8] (f' := [(0, .slice (some ⟨b, o, none⟩) l.length c), (3, oX), (6, .slice (some ⟨b, o, none⟩) l.length c), (7, iX ((l.length : Nat) : Int)), (8, iX 0)]) <| qz (σ := Nat) (fun k => [(0, .slice (some ⟨b, o, none⟩) l.length c), (3, .string (wrK l k)), (6, .slice (some ⟨b, o, none⟩) l.length c), (7, iX ((l.length : Nat) : Int)), (8, iX ((k : Nat) : Int))]) (fun k u => k ≤ l.length ∧ Sep w (fun _ => False) u []) (fun k => l.length - k) 0 rfl ?_ ?_
 ·exact ⟨Nat.zero_le _, h.take 0⟩
 intro k u t A f; obtain ⟨hk, h⟩ := t; have B : (wrK l k).size ≤ 31 * k := qeW hok k (by omega); refine yx 1 <| ys <| yc (rL ((k : Nat) : Int) ((l.length : Nat) : Int)) (fun v => ?_) fun v => ?_
 ·have s := hok _ (gc_in (l := l) (k := k) (by omega)); have C := qc7 s; have D := qh6 (gc l ((k : Nat) : Int)).rune; refine yk <| ys <| q9 <| ysr <| yp 3 [] (.i ((k : Nat) : Int) (l.length) (.m (qb8 (i := ((k : Nat) : Int)) (h.rd hr) (by omega) (by omega)) (.m (qh (i := ((k : Nat) : Int)) (h.rd hr) (by omega) (by omega) 1 _ (by decide) rfl) (.m (qh (i := ((k : Nat) : Int)) (h.rd hr) (by omega) (by omega) 2 _ (by decide) rfl) (.m (qh (i := ((k : Nat) : Int)) (h.rd hr) (by omega) (by omega) 3 _ (by decide) rfl) (.m (qh (i := ((k : Nat) : Int)) (h.rd hr) (by omega) (by omega) 4 _ (by decide) rfl) (.m (qh (i := ((k : Nat) : Int)) (h.rd hr) (by omega) (by omega) 5 _ (by decide) rfl) (.e .z)))))))) <| yo (zN [rX 0, .bool false, .bool false, .bool false, iX 0, iX 0] 66 h fun u E h => ?_); refine yq 5 <| yo (zs h 0 fun u h => ?_); refine ye <| ys <| ys <| zD [] h fun u h => yd (uL 0 3) [] .z <| yv [15] (rE ((k : Nat) : Int) 0) (fun x => ?_) fun x => ?_
  ·have g : k = 0 := by omega
   refine yd (uL 3 10) [] .z <| yDe (nS ?_); refine yct <| q7 <| yp 3 [] (.a (h.cs 0 1 5) .z) <| yo (yQ (h.look (qcY (gc l ((k : Nat) : Int)).sty _ (qJ h.ch hT (fun _ h => h.elim)) s)) fun u h => ?_); refine yp 6 [] (.p (q := ((wrK l k)).size + ((qh5 (gc l ((k : Nat) : Int)).sty)).size ≤ 9223372036854775807) (by (try simp only [ByteArray.size_append]); omega) .z) <| ye <| ysr <| yp 3 [] (.l (h.c 0 0) .z) <| ye <| yc (rI (gc l ((k : Nat) : Int)).rune 0) (fun d => ?_) fun d => ?_
   ·refine q7 <| yp 6 [] (.l (h.c 0 0) (.p (q := (((wrK l k) ++ (qh5 (gc l ((k : Nat) : Int)).sty))).size + ((Utf8.encode (gc l ((k : Nat) : Int)).rune)).size ≤ 9223372036854775807) (by (try simp only [ByteArray.size_append]); omega) .z)) <| yE (nB (nS ?_)); refine q7 <| yp 2 [] (.q6 (((k : Nat) : Int) + 1) .z) ?_; have h := h.nrm 0 [rX (gc l ((k : Nat) : Int)).rune, .bool (gc l ((k : Nat) : Int)).sty.bold, .bool (gc l ((k : Nat) : Int)).sty.under, .bool (gc l ((k : Nat) : Int)).sty.turned, iX (gc l ((k : Nat) : Int)).sty.fore, iX (gc l ((k : Nat) : Int)).sty.back]; refine yE (fun a ha => f (k + 1) _ ⟨by omega, h.take 0⟩ (by show l.length - (k + 1) < l.length - k; omega) a (by rw [wrK_ss (.inl g) d]; exact ha.kp [0, 3, 6, 7, 8]))
   refine qf (nB (nS ?_)); refine q7 <| yp 2 [] (.q6 (((k : Nat) : Int) + 1) .z) ?_; have h := h.nrm 0 [rX (gc l ((k : Nat) : Int)).rune, .bool (gc l ((k : Nat) : Int)).sty.bold, .bool (gc l ((k : Nat) : Int)).sty.under, .bool (gc l ((k : Nat) : Int)).sty.turned, iX (gc l ((k : Nat) : Int)).sty.fore, iX (gc l ((k : Nat) : Int)).sty.back]; refine yE (fun a ha => f (k + 1) _ ⟨by omega, h.take 0⟩ (by show l.length - (k + 1) < l.length - k; omega) a (by rw [wrK_sn (.inl g) d]; exact ha.kp [0, 3, 6, 7, 8]))
  have g : ¬ k = 0 := by omega
  refine yd (uL 3 10) [] (.a (h.cs 0 1 5) (.q6 (((k : Nat) : Int) - 1) (.i (((k : Nat) : Int) - 1) (l.length) (.m (qh (i := (((k : Nat) : Int) - 1)) (h.rd hr) (by omega) (by omega) 1 _ (by decide) rfl) (.m (qh (i := (((k : Nat) : Int) - 1)) (h.rd hr) (by omega) (by omega) 2 _ (by decide) rfl) (.m (qh (i := (((k : Nat) : Int) - 1)) (h.rd hr) (by omega) (by omega) 3 _ (by decide) rfl) (.m (qh (i := (((k : Nat) : Int) - 1)) (h.rd hr) (by omega) (by omega) 4 _ (by decide) rfl) (.m (qh (i := (((k : Nat) : Int) - 1)) (h.rd hr) (by omega) (by omega) 5 _ (by decide) rfl) (.e .z))))))))) <| yDe (nS ?_); refine yc (rN (rY (((gc l ((k : Nat) : Int)).sty.bold == (gc l (((k : Nat) : Int) - 1)).sty.bold) && (((gc l ((k : Nat) : Int)).sty.under == (gc l (((k : Nat) : Int) - 1)).sty.under) && (((gc l ((k : Nat) : Int)).sty.turned == (gc l (((k : Nat) : Int) - 1)).sty.turned) && ((((gc l ((k : Nat) : Int)).sty.fore : Int) == (gc l (((k : Nat) : Int) - 1)).sty.fore) && ((((gc l ((k : Nat) : Int)).sty.back : Int) == (gc l (((k : Nat) : Int) - 1)).sty.back) && true))))))) (fun j => ?_) fun j => ?_
  ·rw [qjx] at j; have r := of_decide_eq_false j; refine q7 <| yp 3 [] (.a (h.cs 0 1 5) .z) <| yo (yQ (h.look (qcY (gc l ((k : Nat) : Int)).sty _ (qJ h.ch hT (fun _ h => h.elim)) s)) fun u h => ?_); refine yp 6 [] (.p (q := ((wrK l k)).size + ((qh5 (gc l ((k : Nat) : Int)).sty)).size ≤ 9223372036854775807) (by (try simp only [ByteArray.size_append]); omega) .z) <| ye <| ysr <| yp 3 [] (.l (h.c 0 0) .z) <| ye <| yc (rI (gc l ((k : Nat) : Int)).rune 0) (fun d => ?_) fun d => ?_
   ·refine q7 <| yp 6 [] (.l (h.c 0 0) (.p (q := (((wrK l k) ++ (qh5 (gc l ((k : Nat) : Int)).sty))).size + ((Utf8.encode (gc l ((k : Nat) : Int)).rune)).size ≤ 9223372036854775807) (by (try simp only [ByteArray.size_append]); omega) .z)) <| yE (nB (nS ?_)); refine q7 <| yp 2 [] (.q6 (((k : Nat) : Int) + 1) .z) ?_; have h := h.nrm 0 [rX (gc l ((k : Nat) : Int)).rune, .bool (gc l ((k : Nat) : Int)).sty.bold, .bool (gc l ((k : Nat) : Int)).sty.under, .bool (gc l ((k : Nat) : Int)).sty.turned, iX (gc l ((k : Nat) : Int)).sty.fore, iX (gc l ((k : Nat) : Int)).sty.back]; refine yE (fun a ha => f (k + 1) _ ⟨by omega, h.take 0⟩ (by show l.length - (k + 1) < l.length - k; omega) a (by rw [wrK_ss (.inr r) d]; exact ha.kp [0, 3, 6, 7, 8]))
   refine qf (nB (nS ?_)); refine q7 <| yp 2 [] (.q6 (((k : Nat) : Int) + 1) .z) ?_; have h := h.nrm 0 [rX (gc l ((k : Nat) : Int)).rune, .bool (gc l ((k : Nat) : Int)).sty.bold, .bool (gc l ((k : Nat) : Int)).sty.under, .bool (gc l ((k : Nat) : Int)).sty.turned, iX (gc l ((k : Nat) : Int)).sty.fore, iX (gc l ((k : Nat) : Int)).sty.back]; refine yE (fun a ha => f (k + 1) _ ⟨by omega, h.take 0⟩ (by show l.length - (k + 1) < l.length - k; omega) a (by rw [wrK_sn (.inr r) d]; exact ha.kp [0, 3, 6, 7, 8]))
  rw [qjx] at j; have r := of_decide_eq_true j; refine yk <| ysr <| yp 3 [] (.l (h.c 0 0) .z) <| ye <| yc (rI (gc l ((k : Nat) : Int)).rune 0) (fun d => ?_) fun d => ?_
  ·refine q7 <| yp 6 [] (.l (h.c 0 0) (.p (q := ((wrK l k)).size + ((Utf8.encode (gc l ((k : Nat) : Int)).rune)).size ≤ 9223372036854775807) (by (try simp only [ByteArray.size_append]); omega) .z)) <| yE (nB (nS ?_)); refine q7 <| yp 2 [] (.q6 (((k : Nat) : Int) + 1) .z) ?_; have h := h.nrm 0 [rX (gc l ((k : Nat) : Int)).rune, .bool (gc l ((k : Nat) : Int)).sty.bold, .bool (gc l ((k : Nat) : Int)).sty.under, .bool (gc l ((k : Nat) : Int)).sty.turned, iX (gc l ((k : Nat) : Int)).sty.fore, iX (gc l ((k : Nat) : Int)).sty.back]; refine yE (fun a ha => f (k + 1) _ ⟨by omega, h.take 0⟩ (by show l.length - (k + 1) < l.length - k; omega) a (by rw [wrK_ns g r d]; exact ha.kp [0, 3, 6, 7, 8]))
  refine qf (nB (nS ?_)); refine q7 <| yp 2 [] (.q6 (((k : Nat) : Int) + 1) .z) ?_; have h := h.nrm 0 [rX (gc l ((k : Nat) : Int)).rune, .bool (gc l ((k : Nat) : Int)).sty.bold, .bool (gc l ((k : Nat) : Int)).sty.under, .bool (gc l ((k : Nat) : Int)).sty.turned, iX (gc l ((k : Nat) : Int)).sty.fore, iX (gc l ((k : Nat) : Int)).sty.back]; refine yE (fun a ha => f (k + 1) _ ⟨by omega, h.take 0⟩ (by show l.length - (k + 1) < l.length - k; omega) a (by rw [wrK_nn g r d]; exact ha.kp [0, 3, 6, 7, 8]))
 have y : k = l.length := by omega
 refine qp (eS (qd (qb (nS ?_)))); refine yx 2 <| q8 (yR1 (.string (wrK l k)) ?_); refine ⟨?_, h.ch⟩; unfold wrB; rw [← y]
theorem diff_any {p q : Nat} {A B : Vw} {F1 F2 : Nat → Prop} (w : World) (hT : LT w) (hA : GridAt w p A.g F1) (hB : GridAt w q B.g F2) (hw : A.g.w = B.g.w) (hh : A.g.h = B.g.h) (hx : 0 ≤ B.x ∧ B.x ≤ 60) (hy : 0 ≤ B.y ∧ B.y ≤ 60) (hst : ∀ l ∈ B.g.lines, ∀ c ∈ l, qdP c.sty) : Calls Tryz.prog 14 [.agg #[pX p, iX A.x, iX A.y, .bool A.hid], .agg #[pX q, iX B.x, iX B.y, .bool B.hid]].toArray w fun e w' => e = .returned (.string (qfM A B)) ∧ Ch (fun _ => False) w w' := by
 obtain ⟨r1, aq, V, o⟩ := hA; obtain ⟨r2, au, F, f⟩ := hB; have av := o.len; have aw := f.len; have ax := f.ok.2.1; have ay := f.ok.1; have az := f.ok.2.2.1; have C : ∀ l ∈ B.g.lines, l.length ≤ 60 ∧ ∀ c ∈ l, qdP c.sty := fun l hl => ⟨by have := f.ok.2.2.2 l hl; omega, hst l hl⟩
 have aA := qh8 (A := A) C (by omega) (by omega); have aB := df2_size (A := A) C (by omega) (by omega) hx hy; have aC := qeX (A := A.g) C B.g.h.toNat (by omega) (by omega); have W : qdP qaD := ⟨⟨Int.le_refl _, by decide⟩, Int.le_refl _, by decide⟩
 have aD := qc7 W; have aE := qeV hx hy; have h := Sep.nil w; refine yA Tryz.func14 rfl <| ysr <| yo (zN [pX p, iX A.x, iX A.y, .bool A.hid] 30 h fun u r h => ?_); refine yo (zN [pX q, iX B.x, iX B.y, .bool B.hid] 30 h fun u t h => ?_); refine yz 3 <| yx 1 <| ys <| ysr <| yp 6 [] (.l (h.c 1 0) (.l (qv h.ch (f.head.c 1) id) .z)) <| ye <| q9 <| qP [2, 3, 5, 13, 14] (f' := [(2, pX r), (3, pX t), (5, oX), (13, iX B.g.h), (14, iX 0)]) <| qz (σ := Nat) (fun k => [(2, pX r), (3, pX t), (5, .string (dfK A.g B.g k)), (13, iX B.g.h), (14, iX ((k : Nat) : Int))]) (fun k u => k ≤ B.g.h.toNat ∧ Sep w (fun _ => False) u [qW r [pX p, iX A.x, iX A.y, .bool A.hid] 30, qW t [pX q, iX B.x, iX B.y, .bool B.hid] 30]) (fun k => B.g.h.toNat - k) 0 rfl ?_ ?_
 ·exact ⟨Nat.zero_le _, h.take 2⟩
 intro k u a8 aF X; obtain ⟨hk, h⟩ := a8; have aG := qeX (A := A.g) C k (by omega) (by omega); refine yx 1 <| ys <| yc (rL ((k : Nat) : Int) B.g.h) (fun a9 => ?_) fun a9 => ?_
 ·obtain ⟨m, Y, G⟩ := qeU (rows := V) (k := k) (by omega); obtain ⟨d, H, v⟩ := qeU (rows := F) (k := k) (by omega); have Z := glq o Y; have e2 := glq f H; have aH : m.l.length = A.g.w.toNat := o.ok.2.2.2 _ (o.lines ▸ List.mem_map_of_mem G); have a1 : d.l ∈ B.g.lines := f.lines ▸ List.mem_map_of_mem v; have aI : d.l.length = B.g.w.toNat := f.ok.2.2.2 _ a1; have aJ : d.l.length ≤ d.cap := (f.line d v).1.2.1; have aK := (f.line d v).2; obtain ⟨x, e, hE⟩ : ∃ x e, qcX m.l d.l = (x, e) := ⟨_, _, rfl⟩
  have aL : e ≤ d.l.length := by have := qh7 m.l d.l; rw [hE] at this; exact this
  refine yk <| ys <| q9 <| yx 2 <| ys <| zD [16] h fun u h => yd (uL 0 16) [] (.l (h.c 0 0) (.l (qv h.ch (o.head.c 2) id) (.i ((k : Nat) : Int) (V.length) (.l (qdO (Ch.rd h.ch o.body.rd id) Y) (.l (h.c 1 0) (.l (qv h.ch (f.head.c 2) id) (.i ((k : Nat) : Int) (F.length) (.l (qdO (Ch.rd h.ch f.body.rd id) H) .z)))))))) <| yK 16 (yQ (h.look (ends_any m.b d.b m.cap d.cap m.n d.n x e m.l d.l _ (Ch.rd h.ch (o.line m G).1.rd id) (Ch.rd h.ch (f.line d v).1.rd id) (o.line m G).2 (f.line d v).2 (by omega) (by omega) hE)) fun u h => ?_); refine qa <| yd (uL 17 5) [] .z <| yDe (nS ?_); refine yx 3 <| yc (rL ((x : Nat) : Int) ((e : Nat) : Int)) (fun I => ?_) fun I => ?_
  ·have aM := qeV (x := (x : Int)) (y := ((k : Nat) : Int)) (by omega) (by omega); have a2 : ∀ c ∈ (d.l.take e).drop x, qdP c.sty := fun c hc => (C _ a1).2 c (List.mem_of_mem_take (List.mem_of_mem_drop hc)); have a3 : ((d.l.take e).drop x).length = e - x := by rw [List.length_drop, List.length_take]; omega
   have aN : (wrB ((d.l.take e).drop x)).size ≤ 31 * (e - x) := a3 ▸ qeW a2 _ (Nat.le_refl _); refine zDC [15] [0, 1] h fun u h => ydF [0, 1, 2, 4, 5, 6, 7, 8, 9, 10, 11, 12, 13, 14] [] h.on (fun u h => (.l (h.c 1 0) (.l (qv h.ch (f.head.c 2) id) (.i ((k : Nat) : Int) (F.length) (.l (qdO (Ch.rd h.ch f.body.rd id) H) (.j ((e : Nat) : Int) (d.cap) (.j ((x : Nat) : Int) ((((e : Nat) : Int) : Int).toNat) .z))))))) <| yH 3 (yQ (h.look (qhb (((x : Nat) : Int)) (((k : Nat) : Int)) _ (qJ h.ch hT (fun _ h => h.elim)) (by omega) (by omega))) fun u h => ?_); refine zH h <| yK 15 (yQ (h.look (qi5 d.b ((if d.cap = (((x : Nat) : Int) : Int).toNat then 0 else 0 + (((x : Nat) : Int) : Int).toNat * 6)) ((d.cap - (((x : Nat) : Int) : Int).toNat)) (((((e : Nat) : Int) : Int).toNat - (((x : Nat) : Int) : Int).toNat)) ((d.l.take e).drop x) _ (qJ h.ch hT (fun _ h => h.elim)) (qi3 (qgj (Ch.rd h.ch (f.line d v).1.rd id) e) (by rw [List.length_take]; omega)) (by rw [a3, Int.toNat_natCast, Int.toNat_natCast]) (by omega) a2)) fun u h => ?_); refine qa <| yd (uL 16 3) [] (.p (q := ((toB ((x : Nat) : Int) ((k : Nat) : Int))).size + ((wrB ((d.l.take e).drop x))).size ≤ 9223372036854775807) (by (try simp only [ByteArray.size_append, qaP, qaQ]); omega) (.p (q := ((dfK A.g B.g k)).size + (((toB ((x : Nat) : Int) ((k : Nat) : Int)) ++ (wrB ((d.l.take e).drop x)))).size ≤ 9223372036854775807) (by (try simp only [ByteArray.size_append, qaP, qaQ]); omega) .z)) <| yDe (nB (nS ?_))
   refine q7 <| yp 2 [] (.q6 (((k : Nat) : Int) + 1) .z) <| yE (fun a ha => X (k + 1) _ ⟨by omega, h.take 2⟩ (by show B.g.h.toNat - (k + 1) < B.g.h.toNat - k; omega) a (by rw [dfK_on Z e2 hE I]; exact ha.kp [2, 3, 5, 13, 14]))
  refine qf (nB (nS ?_)); refine q7 <| yp 2 [] (.q6 (((k : Nat) : Int) + 1) .z) <| yE (fun a ha => X (k + 1) _ ⟨by omega, h.take 2⟩ (by show B.g.h.toNat - (k + 1) < B.g.h.toNat - k; omega) a (by rw [dfK_off Z e2 hE I]; exact ha.kp [2, 3, 5, 13, 14]))
 have D : k = B.g.h.toNat := by omega
 refine qp (eS (qd (qb (nS ?_)))); refine qaa ([(2, pX r), (3, pX t), (5, .string (df1 A B))]) (fun u => Sep w (fun _ => False) u [qW r [pX p, iX A.x, iX A.y, .bool A.hid] 30, qW t [pX q, iX B.x, iX B.y, .bool B.hid] 30]) (fun aO a4 => ?_) (fun u h => ?_)
 ·refine yx 2 <| yc (rN (rY (((dfK A.g B.g k)).toList == (ByteArray.empty).toList))) (fun J => ?_) fun J => ?_
  ·have a5 := J; rw [D] at a5; refine q7 <| yq 2 <| yo (yQ (h.look (qcY qaD _ (qJ h.ch hT (fun _ h => h.elim)) W)) fun u h => ?_); refine yp 5 [] (.p (q := ((dfK A.g B.g k)).size + ((qh5 qaD)).size ≤ 9223372036854775807) (by (try simp only [ByteArray.size_append, qaP, qaQ]); omega) .z) <| yE (fun a ha => a4 _ h a (by rw [show (df1 A B) = ((dfK A.g B.g k) ++ (qh5 qaD)) from by rw [D]; exact if_neg (none_f a5)]; exact ha.kp [2, 3, 5]))
  have a6 := J; rw [D] at a6; refine qf (fun a ha => a4 _ h a (by rw [show (df1 A B) = (dfK A.g B.g k) from by rw [D]; exact if_pos (none_iff.1 a6)]; exact ha.kp [2, 3, 5]))
 refine qaa ([(2, pX r), (3, pX t), (5, .string (df2 A B))]) (fun u => Sep w (fun _ => False) u [qW r [pX p, iX A.x, iX A.y, .bool A.hid] 30, qW t [pX q, iX B.x, iX B.y, .bool B.hid] 30]) (fun aP E => ?_) (fun u h => ?_)
 ·refine ysr <| yq 3 <| yw [67] (rN (rY (((df1 A B)).toList == (ByteArray.empty).toList))) (fun K => ?_) fun K => ?_
  ·have aa := K; refine yz 16 <| yct <| q7 <| yp 5 [] (.l (h.c 1 1) (.l (h.c 1 2) .z)) <| yo (yQ (h.look (qhb (B.x) (B.y) _ (qJ h.ch hT (fun _ h => h.elim)) (by omega) (by omega))) fun u h => ?_); refine yp 8 [] (.p (q := ((df1 A B)).size + ((toB B.x B.y)).size ≤ 9223372036854775807) (by (try simp only [ByteArray.size_append, qaP, qaQ]); omega) .z) <| yE (fun a ha => E _ h a (by rw [show (df2 A B) = ((df1 A B) ++ (toB B.x B.y)) from by exact if_pos (.inl (none_f aa))]; exact ha.kp [2, 3, 5]))
  have ab := K; refine yp 10 [] (.l (h.c 0 1) (.l (h.c 1 1) .z)) <| yw [74] (rI A.x B.x) (fun L => ?_) fun L => ?_
  ·have ac := L; refine yz 16 <| yct <| q7 <| yp 5 [] (.l (h.c 1 1) (.l (h.c 1 2) .z)) <| yo (yQ (h.look (qhb (B.x) (B.y) _ (qJ h.ch hT (fun _ h => h.elim)) (by omega) (by omega))) fun u h => ?_); refine yp 8 [] (.p (q := ((df1 A B)).size + ((toB B.x B.y)).size ≤ 9223372036854775807) (by (try simp only [ByteArray.size_append, qaP, qaQ]); omega) .z) <| yE (fun a ha => E _ h a (by rw [show (df2 A B) = ((df1 A B) ++ (toB B.x B.y)) from by exact if_pos (.inr (.inl ac))]; exact ha.kp [2, 3, 5]))
  have ad := L; refine yp 16 [] (.l (h.c 0 2) (.l (h.c 1 2) .z)) <| ye <| yc (rI A.y B.y) (fun M => ?_) fun M => ?_
  ·have ae := M; refine q7 <| yp 5 [] (.l (h.c 1 1) (.l (h.c 1 2) .z)) <| yo (yQ (h.look (qhb (B.x) (B.y) _ (qJ h.ch hT (fun _ h => h.elim)) (by omega) (by omega))) fun u h => ?_); refine yp 8 [] (.p (q := ((df1 A B)).size + ((toB B.x B.y)).size ≤ 9223372036854775807) (by (try simp only [ByteArray.size_append, qaP, qaQ]); omega) .z) <| yE (fun a ha => E _ h a (by rw [show (df2 A B) = ((df1 A B) ++ (toB B.x B.y)) from by exact if_pos (.inr (.inr ae))]; exact ha.kp [2, 3, 5]))
  have af := M; refine qf (fun a ha => E _ h a (by rw [show (df2 A B) = (df1 A B) from by exact if_neg (fun h => h.elim (fun h => h (none_iff.1 ab)) fun h => h.elim (fun h => h ad) fun h => h af)]; exact ha.kp [2, 3, 5]))
 refine ys <| q9 <| ysr <| yp 3 [] (.l (h.c 1 3) .z) <| yw [91] (rY B.hid) (fun N => ?_) fun N => ?_
 ·have O := N; refine yp 8 [] (.l (h.c 0 3) .z) <| ye <| yc (rN (rY A.hid)) (fun P => ?_) fun P => ?_
  ·have ag := P; refine q7 <| yp 3 [] (.p (q := ((df2 A B)).size + (hideB).size ≤ 9223372036854775807) (by (try simp only [ByteArray.size_append, qaP, qaQ]); omega) .z) <| yE (nB (nS ?_)); refine yx 2 <| q8 (yR1 (.string ((df2 A B) ++ hideB)) ?_); refine ⟨congrArg (fun s => Ending.returned (Value.string s)) ?_, h.ch⟩; unfold qfM; simp [O, ag]
  have a7 := P; refine ysr <| yp 3 [] (.l (h.c 0 3) .z) <| yw [101] (rY A.hid) (fun Q => ?_) fun Q => ?_
  ·have ah := Q; refine yp 8 [] (.l (h.c 1 3) .z) <| ye <| yc (rN (rY B.hid)) (fun R => ?_) fun R => ?_
   ·have ai := R; exact absurd (O.symm.trans ai) (by decide)
   have aj := R; refine qf (nB (nS ?_)); refine yx 2 <| q8 (yR1 (.string (df2 A B)) ?_); refine ⟨congrArg (fun s => Ending.returned (Value.string s)) ?_, h.ch⟩; unfold qfM; simp [O, a7, ah, aj]
  have ak := Q; exact absurd (a7.symm.trans ak) (by decide)
 have S := N; refine yz 8 <| ycf <| ysr <| yp 3 [] (.l (h.c 0 3) .z) <| yw [101] (rY A.hid) (fun T => ?_) fun T => ?_
 ·have al := T; refine yp 8 [] (.l (h.c 1 3) .z) <| ye <| yc (rN (rY B.hid)) (fun U => ?_) fun U => ?_
  ·have am := U; refine q7 <| yp 3 [] (.p (q := ((df2 A B)).size + (showB).size ≤ 9223372036854775807) (by (try simp only [ByteArray.size_append, qaP, qaQ]); omega) .z) <| yE (nB (nS ?_)); refine yx 2 <| q8 (yR1 (.string ((df2 A B) ++ showB)) ?_); refine ⟨congrArg (fun s => Ending.returned (Value.string s)) ?_, h.ch⟩; unfold qfM; simp [S, al, am]
  have an := U; exact absurd (S.symm.trans an) (by decide)
 have ao := T; refine yz 8 <| ycf <| qf (nB (nS ?_)); refine yx 2 <| q8 (yR1 (.string (df2 A B)) ?_); refine ⟨congrArg (fun s => Ending.returned (Value.string s)) ?_, h.ch⟩; unfold qfM; simp [S, ao]
def qcF (s : Sty) : Bool := decide ((0 ≤ s.fore ∧ s.fore ≤ 8) ∧ 0 ≤ s.back ∧ s.back ≤ 8)
def tameC (c : Cel) : Cel := ⟨if ¬ c.rune = 0 ∧ qae c.rune = false then 120 else c.rune, if qcF c.sty = true then c.sty else qaD⟩
abbrev qac (l : List Cel) : List Cel := l.map tameC
theorem qby {l : List Cel} {k : Nat} {c : Cel} (hk : k < l.length) (e : tameC (gc l (k : Int)) = c) : flat ((qac l).take k) ++ c.vals = flat ((qac l).take (k + 1)) := by
 rw [List.take_succ_eq_append_getElem (by rw [List.length_map]; exact hk), qas, List.getElem_map, ← gc_at hk, e]
 simp [flat]
theorem qcZ {c d : Cel} (h1 : (if ¬ c.rune = 0 ∧ qae c.rune = false then 120 else c.rune) = d.rune) (h2 : (if qcF c.sty = true then c.sty else qaD) = d.sty) : tameC c = d := by
 unfold tameC
 rw [h1, h2]
theorem tame_all {l : List Cel} {k : Nat} (hk : k = l.length) : (qac l).take k = qac l := List.take_of_length_le (by rw [List.length_map]; omega)
def qd0 : List Cel → Gr → Int → Gr
 | [], G, _ => G
 | c :: l, G, i => if G.w * G.h ≤ i then G else qd0 l (qdu G (i % G.w) (i / G.w) c) (if qS c.rune = true then i + 2 else i + 1)
abbrev qcG (p1 p2 : Int) (l : List Cel) : Gr := qd0 (qac l) (qdb p1 p2) 0
theorem qi6 {l : List Cel} {k : Nat} {G : Gr} {i : Int} (hk : k < l.length) (h : ¬ G.w * G.h ≤ i) : qd0 (l.drop k) G i = qd0 (l.drop (k + 1)) (qdu G (i % G.w) (i / G.w) (gc l (k : Int))) (if qS (gc l (k : Int)).rune = true then i + 2 else i + 1) := by
 rw [List.drop_eq_getElem_cons hk, gc_at hk]
 conv => lhs; unfold qd0
 rw [if_neg h]
theorem qi7 {l : List Cel} {k : Nat} {G : Gr} {i : Int} (hk : k < l.length) (h : G.w * G.h ≤ i) : qd0 (l.drop k) G i = G := by
 rw [List.drop_eq_getElem_cons hk]
 unfold qd0
 rw [if_pos h]
theorem qjy {l : List Cel} {k : Nat} {G : Gr} {i : Int} (hk : k = l.length) : qd0 (l.drop k) G i = G := by
 rw [hk, List.drop_length]; rfl
theorem mul_bd {w h : Int} (hw : 1 ≤ w ∧ w ≤ 60) (hh : 1 ≤ h ∧ h ≤ 60) : 1 ≤ w * h ∧ w * h ≤ 3600 :=
 ⟨by have := Int.mul_le_mul hw.1 hh.1 (by omega) (by omega); omega, by have := Int.mul_le_mul hw.2 hh.2 (by omega) (by omega); omega⟩
theorem div_bd {i w : Int} (hi : 0 ≤ i) (hw : 1 ≤ w) : (0 ≤ i / w ∧ i / w ≤ i) ∧ 0 ≤ i % w ∧ i % w < w :=
 ⟨⟨Int.ediv_nonneg hi (by omega), Int.ediv_le_self _ hi⟩, Int.emod_nonneg _ (by omega), Int.emod_lt_of_pos _ (by omega)⟩
structure Lk where
 a : Option Addr
 n : Nat
 cap : Nat
 x : Int
 y : Int
 hid : Bool
def Lk.vals (k : Lk) : List Value := [.slice k.a k.n k.cap, .int .i64 k.x, .int .i64 k.y, .bool k.hid]
def viewV (p1 p2 : Int) (l : List Cel) (x y : Int) (hid : Bool) : Vw := let G := qcG p1 p2 l; ⟨G, qt .and .i64 x 65535 % G.w, qt .and .i64 y 65535 % G.h, hid⟩
def qeY (A B : Vw) : Bool := decide (A.x = B.x) && decide (A.y = B.y) && (A.hid == B.hid) && grB A.g B.g
def lkV : List Lk → List Value
 | [] => []
 | k :: l => k.vals ++ lkV l
def gk (ls : List Lk) (i : Nat) : Lk := ls.getD i ⟨none, 0, 0, 0, 0, false⟩
theorem qjz : ∀ (ls : List Lk) (i j : Nat), i < ls.length → j < 4 → (lkV ls)[i * 4 + j]? = (gk ls i).vals[j]?
 | [], i, j, h, _ => by simp at h
 | k :: l, 0, j, _, hj => by
  show (k.vals ++ lkV l)[0 * 4 + j]? = k.vals[j]?
  rw [Nat.zero_mul, Nat.zero_add, List.getElem?_append_left (by exact hj)]
 | k :: l, i + 1, j, h, hj => by
  show (k.vals ++ lkV l)[(i + 1) * 4 + j]? = _
  rw [List.getElem?_append_right (by show 4 ≤ _; omega), show (i + 1) * 4 + j - k.vals.length = i * 4 + j by show (i + 1) * 4 + j - 4 = _; omega, qjz l i j (by simpa using h) hj]; rfl
theorem qd1 {w : World} {b o : Nat} {ls : List Lk} {i : Nat} (h : Rd w (some ⟨b, o, none⟩) (lkV ls)) (hi : i < ls.length) (j : Nat) (v : Value) (hj : j < 4) (hv : (gk ls i).vals[j]? = some v) : w.cell? ⟨b, o + ((i : Nat) : Int).toNat * 4 + j, none⟩ = some v := by
 rw [Nat.add_assoc, Int.toNat_natCast]
 exact qbk h _ v (by rw [qjz ls i j hi hj]; exact hv)
def qjA (ls : List Lk) : Bool := decide (ls.length ≤ 12) && ls.all fun k => decide (k.n ≤ 400)
theorem few_len {ls : List Lk} (h : 12 < ls.length) : false = qjA ls := by
 unfold qjA
 rw [decide_eq_false (by omega)]; rfl
theorem few_at {ls : List Lk} {k : Nat} (hk : k < ls.length) (h : 400 < (gk ls k).n) : false = qjA ls := by
 unfold qjA
 symm
 rw [Bool.and_eq_false_iff]
 refine .inr (Bool.eq_false_iff.2 fun e => ?_)
 have := List.all_eq_true.1 e (gk ls k) (by unfold gk; rw [List.getD_eq_getElem?_getD, List.getElem?_eq_getElem hk, Option.getD_some]; exact List.getElem_mem hk)
 have := of_decide_eq_true this
 omega
theorem few_t {ls : List Lk} (h1 : ls.length ≤ 12) (h : ∀ j, j < ls.length → (gk ls j).n ≤ 400) : true = qjA ls := by
 unfold qjA
 rw [decide_eq_true h1, Bool.true_and]
 symm
 refine List.all_eq_true.2 fun x hx => ?_
 obtain ⟨i, hi, rfl⟩ := List.getElem_of_mem hx
 have := h i hi
 unfold gk at this
 rw [List.getD_eq_getElem?_getD, List.getElem?_eq_getElem hi, Option.getD_some] at this
 exact decide_eq_true this
def qV (r a b : Int) : Bool := decide (a ≤ r) && decide (r ≤ b)
theorem qT (r a b : Int) (w : World) : Calls Tryz.prog 67 [rX r, rX a, rX b].toArray w fun e w' => e = .returned (.bool (qV r a b)) ∧ Ch (fun _ => False) w w' := by
 refine yA Tryz.func67 rfl <| yx 1 <| ysr <| yq 4 <| yw [10] (rM a r) (fun c => ?_) fun c => ?_
 ·refine yz 9 <| q8 (yR1 (.bool (decide (r ≤ b))) ?_); refine ⟨zc ?_, Up.ch (zm w)⟩; unfold qV; simp [*]
 refine yz 9 <| q8 (yR1 (.bool false) ?_); refine ⟨zc ?_, Up.ch (zm w)⟩; unfold qV; simp [*]
theorem ite_no {c : Prop} [Decidable c] {b : Bool} : (if c then false else b) = (!decide c && b) := by by_cases h : c <;> simp [h]
theorem ite_yes {c : Prop} [Decidable c] {b : Bool} : (if c then true else b) = (decide c || b) := by by_cases h : c <;> simp [h]
theorem qdQ (r : Int) : qae r = (qV r 32 126 || qV r 128 55295 || qV r 57344 1114111) := by
 unfold qae qV; rw [Bool.eq_iff_iff]; simp only [Bool.and_eq_true, Bool.or_eq_true, decide_eq_true_eq]; omega
theorem qaL (r : Int) : qS r = (qV r 4352 4447 || qV r 11904 12350 || qV r 12352 42191 || qV r 44032 55203 || qV r 63744 64255 || qV r 65072 65135 || qV r 65280 65376 || qV r 65504 65510 || qV r 127744 128591 || qV r 131072 262141) := by
 unfold qS wideL qV; rw [Bool.eq_iff_iff]; simp only [qdo, ite_no, ite_yes, Bool.and_eq_true, Bool.or_eq_true, Bool.not_eq_true', decide_eq_true_eq, decide_eq_false_iff_not, beq_eq_false_iff_ne, Bool.false_eq_true, or_false]; omega
theorem qes (r : Int) (w : World) : Calls Tryz.prog 71 [rX r].toArray w fun e w' => e = .returned (.bool (qae r)) ∧ Ch (fun _ => False) w w' := by
 refine yA Tryz.func71 rfl <| yx 1 <| ysr <| yq 1 <| yo (yQ (qT r 32 126 _) fun j f => ?_); have c := zu (zm w) f iZ; refine yq 3 <| yw [5] (rY (qV r 32 126)) (fun a => ?_) fun a => ?_
 ·have k := a; refine yz 11 <| q8 (yR1 (.bool true) ?_); refine ⟨zc ?_, Up.ch c⟩; rw [qdQ]; simp [*]
 have l := a; refine yq 4 <| yo (yQ (qT r 128 55295 _) fun m g => ?_); have d := zu c g iZ; refine yq 7 <| yw [9] (rY (qV r 128 55295)) (fun b => ?_) fun b => ?_
 ·have n := b; refine yz 11 <| q8 (yR1 (.bool true) ?_); refine ⟨zc ?_, Up.ch d⟩; rw [qdQ]; simp [*]
 have o := b; refine yq 8 <| yo (yQ (qT r 57344 1114111 _) fun p h => ?_); have i := zu d h iZ; refine yz 11 <| q8 (yR1 (.bool (qV r 57344 1114111)) ?_); refine ⟨zc ?_, Up.ch i⟩; rw [qdQ]; simp [*]
theorem qfN (r : Int) (w : World) : Calls Tryz.prog 44 [rX r].toArray w fun e w' => e = .returned (.bool (qS r)) ∧ Ch (fun _ => False) w w' := by
 refine yA Tryz.func44 rfl <| yx 1 <| ys <| ysr <| yq 1 <| yo (yQ (qT r 4352 4447 _) fun G u => ?_); have k := zu (zm w) u iZ; refine yq 3 <| yw [5] (rY (qV r 4352 4447)) (fun a => ?_) fun a => ?_
 ·have H := a; refine yz 14 <| yct <| yx 1 <| q8 (rS (yR1 (.bool true) ?_)); refine ⟨zc ?_, Up.ch k⟩; rw [qaL]; simp [*]
 have I := a; refine yq 4 <| yo (yQ (qT r 11904 12350 _) fun J v => ?_); have l := zu k v iZ; refine yq 7 <| yw [9] (rY (qV r 11904 12350)) (fun b => ?_) fun b => ?_
 ·have K := b; refine yz 14 <| yct <| yx 1 <| q8 (rS (yR1 (.bool true) ?_)); refine ⟨zc ?_, Up.ch l⟩; rw [qaL]; simp [*]
 have L := b; refine yq 8 <| yo (yQ (qT r 12352 42191 _) fun M x => ?_); have m := zu l x iZ; refine yq 11 <| yw [13] (rY (qV r 12352 42191)) (fun c => ?_) fun c => ?_
 ·have N := c; refine yz 14 <| yct <| yx 1 <| q8 (rS (yR1 (.bool true) ?_)); refine ⟨zc ?_, Up.ch m⟩; rw [qaL]; simp [*]
 have O := c; refine yq 12 <| yo (yQ (qT r 44032 55203 _) fun P y => ?_); have n := zu m y iZ; refine yz 14 <| yc (rY (qV r 44032 55203)) (fun d => ?_) fun d => ?_
 ·have Q := d; refine yx 1 <| q8 (rS (yR1 (.bool true) ?_)); refine ⟨zc ?_, Up.ch n⟩; rw [qaL]; simp [*]
 have R := d; refine yk <| ys <| ysr <| yq 1 <| yo (yQ (qT r 63744 64255 _) fun S z => ?_); have o := zu n z iZ; refine yq 3 <| yw [19] (rY (qV r 63744 64255)) (fun f => ?_) fun f => ?_
 ·have T := f; refine yz 14 <| yct <| yx 1 <| q8 (rS (yR1 (.bool true) ?_)); refine ⟨zc ?_, Up.ch o⟩; rw [qaL]; simp [*]
 have U := f; refine yq 4 <| yo (yQ (qT r 65072 65135 _) fun V A => ?_); have p := zu o A iZ; refine yq 7 <| yw [23] (rY (qV r 65072 65135)) (fun g => ?_) fun g => ?_
 ·have W := g; refine yz 14 <| yct <| yx 1 <| q8 (rS (yR1 (.bool true) ?_)); refine ⟨zc ?_, Up.ch p⟩; rw [qaL]; simp [*]
 have X := g; refine yq 8 <| yo (yQ (qT r 65280 65376 _) fun Y B => ?_); have q := zu p B iZ; refine yq 11 <| yw [27] (rY (qV r 65280 65376)) (fun h => ?_) fun h => ?_
 ·have Z := h; refine yz 14 <| yct <| yx 1 <| q8 (rS (yR1 (.bool true) ?_)); refine ⟨zc ?_, Up.ch q⟩; rw [qaL]; simp [*]
 have a0 := h; refine yq 12 <| yo (yQ (qT r 65504 65510 _) fun a1 C => ?_); have s := zu q C iZ; refine yz 14 <| yc (rY (qV r 65504 65510)) (fun i => ?_) fun i => ?_
 ·have a2 := i; refine yx 1 <| q8 (rS (yR1 (.bool true) ?_)); refine ⟨zc ?_, Up.ch s⟩; rw [qaL]; simp [*]
 have a3 := i; refine yk <| ysr <| yq 1 <| yo (yQ (qT r 127744 128591 _) fun a4 D => ?_); have t := zu s D iZ; refine yq 3 <| yw [33] (rY (qV r 127744 128591)) (fun j => ?_) fun j => ?_
 ·have a5 := j; refine yz 7 <| q8 (yR1 (.bool true) ?_); refine ⟨zc ?_, Up.ch t⟩; rw [qaL]; simp [*]
 have a6 := j; refine yq 4 <| yo (yQ (qT r 131072 262141 _) fun a7 E => ?_); have F := zu t E iZ; refine yz 7 <| q8 (yR1 (.bool (qV r 131072 262141)) ?_); refine ⟨zc ?_, Up.ch F⟩; rw [qaL]; simp [*]
def Fine (T : TS) : Prop := (∃ W H, Lim W H T) ∧ T.parser.lim
theorem qet (p1 p2 : Int) : Fine (startT zeroT p1 p2) := ⟨⟨_, _, qdK zeroT p1 p2 (by decide)⟩, qaE 0⟩
structure Sys (w0 w : World) (bs : List (Nat × List Value × TypeId)) (ts : List (Nat × TS)) : Prop where
 ch : Ch (fun _ => False) w0 w
 lt : LT w
 top : gTop ≤ w0.heap.size
 blk : ∀ (i : Nat) x, bs[i]? = some x → Blk w x.1 x.2.1 x.2.2
 lo : ∀ (i : Nat) x, bs[i]? = some x → w0.heap.size ≤ x.1
 df : ∀ (i j : Nat) x y, bs[i]? = some x → bs[j]? = some y → i ≠ j → x.1 ≠ y.1
 tm : ∃ F : Nat → Nat → Prop, (∀ (i : Nat) x, ts[i]? = some x → TermAt w x.1 x.2 (F i) ∧ Fine x.2) ∧ (∀ i j, i ≠ j → ∀ b, F i b → ¬ F j b) ∧ (∀ i b, F i b → w0.heap.size ≤ b ∧ b < w.heap.size) ∧ ∀ (i j : Nat) x, bs[i]? = some x → ¬ F j x.1
section
variable {w0 w w' : World} {bs : List (Nat × List Value × TypeId)} {ts : List (Nat × TS)}
theorem Sys.same (h : Sys w0 w bs ts) (hc : Ch (fun _ => False) w w') : Sys w0 w' bs ts := by
 obtain ⟨F, h1, h2, h3, h4⟩ := h.tm
 exact ⟨h.ch.trans hc (fun _ _ h => h), qJ hc h.lt (fun _ h => h.elim), h.top, fun i x e => (h.blk i x e).ch hc (fun h => h), h.lo, h.df, F, fun i x e => ⟨(h1 i x e).1.ch hc (fun _ _ h => h), (h1 i x e).2⟩, h2, fun i b hb => ⟨(h3 i b hb).1, Nat.lt_of_lt_of_le (h3 i b hb).2 hc.size⟩, h4⟩
theorem Sys.box (h : Sys w0 w bs ts) (hc : Ch (fun _ => False) w w') {b : Nat} {vs : List Value} {ty : TypeId} (hb : Blk w' b vs ty) (hz : w.heap.size ≤ b) : Sys w0 w' (bs ++ [(b, vs, ty)]) ts := by
 have h' := h.same hc
 obtain ⟨F, h1, h2, h3, h4⟩ := h.tm
 obtain ⟨F', g1, g2, g3, g4⟩ := h'.tm
 have one : ∀ i x, (bs ++ [(b, vs, ty)])[i]? = some x → bs[i]? = some x ∨ (i = bs.length ∧ x = (b, vs, ty)) := fun i x e => by
  rcases Nat.lt_or_ge i bs.length with hi | hi
  ·rw [List.getElem?_append_left hi] at e; exact .inl e
  ·rw [List.getElem?_append_right hi] at e
   rcases Nat.eq_zero_or_pos (i - bs.length) with h0 | h0
   ·rw [h0] at e; exact .inr ⟨by omega, (Option.some.inj e).symm⟩
   ·rw [List.getElem?_eq_none (by simp only [List.length_cons, List.length_nil]; omega)] at e; cases e
 refine ⟨h'.ch, h'.lt, h'.top, fun i x e => ?_, fun i x e => ?_, fun i j x y e e' hne => ?_, F, fun i x e => ⟨(h1 i x e).1.ch hc (fun _ _ h => h), (h1 i x e).2⟩, h2, fun i b hb => ⟨(h3 i b hb).1, Nat.lt_of_lt_of_le (h3 i b hb).2 hc.size⟩, fun i j x e => ?_⟩
 ·rcases one i x e with e | ⟨_, rfl⟩
  ·exact h'.blk i x e
  ·exact hb
 ·rcases one i x e with e | ⟨_, rfl⟩
  ·exact h.lo i x e
  ·have := h.ch.size; dsimp only; omega
 ·rcases one i x e with e1 | ⟨h1, rfl⟩
  ·rcases one j y e' with e2 | ⟨h2, rfl⟩
   ·exact h.df i j x y e1 e2 hne
   ·have := (h.blk i x e1).lt; dsimp only; omega
  ·rcases one j y e' with e2 | ⟨h2, rfl⟩
   ·have := (h.blk j y e2).lt; dsimp only; omega
   ·omega
 ·rcases one i x e with e | ⟨_, rfl⟩
  ·exact h4 i j x e
  ·exact fun hf => by have := (h3 j b hf).2; omega
theorem Sys.set (h : Sys w0 w bs ts) (i : Nat) {b : Nat} {vs vs' : List Value} {ty : TypeId} (hi : bs[i]? = some (b, vs, ty)) (hc : Ch (fun j => j = b) w w') (hb : Blk w' b vs' ty) : Sys w0 w' (bs.set i (b, vs', ty)) ts := by
 obtain ⟨F, h1, h2, h3, h4⟩ := h.tm
 have hlo := h.lo i _ hi
 have hlen : i < bs.length := (List.getElem?_eq_some_iff.1 hi).1
 have key : ∀ j x, (bs.set i (b, vs', ty))[j]? = some x → (j = i ∧ x = (b, vs', ty)) ∨ (j ≠ i ∧ bs[j]? = some x) := fun j x e => by
  by_cases hj : j = i
  ·subst hj; rw [List.getElem?_set_self hlen] at e; exact .inl ⟨rfl, (Option.some.inj e).symm⟩
  ·rw [List.getElem?_set_ne (fun h => hj h.symm)] at e; exact .inr ⟨hj, e⟩
 have nF : ∀ j, ¬ F j b := fun j => h4 i j _ hi
 refine ⟨h.ch.trans hc (fun k hk e => by dsimp only at hlo; omega), qJ hc h.lt (fun k e => by have := h.top; dsimp only at hlo; omega), h.top, fun j x e => ?_, fun j x e => ?_, fun j k x y e e' hne => ?_, F, fun j x e => ⟨(h1 j x e).1.ch hc (fun k hk e' => nF j (e' ▸ hk)), (h1 j x e).2⟩, h2, fun j k hk => ⟨(h3 j k hk).1, Nat.lt_of_lt_of_le (h3 j k hk).2 hc.size⟩, fun j k x e => ?_⟩
 ·rcases key j x e with ⟨_, rfl⟩ | ⟨hj, e⟩
  ·exact hb
  ·exact (h.blk j x e).ch hc (h.df j i x _ e hi hj)
 ·rcases key j x e with ⟨_, rfl⟩ | ⟨hj, e⟩
  ·exact hlo
  ·exact h.lo j x e
 ·rcases key j x e with ⟨h5, rfl⟩ | ⟨hj, e⟩
  ·rcases key k y e' with ⟨h6, rfl⟩ | ⟨hk, e'⟩
   ·omega
   ·exact h.df i k (b, vs, ty) y hi e' (by omega)
  ·rcases key k y e' with ⟨h6, rfl⟩ | ⟨hk, e'⟩
   ·exact h.df j i x (b, vs, ty) e hi hj
   ·exact h.df j k x y e e' hne
 ·rcases key j x e with ⟨_, rfl⟩ | ⟨hj, e⟩
  ·exact nF k
  ·exact h4 j k x e
theorem Sys.pre {bs' : List (Nat × List Value × TypeId)} (h : Sys w0 w (bs ++ bs') ts) : Sys w0 w bs ts := by
 obtain ⟨F, h1, h2, h3, h4⟩ := h.tm
 have key : ∀ (i : Nat) x, bs[i]? = some x → (bs ++ bs')[i]? = some x := fun i x e => by rw [List.getElem?_append_left (List.getElem?_eq_some_iff.1 e).1]; exact e
 exact ⟨h.ch, h.lt, h.top, fun i x e => h.blk i x (key i x e), fun i x e => h.lo i x (key i x e), fun i j x y e e' => h.df i j x y (key i x e) (key j y e'), F, h1, h2, h3, fun i j x e => h4 i j x (key i x e)⟩
theorem Sys.new (h : Sys w0 w bs ts) (p1 p2 : Int) : Calls Tryz.prog 10 [.int .i64 p1, .int .i64 p2].toArray w fun e w' => ∃ t, e = .returned (.pointer (some ⟨t, 0, none⟩)) ∧ Sys w0 w' bs (ts ++ [(t, startT zeroT p1 p2)]) ∧ Ch (fun _ => False) w w' := by
 refine (qh1 p1 p2 w h.lt (Nat.le_trans h.top h.ch.size)).mono fun e w' ⟨t, he, hA, hc⟩ => ⟨t, he, ?_, hc⟩
 obtain ⟨F, h1, h2, h3, h4⟩ := h.tm
 have h' := h.same hc
 have hz := hc.size
 have hz0 := h.ch.size
 have ht : TermAt w' t (startT zeroT p1 p2) (fun b => w.heap.size ≤ b ∧ b < w'.heap.size) := hA
 refine ⟨h'.ch, h'.lt, h'.top, h'.blk, h'.lo, h'.df, fun i b => if i = ts.length then w.heap.size ≤ b ∧ b < w'.heap.size else i < ts.length ∧ F i b, fun i x e => ?_, fun i j hij b hb hb' => ?_, fun i b hb => ?_, fun i j x e hb => ?_⟩
 ·rcases Nat.lt_or_ge i ts.length with hi | hi
  ·rw [List.getElem?_append_left hi] at e
   refine ⟨?_, (h1 i x e).2⟩
   have e2 : (fun b => if i = ts.length then w.heap.size ≤ b ∧ b < w'.heap.size else i < ts.length ∧ F i b) = F i := by
    funext b; rw [if_neg (by omega)]; exact propext ⟨fun h => h.2, fun h => ⟨hi, h⟩⟩
   show TermAt w' x.1 x.2 (fun b => if i = ts.length then w.heap.size ≤ b ∧ b < w'.heap.size else i < ts.length ∧ F i b)
   rw [e2]
   exact (h1 i x e).1.ch hc (fun _ _ h => h)
  ·rw [List.getElem?_append_right hi] at e
   rcases Nat.eq_zero_or_pos (i - ts.length) with h0 | h0
   ·rw [h0] at e
    obtain rfl := (Option.some.inj e).symm
    obtain rfl : i = ts.length := by omega
    simp only [if_true]
    exact ⟨ht, qet p1 p2⟩
   ·rw [List.getElem?_eq_none (by simp only [List.length_cons, List.length_nil]; omega)] at e; cases e
 ·dsimp only at hb hb'
  split at hb
  ·split at hb'
   ·omega
   ·have := (h3 j b hb'.2).2; omega
  ·split at hb'
   ·have := (h3 i b hb.2).2; omega
   ·exact h2 i j hij b hb.2 hb'.2
 ·dsimp only at hb
  split at hb
  ·omega
  ·have := h3 i b hb.2; omega
 ·dsimp only at hb
  split at hb
  ·have := (h.blk i x e).lt; omega
  ·exact h4 i j x e hb.2
theorem Sys.step (h : Sys w0 w bs ts) {i t : Nat} {T T' : TS} (hi : ts[i]? = some (t, T)) {k : FuncId} {args : Array Value} {v : Value}
  (hk : ∀ F, TermAt w t T F → LT w → Fine T → Calls Tryz.prog k args w fun e w' => e = .returned v ∧ TermAt w' t T' (more F w w') ∧ Ch F w w') (hf : Fine T → Fine T') :
  Calls Tryz.prog k args w fun e w' => e = .returned v ∧ Sys w0 w' bs (ts.set i (t, T')) := by
 obtain ⟨F, h1, h2, h3, h4⟩ := h.tm
 have hlen : i < ts.length := (List.getElem?_eq_some_iff.1 hi).1
 refine (hk (F i) (h1 i _ hi).1 h.lt (h1 i _ hi).2).mono fun e w' ⟨he, hA, hc⟩ => ⟨he, ?_⟩
 have hz := hc.size
 refine ⟨Ch.trans h.ch hc (fun b hb hb' => ?_), qJ hc h.lt (fun b hb => by have := h3 i b hb; have := h.top; omega), h.top, fun j x e => (h.blk j x e).ch hc (h4 j i x e), h.lo, h.df, fun j b => if j = i then more (F i) w w' b else F j b, fun j x e => ?_, fun j k hjk b hb hb' => ?_, fun j b hb => ?_, fun j k x e hb => ?_⟩
 ·have := (h3 i b hb').1; omega
 ·by_cases hj : j = i
  ·subst hj
   rw [List.getElem?_set_self hlen] at e
   obtain rfl := (Option.some.inj e).symm
   simp only [if_true]
   exact ⟨hA, hf (h1 j _ hi).2⟩
  ·rw [List.getElem?_set_ne (fun h => hj h.symm)] at e
   simp only [if_neg hj]
   exact ⟨(h1 j x e).1.ch hc (fun b hb => h2 j i hj b hb), (h1 j x e).2⟩
 ·dsimp only at hb hb'
  split at hb
  ·rename_i hji
   subst hji
   rw [if_neg (fun h => hjk h.symm)] at hb'
   rcases hb with hb | hb
   ·exact h2 j k hjk b hb hb'
   ·have := (h3 k b hb').2; omega
  ·split at hb'
   ·rename_i hji hki
    subst hki
    rcases hb' with hb' | hb'
    ·exact h2 j k hjk b hb hb'
    ·have := (h3 j b hb).2; omega
   ·exact h2 j k hjk b hb hb'
 ·dsimp only at hb
  have hz0 := h.ch.size
  split at hb
  ·rcases hb with hb | hb
   ·have := h3 i b hb; omega
   ·omega
  ·have := h3 j b hb; omega
 ·dsimp only at hb
  split at hb
  ·rcases hb with hb | hb
   ·exact h4 j i x e hb
   ·have := (h.blk j x e).lt; omega
  ·exact h4 j k x e hb
theorem Sys.look (h : Sys w0 w bs ts) {k : FuncId} {args : Array Value} {v : Value} (hk : Calls Tryz.prog k args w fun e w' => e = .returned v ∧ Ch (fun _ => False) w w') : Calls Tryz.prog k args w fun e w' => e = .returned v ∧ Sys w0 w' bs ts :=
 hk.mono fun _ _ ⟨he, hc⟩ => ⟨he, h.same hc⟩
theorem Sys.at (h : Sys w0 w bs ts) {i t : Nat} {T : TS} (hi : ts[i]? = some (t, T)) : ∃ F, TermAt w t T F := by
 obtain ⟨F, h1, _⟩ := h.tm
 exact ⟨_, (h1 i _ hi).1⟩
theorem Sys.cell (h : Sys w0 w bs ts) {i t : Nat} {T : TS} (hi : ts[i]? = some (t, T)) (c : Nat) {v : Value} (hv : ∀ g o bk ps, (T.vals g o bk ps)[c]? = some v) : w.cell? ⟨t, c, none⟩ = some v := by
 obtain ⟨F, g, o, ba, bn, bc, pa, pn, pc, F1, F2, FB, FP, hI⟩ := h.at hi
 exact (hI.blk.cell c).trans (hv _ _ _ _)
theorem Sys.grid (h : Sys w0 w bs ts) {i t : Nat} {T : TS} (hi : ts[i]? = some (t, T)) : ∃ g F, w.cell? ⟨t, 0, none⟩ = some (.pointer (some ⟨g, 0, none⟩)) ∧ GridAt w g T.grid F := by
 obtain ⟨F, g, o, ba, bn, bc, pa, pn, pc, F1, F2, FB, FP, hI⟩ := h.at hi
 exact ⟨g, F1, (hI.blk.cell 0).trans rfl, hI.g1⟩
theorem Sys.other (h : Sys w0 w bs ts) {i t : Nat} {T : TS} (hi : ts[i]? = some (t, T)) : ∃ g F, w.cell? ⟨t, 1, none⟩ = some (.pointer (some ⟨g, 0, none⟩)) ∧ GridAt w g T.other F := by
 obtain ⟨F, g, o, ba, bn, bc, pa, pn, pc, F1, F2, FB, FP, hI⟩ := h.at hi
 exact ⟨o, F2, (hI.blk.cell 1).trans rfl, hI.g2⟩
theorem Sys.outs (h : Sys w0 w bs ts) {i t : Nat} {T : TS} (hi : ts[i]? = some (t, T)) : ∃ ba bn bc rows FB, w.cell? ⟨t, 97, none⟩ = some (.slice ba bn bc) ∧ bn = T.back.length ∧ LinesAt w ba bn rows FB ∧ rows.map Row.l = T.back ∧ (ba = none ∨ ∃ b off, ba = some ⟨b, off, none⟩) := by
 obtain ⟨F, g, o, ba, bn, bc, pa, pn, pc, F1, F2, FB, FP, hI⟩ := h.at hi
 obtain ⟨rows, hL, hm⟩ := hI.bk
 exact ⟨ba, bn, bc, rows, FB, (hI.blk.cell 97).trans (by kernel_rfl), by rw [← hm, List.length_map, hL.len], hL, hm, hI.bz⟩
theorem Fine.back {T : TS} (h : Fine T) : T.back.length ≤ 1000 := by obtain ⟨⟨W, H, h⟩, _⟩ := h; exact Nat.le_trans h.bk (by decide)
theorem Fine.params {T : TS} (h : Fine T) : T.parser.params.length ≤ 1000 := Nat.le_trans h.2.n (by decide)
end
theorem and16 (x : Int) : 0 ≤ qt .and .i64 x 65535 ∧ qt .and .i64 x 65535 ≤ 65535 := by
 have h : (BitVec.ofInt 64 x &&& BitVec.ofInt 64 65535).toNat ≤ 65535 := by
  rw [BitVec.toNat_and]
  exact Nat.and_le_right
 unfold qt
 show 0 ≤ IntKind.wrap .i64 (((BitVec.ofInt 64 x &&& BitVec.ofInt 64 65535).toNat : Nat) : Int) ∧ IntKind.wrap .i64 (((BitVec.ofInt 64 x &&& BitVec.ofInt 64 65535).toNat : Nat) : Int) ≤ 65535
 generalize (BitVec.ofInt 64 x &&& BitVec.ofInt 64 65535).toNat = n at h
 rw [qce (k := .i64) (n := ((n : Nat) : Int)) (show -9223372036854775808 ≤ ((n : Nat) : Int) ∧ ((n : Nat) : Int) ≤ 9223372036854775807 by omega)]
 omega
theorem styR_any (s : Sty) (w : World) : Calls Tryz.prog 70 [.agg #[.bool s.bold, .bool s.under, .bool s.turned, iX s.fore, iX s.back]].toArray w fun e w' => e = .returned (.bool (qcF s)) ∧ Ch (fun _ => False) w w' := by
 have h := Sep.nil w; refine yA Tryz.func70 rfl <| ysr <| yo (zN [.bool s.bold, .bool s.under, .bool s.turned, iX s.fore, iX s.back] 33 h fun u f h => ?_); refine yz 2 <| ysr <| yp 4 [] (.l (h.c 0 3) .z) <| yw [6] (rM 0 s.fore) (fun a => ?_) fun a => ?_
 ·have g := a; refine yp 9 [] (.l (h.c 0 3) .z) <| yw [11] (rM s.fore 8) (fun b => ?_) fun b => ?_
  ·have i := b; refine yp 14 [] (.l (h.c 0 4) .z) <| yw [16] (rM 0 s.back) (fun d => ?_) fun d => ?_
   ·have j := d; refine yp 19 [] (.l (h.c 0 4) .z) <| ye <| q8 (yR1 (.bool (decide (s.back ≤ 8))) ?_); refine ⟨zc ?_, h.ch⟩; unfold qcF; rw [Bool.eq_iff_iff]; simp only [decide_eq_true_eq, Bool.false_eq_true, true_iff, false_iff, iff_true, iff_false, not_and]; omega
   have k := d; refine yz 19 <| q8 (yR1 (.bool false) ?_); refine ⟨zc ?_, h.ch⟩; unfold qcF; rw [Bool.eq_iff_iff]; simp only [decide_eq_true_eq, Bool.false_eq_true, true_iff, false_iff, iff_true, iff_false, not_and]; omega
  have m := b; refine yz 19 <| q8 (yR1 (.bool false) ?_); refine ⟨zc ?_, h.ch⟩; unfold qcF; rw [Bool.eq_iff_iff]; simp only [decide_eq_true_eq, Bool.false_eq_true, true_iff, false_iff, iff_true, iff_false, not_and]; omega
 have n := a; refine yz 19 <| q8 (yR1 (.bool false) ?_); refine ⟨zc ?_, h.ch⟩; unfold qcF; rw [Bool.eq_iff_iff]; simp only [decide_eq_true_eq, Bool.false_eq_true, true_iff, false_iff, iff_true, iff_false, not_and]; omega
theorem qjB (b off n cap : Nat) (l : List Cel) (w : World) (hr : Rd w (some ⟨b, off, none⟩) (flat l)) (hn : l.length = n) (hnb : n ≤ 1000) : Calls Tryz.prog 46 [.slice (some ⟨b, off, none⟩) n cap].toArray w fun e w' => ∃ o c, e = .returned (.slice (o.map at0) n c) ∧ Own w' qbN 6 o n c (flat (qac l)) ∧ (∀ b, o = some b → w.heap.size ≤ b) ∧ Ch (fun _ => False) w w' := by
 subst hn; have h := Sep.nil w; refine yA Tryz.func46 rfl <| yx 1 <| yx 1 <| ys <| yx 3 <| q9 <| qP [3, 6, 7, 8] (f' := [(3, nX), (6, .slice (some ⟨b, off, none⟩) l.length cap), (7, iX ((l.length : Nat) : Int)), (8, iX 0)]) <| qz (σ := Nat × Option Nat × Nat) (fun ⟨k, o, c⟩ => [(3, .slice (o.map at0) k c), (6, .slice (some ⟨b, off, none⟩) l.length cap), (7, iX ((l.length : Nat) : Int)), (8, iX ((k : Nat) : Int))]) (fun ⟨k, o, c⟩ u => k ≤ l.length ∧ Sep w (fun _ => False) u [qbO 66 6 o k c (flat ((qac l).take k))]) (fun ⟨k, o, c⟩ => l.length - k) (0, none, 0) rfl ?_ ?_
 ·exact ⟨Nat.zero_le _, h.own0 66 6⟩
 intro p u G V d; obtain ⟨k, o, c⟩ := p; obtain ⟨hk, h⟩ := G; refine yx 1 <| ys <| yc (rL ((k : Nat) : Int) ((l.length : Nat) : Int)) (fun H => ?_) fun H => ?_
 ·refine yk <| ys <| q9 <| ysr <| yp 2 [] (.i ((k : Nat) : Int) (l.length) (.m (qb8 (i := ((k : Nat) : Int)) (h.rd hr) (by omega) (by omega)) (.m (qh (i := ((k : Nat) : Int)) (h.rd hr) (by omega) (by omega) 1 _ (by decide) rfl) (.m (qh (i := ((k : Nat) : Int)) (h.rd hr) (by omega) (by omega) 2 _ (by decide) rfl) (.m (qh (i := ((k : Nat) : Int)) (h.rd hr) (by omega) (by omega) 3 _ (by decide) rfl) (.m (qh (i := ((k : Nat) : Int)) (h.rd hr) (by omega) (by omega) 4 _ (by decide) rfl) (.m (qh (i := ((k : Nat) : Int)) (h.rd hr) (by omega) (by omega) 5 _ (by decide) rfl) (.e .z)))))))) <| yo (zN [rX 0, .bool false, .bool false, .bool false, iX 0, iX 0] 66 h fun u W h => ?_); refine yo (zs h 1 fun u h => ?_); refine ye <| ys <| ysr <| yp 2 [] (.a (h.cs 1 1 5) .z) <| yo (yQ (h.look (styR_any (gc l ((k : Nat) : Int)).sty _)) fun u h => ?_); refine yz 4 <| yc (rN (rY (qcF (gc l ((k : Nat) : Int)).sty))) (fun r => ?_) fun r => ?_
  ·have f := r; refine q7 <| yq 2 <| yo (zs h 1 fun u h => ?_); refine ye <| ys <| ysr <| yp 4 [] (.l (h.c 1 0) .z) <| yw [21] (rI (gc l ((k : Nat) : Int)).rune 0) (fun s => ?_) fun s => ?_
   ·have j := s; refine yp 6 [] (.l (h.c 1 0) .z) <| yo (yQ (h.look (qes ((gc l ((k : Nat) : Int)).rune) _)) fun u h => ?_); refine yz 9 <| yc (rN (rY (qae (gc l ((k : Nat) : Int)).rune))) (fun t => ?_) fun t => ?_
    ·have A := t; refine q7 <| yq 1 <| yo (zs h 1 fun u h => ?_); refine ye <| q7 <| yp 2 [] (.a (h.cs 1 0 6) .z) <| yo (zB [rX 120, .bool false, .bool false, .bool false, iX 0, iX 0] 66 1 h fun u X h => ?_); refine yo (zA 0 32 1 1 (k + 1) (flat ((qac l).take (k + 1))) h (Rd.all (h.b 2)) rfl (hz := qby (c := (Cel.mk 120 qaD)) (by omega) (qcZ (by simp [f, j, A]) (by simp [f, j, A]))) (hb := by simp only [maxLen]; omega) fun u I J h Y => ?_); refine yq 5 <| yE (nB (nS ?_)); refine q7 <| yp 2 [] (.q6 (((k : Nat) : Int) + 1) .z) ?_; have h := h.nrm 1 [rX 120, .bool false, .bool false, .bool false, iX 0, iX 0]; refine yE (fun a ha => d (k + 1, I, J) _ ⟨by omega, h.take 1⟩ (by show l.length - (k + 1) < l.length - k; omega) a (ha.kp [3, 6, 7, 8]))
    have B := t; refine yk <| q7 <| yp 2 [] (.a (h.cs 1 0 6) .z) <| yo (zB [rX (gc l ((k : Nat) : Int)).rune, .bool false, .bool false, .bool false, iX 0, iX 0] 66 1 h fun u Z h => ?_); refine yo (zA 0 32 1 1 (k + 1) (flat ((qac l).take (k + 1))) h (Rd.all (h.b 2)) rfl (hz := qby (c := (Cel.mk (gc l ((k : Nat) : Int)).rune qaD)) (by omega) (qcZ (by simp [f, j, B]) (by simp [f, j, B]))) (hb := by simp only [maxLen]; omega) fun u K L h a0 => ?_); refine yq 5 <| yE (nB (nS ?_)); refine q7 <| yp 2 [] (.q6 (((k : Nat) : Int) + 1) .z) ?_; have h := h.nrm 1 [rX (gc l ((k : Nat) : Int)).rune, .bool false, .bool false, .bool false, iX 0, iX 0]; refine yE (fun a ha => d (k + 1, K, L) _ ⟨by omega, h.take 1⟩ (by show l.length - (k + 1) < l.length - k; omega) a (ha.kp [3, 6, 7, 8]))
   have C := s; refine yz 9 <| ycf <| yk <| q7 <| yp 2 [] (.a (h.cs 1 0 6) .z) <| yo (zB [rX (gc l ((k : Nat) : Int)).rune, .bool false, .bool false, .bool false, iX 0, iX 0] 66 1 h fun u a1 h => ?_); refine yo (zA 0 32 1 1 (k + 1) (flat ((qac l).take (k + 1))) h (Rd.all (h.b 2)) rfl (hz := qby (c := (Cel.mk (gc l ((k : Nat) : Int)).rune qaD)) (by omega) (qcZ (by simp [f, C]) (by simp [f, C]))) (hb := by simp only [maxLen]; omega) fun u M N h a2 => ?_); refine yq 5 <| yE (nB (nS ?_)); refine q7 <| yp 2 [] (.q6 (((k : Nat) : Int) + 1) .z) ?_; have h := h.nrm 1 [rX (gc l ((k : Nat) : Int)).rune, .bool false, .bool false, .bool false, iX 0, iX 0]; refine yE (fun a ha => d (k + 1, M, N) _ ⟨by omega, h.take 1⟩ (by show l.length - (k + 1) < l.length - k; omega) a (ha.kp [3, 6, 7, 8]))
  have g := r; refine yk <| ys <| ysr <| yp 4 [] (.l (h.c 1 0) .z) <| yw [21] (rI (gc l ((k : Nat) : Int)).rune 0) (fun v => ?_) fun v => ?_
  ·have q := v; refine yp 6 [] (.l (h.c 1 0) .z) <| yo (yQ (h.look (qes ((gc l ((k : Nat) : Int)).rune) _)) fun u h => ?_); refine yz 9 <| yc (rN (rY (qae (gc l ((k : Nat) : Int)).rune))) (fun x => ?_) fun x => ?_
   ·have D := x; refine q7 <| yq 1 <| yo (zs h 1 fun u h => ?_); refine ye <| q7 <| yp 2 [] (.a (h.cs 1 0 6) .z) <| yo (zB [rX 120, .bool (gc l ((k : Nat) : Int)).sty.bold, .bool (gc l ((k : Nat) : Int)).sty.under, .bool (gc l ((k : Nat) : Int)).sty.turned, iX (gc l ((k : Nat) : Int)).sty.fore, iX (gc l ((k : Nat) : Int)).sty.back] 66 1 h fun u a3 h => ?_); refine yo (zA 0 32 1 1 (k + 1) (flat ((qac l).take (k + 1))) h (Rd.all (h.b 2)) rfl (hz := qby (c := (Cel.mk 120 (gc l ((k : Nat) : Int)).sty)) (by omega) (qcZ (by simp [g, q, D]) (by simp [g, q, D]))) (hb := by simp only [maxLen]; omega) fun u O P h a4 => ?_); refine yq 5 <| yE (nB (nS ?_)); refine q7 <| yp 2 [] (.q6 (((k : Nat) : Int) + 1) .z) ?_; have h := h.nrm 1 [rX 120, .bool (gc l ((k : Nat) : Int)).sty.bold, .bool (gc l ((k : Nat) : Int)).sty.under, .bool (gc l ((k : Nat) : Int)).sty.turned, iX (gc l ((k : Nat) : Int)).sty.fore, iX (gc l ((k : Nat) : Int)).sty.back]; refine yE (fun a ha => d (k + 1, O, P) _ ⟨by omega, h.take 1⟩ (by show l.length - (k + 1) < l.length - k; omega) a (ha.kp [3, 6, 7, 8]))
   have E := x; refine yk <| q7 <| yp 2 [] (.a (h.cs 1 0 6) .z) <| yo (zB [rX (gc l ((k : Nat) : Int)).rune, .bool (gc l ((k : Nat) : Int)).sty.bold, .bool (gc l ((k : Nat) : Int)).sty.under, .bool (gc l ((k : Nat) : Int)).sty.turned, iX (gc l ((k : Nat) : Int)).sty.fore, iX (gc l ((k : Nat) : Int)).sty.back] 66 1 h fun u a5 h => ?_); refine yo (zA 0 32 1 1 (k + 1) (flat ((qac l).take (k + 1))) h (Rd.all (h.b 2)) rfl (hz := qby (c := (gc l ((k : Nat) : Int))) (by omega) (qcZ (by simp [g, q, E]) (by simp [g, q, E]))) (hb := by simp only [maxLen]; omega) fun u Q R h a6 => ?_); refine yq 5 <| yE (nB (nS ?_)); refine q7 <| yp 2 [] (.q6 (((k : Nat) : Int) + 1) .z) ?_; have h := h.nrm 1 [rX (gc l ((k : Nat) : Int)).rune, .bool (gc l ((k : Nat) : Int)).sty.bold, .bool (gc l ((k : Nat) : Int)).sty.under, .bool (gc l ((k : Nat) : Int)).sty.turned, iX (gc l ((k : Nat) : Int)).sty.fore, iX (gc l ((k : Nat) : Int)).sty.back]; refine yE (fun a ha => d (k + 1, Q, R) _ ⟨by omega, h.take 1⟩ (by show l.length - (k + 1) < l.length - k; omega) a (ha.kp [3, 6, 7, 8]))
  have F := v; refine yz 9 <| ycf <| yk <| q7 <| yp 2 [] (.a (h.cs 1 0 6) .z) <| yo (zB [rX (gc l ((k : Nat) : Int)).rune, .bool (gc l ((k : Nat) : Int)).sty.bold, .bool (gc l ((k : Nat) : Int)).sty.under, .bool (gc l ((k : Nat) : Int)).sty.turned, iX (gc l ((k : Nat) : Int)).sty.fore, iX (gc l ((k : Nat) : Int)).sty.back] 66 1 h fun u a7 h => ?_); refine yo (zA 0 32 1 1 (k + 1) (flat ((qac l).take (k + 1))) h (Rd.all (h.b 2)) rfl (hz := qby (c := (gc l ((k : Nat) : Int))) (by omega) (qcZ (by simp [g, F]) (by simp [g, F]))) (hb := by simp only [maxLen]; omega) fun u S T h a8 => ?_); refine yq 5 <| yE (nB (nS ?_)); refine q7 <| yp 2 [] (.q6 (((k : Nat) : Int) + 1) .z) ?_; have h := h.nrm 1 [rX (gc l ((k : Nat) : Int)).rune, .bool (gc l ((k : Nat) : Int)).sty.bold, .bool (gc l ((k : Nat) : Int)).sty.under, .bool (gc l ((k : Nat) : Int)).sty.turned, iX (gc l ((k : Nat) : Int)).sty.fore, iX (gc l ((k : Nat) : Int)).sty.back]; refine yE (fun a ha => d (k + 1, S, T) _ ⟨by omega, h.take 1⟩ (by show l.length - (k + 1) < l.length - k; omega) a (ha.kp [3, 6, 7, 8]))
 have y : k = l.length := by omega
 refine qp (eS (qd (qb (nS ?_)))); refine yx 2 <| q8 (yR1 (.slice (o.map at0) k c) ?_); refine ⟨o, c, by rw [y], ?_, fun b e => ((h.newo 0) b e).1, h.ch⟩; have U := h.own 0; rwa [tame_all y, y] at U
theorem qjC (a : Option Addr) (cap : Nat) (w : World) : Calls Tryz.prog 46 [.slice a 0 cap].toArray w fun e w' => e = .returned (nX) ∧ Ch (fun _ => False) w w' := by
 have h := Sep.nil w; refine yA Tryz.func46 rfl <| yx 1 <| yx 1 <| ys <| yx 3 <| q9 <| yU 1 (yU1 ?_); refine yx 1 <| ys <| ycf <| qp (eS (qd (qb (nS ?_)))); refine yx 2 <| q8 (yR1 (nX) ?_); exact ⟨rfl, h.ch⟩
theorem qjD (p1 p2 : Int) (b off cap : Nat) (l : List Cel) (w : World) (hT : LT w) (h7 : gTop ≤ w.heap.size) (hr : Rd w (some ⟨b, off, none⟩) (flat l)) (hn0 : 0 < l.length) (hnb : l.length ≤ 400) : Calls Tryz.prog 27 [iX p1, iX p2, .slice (some ⟨b, off, none⟩) l.length cap].toArray w fun e w' => ∃ g F, e = .returned (pX g) ∧ GridAt w' g (qcG p1 p2 l) F ∧ (∀ b, F b → w.heap.size ≤ b) ∧ Ch (fun _ => False) w w' := by
 have h := Sep.nil w; refine yA Tryz.func27 rfl <| yx 1 <| ysr <| yq 2 <| yo (yC (qdy (p1) (p2) _ (qJ h.ch hT (fun _ h => h.elim)).tb (Nat.le_trans h7 h.ch.size)) ?_); rintro _ u ⟨f, O, rfl, A, B, C⟩; refine ⟨_, rfl, ?_⟩; have h := h.newGrid A B C; refine yz 4 <| yx 1 <| ys <| ysr <| yq 1 <| yo (yC (qjB b off l.length cap l _ (h.rd hr) rfl (by omega)) ?_); rintro _ u ⟨v, j, rfl, x, D, E⟩; refine ⟨_, rfl, ?_⟩; have h := h.fresh x D E; obtain ⟨n, rfl⟩ : ∃ b, v = some b := by
  cases hq : v with
  | some b => exact ⟨b, rfl⟩
  | none => have := (x.2.2.2.1 hq).1; omega
 refine yz 4 <| q9 <| qP [7, 8, 15, 16, 17] (f' := [(7, pX f), (8, iX 0), (15, .slice (some ⟨n, 0, none⟩) l.length j), (16, iX ((l.length : Nat) : Int)), (17, iX 0)]) <| qz (σ := Nat × Gr × Int) (fun ⟨k, G, i⟩ => [(7, pX f), (8, iX i), (15, .slice (some ⟨n, 0, none⟩) l.length j), (16, iX ((l.length : Nat) : Int)), (17, iX ((k : Nat) : Int))]) (fun ⟨k, G, i⟩ u => k ≤ l.length ∧ 0 ≤ i ∧ i ≤ 2 * (k : Int) ∧ qd0 ((qac l).drop k) G i = qcG p1 p2 l ∧ Sep w (fun _ => False) u [qN f G, qbO 66 6 (some n) l.length j (flat (qac l))]) (fun ⟨k, G, i⟩ => l.length - k) (0, qdb p1 p2, 0) rfl ?_ ?_
 ·exact ⟨Nat.zero_le _, Int.le_refl _, Int.le_refl _, rfl, h.take 2⟩
 intro p u H P y; obtain ⟨k, G, i⟩ := p; obtain ⟨hk, hi0, Q, d, h⟩ := H; have o : G.ok := (h.grid 0).elim fun _ h => h.ok; have R := mul_bd o.1 o.2.1; have S := div_bd (w := G.w) hi0 o.1.1; have T : (qac l).length = l.length := List.length_map _; refine yx 1 <| ys <| yc (rL ((k : Nat) : Int) ((l.length : Nat) : Int)) (fun I => ?_) fun I => ?_
 ·refine yk <| ys <| q9 <| ysr <| yp 2 [] (.i ((k : Nat) : Int) (l.length) (.m (qb8 (i := ((k : Nat) : Int)) (h.ownRd 1) (by omega) (by omega)) (.m (qh (i := ((k : Nat) : Int)) (h.ownRd 1) (by omega) (by omega) 1 _ (by decide) rfl) (.m (qh (i := ((k : Nat) : Int)) (h.ownRd 1) (by omega) (by omega) 2 _ (by decide) rfl) (.m (qh (i := ((k : Nat) : Int)) (h.ownRd 1) (by omega) (by omega) 3 _ (by decide) rfl) (.m (qh (i := ((k : Nat) : Int)) (h.ownRd 1) (by omega) (by omega) 4 _ (by decide) rfl) (.m (qh (i := ((k : Nat) : Int)) (h.ownRd 1) (by omega) (by omega) 5 _ (by decide) rfl) (.e .z)))))))) <| yo (zN [rX 0, .bool false, .bool false, .bool false, iX 0, iX 0] 66 h fun u U h => ?_); refine yo (zs h 2 fun u h => ?_); refine ye <| ys <| ys <| zD [] h fun u h => yd (uL 0 11) [] (.l (h.gwh 0).1 (.l (h.gwh 0).2 (.q6 (G.w * G.h) .z))) <| yDe (nS ?_); refine yc (rM (G.w * G.h) i) (fun r => ?_) fun r => ?_
  ·have J := r; rw [qi7 (by omega) J] at d; refine qp (eS (eB (eS (qd (qb (nS ?_)))))); refine yx 2 <| q8 (yR1 (pX f) ?_); obtain ⟨F, hG, s⟩ := h.gridNew 0; exact ⟨f, F, rfl, d ▸ hG, s, h.ch⟩
  have K := r; rw [qi6 (by omega) K] at d; refine yk <| ys <| zD [14] h fun u h => ?_; refine yd (uL 0 14) [] (.l (h.gwh 0).1 (.p (q := 0 ≤ (i : Int) ∧ 0 < (G.w : Int)) (by constructor <;> omega) (.l (h.gwh 0).1 (.p (q := 0 ≤ (i : Int) ∧ 0 < (G.w : Int)) (by constructor <;> omega) (.q6 (i / G.w) (.a (h.cs 2 0 6) .z)))))) ?_; refine yK 14 (yQ (h.step 0 (A' := qN f (qdu G ((i % G.w)) ((i / G.w)) (gc (qac l) ((k : Nat) : Int)))) (fun F hA _ => qgf _ _ F ((i % G.w)) ((i / G.w)) (gc (qac l) ((k : Nat) : Int)) _ (qJ h.ch hT (fun _ h => h.elim)).tb hA)) fun u h => ?_); refine qa <| yDe (nS ?_); refine ysr <| yp 3 [] (.q6 (i + 1) .z) <| ye <| ysr <| yp 2 [] (.l (h.c 2 0) .z) <| yo (yQ (h.look (qfN ((gc (qac l) ((k : Nat) : Int)).rune) _)) fun u h => ?_); refine ye <| yc (rY (qS (gc (qac l) ((k : Nat) : Int)).rune)) (fun t => ?_) fun t => ?_
  ·have L := t; rw [if_pos L] at d; refine q7 <| yp 3 [] (.q6 ((i + 1) + 1) .z) <| yE (nB (nS ?_)); refine q7 <| yp 2 [] (.q6 (((k : Nat) : Int) + 1) .z) ?_; have h := h.nrm 2 [rX (gc (qac l) ((k : Nat) : Int)).rune, .bool (gc (qac l) ((k : Nat) : Int)).sty.bold, .bool (gc (qac l) ((k : Nat) : Int)).sty.under, .bool (gc (qac l) ((k : Nat) : Int)).sty.turned, iX (gc (qac l) ((k : Nat) : Int)).sty.fore, iX (gc (qac l) ((k : Nat) : Int)).sty.back]; refine yE (fun a ha => y (k + 1, (qdu G ((i % G.w)) ((i / G.w)) (gc (qac l) ((k : Nat) : Int))), i + 2) _ ⟨by omega, by omega, by omega, d, h.take 2⟩ (by show l.length - (k + 1) < l.length - k; omega) a (by rw [show i + 2 = i + 1 + 1 by omega]; exact ha.kp [7, 8, 15, 16, 17]))
  have M := t; rw [if_neg (fun h => Bool.false_ne_true (M.symm.trans h))] at d; refine qf (nB (nS ?_)); refine q7 <| yp 2 [] (.q6 (((k : Nat) : Int) + 1) .z) ?_; have h := h.nrm 2 [rX (gc (qac l) ((k : Nat) : Int)).rune, .bool (gc (qac l) ((k : Nat) : Int)).sty.bold, .bool (gc (qac l) ((k : Nat) : Int)).sty.under, .bool (gc (qac l) ((k : Nat) : Int)).sty.turned, iX (gc (qac l) ((k : Nat) : Int)).sty.fore, iX (gc (qac l) ((k : Nat) : Int)).sty.back]; refine yE (fun a ha => y (k + 1, (qdu G ((i % G.w)) ((i / G.w)) (gc (qac l) ((k : Nat) : Int))), i + 1) _ ⟨by omega, by omega, by omega, d, h.take 2⟩ (by show l.length - (k + 1) < l.length - k; omega) a (ha.kp [7, 8, 15, 16, 17]))
 have N : k = (qac l).length := by omega
 rw [qjy N] at d; refine qp (eS (qd (qb (nS ?_)))); refine yx 2 <| q8 (yR1 (pX f) ?_); obtain ⟨F, hG, s⟩ := h.gridNew 0; exact ⟨f, F, rfl, d ▸ hG, s, h.ch⟩
theorem qjE (p1 p2 : Int) (a : Option Addr) (cap : Nat) (w : World) (hT : LT w) (h7 : gTop ≤ w.heap.size) : Calls Tryz.prog 27 [iX p1, iX p2, .slice a 0 cap].toArray w fun e w' => ∃ g F, e = .returned (pX g) ∧ GridAt w' g (qcG p1 p2 []) F ∧ (∀ b, F b → w.heap.size ≤ b) ∧ Ch (fun _ => False) w w' := by
 have h := Sep.nil w; refine yA Tryz.func27 rfl <| yx 1 <| ysr <| yq 2 <| yo (yC (qdy (p1) (p2) _ (qJ h.ch hT (fun _ h => h.elim)).tb (Nat.le_trans h7 h.ch.size)) ?_); rintro _ u ⟨c, k, rfl, d, f, i⟩; refine ⟨_, rfl, ?_⟩; have h := h.newGrid d f i; refine yz 4 <| yx 1 <| ys <| ysr <| yq 1 <| yo (yQ (h.look (qjC a cap _)) fun u h => ?_); refine yz 4 <| q9 <| yU 1 (yU1 ?_); refine yx 1 <| ys <| ycf <| qp (eS (qd (qb (nS ?_)))); refine yx 2 <| q8 (yR1 (pX c) ?_); obtain ⟨F, hG, j⟩ := h.gridNew 0; exact ⟨c, F, rfl, hG, j, h.ch⟩
theorem qeZ (p1 p2 : Int) (a : Option Addr) (n cap : Nat) (l : List Cel) (w : World) (hT : LT w) (h7 : gTop ≤ w.heap.size) (ha : n = 0 ∨ ∃ b off, a = some ⟨b, off, none⟩) (hr : Rd w a (flat l)) (hn : l.length = n) (hnb : n ≤ 400) : Calls Tryz.prog 27 [iX p1, iX p2, .slice a n cap].toArray w fun e w' => ∃ g F, e = .returned (pX g) ∧ GridAt w' g (qcG p1 p2 l) F ∧ (∀ b, F b → w.heap.size ≤ b) ∧ Ch (fun _ => False) w w' := by
 subst hn; by_cases c : l.length = 0
 ·obtain rfl := List.eq_nil_of_length_eq_zero c; exact qjE p1 p2 a cap w hT h7
 obtain ⟨b, off, rfl⟩ := ha.resolve_left c; exact qjD p1 p2 b off cap l w hT h7 hr (by omega) hnb
theorem qhc (p1 p2 : Int) (a : Option Addr) (n cap : Nat) (l : List Cel) (x y : Int) (hid : Bool) (w : World) (hT : LT w) (h7 : gTop ≤ w.heap.size) (ha : n = 0 ∨ ∃ b off, a = some ⟨b, off, none⟩) (hr : Rd w a (flat l)) (hn : l.length = n) (hnb : n ≤ 400) (V : Vw) (hV : V = viewV p1 p2 l x y hid) : Calls Tryz.prog 12 [iX p1, iX p2, .agg #[.slice a n cap, iX x, iX y, .bool hid]].toArray w fun e w' => ∃ g F, e = .returned (.agg #[pX g, iX V.x, iX V.y, .bool V.hid]) ∧ GridAt w' g V.g F ∧ (∀ b, F b → w.heap.size ≤ b) ∧ Ch (fun _ => False) w w' := by
 subst hV; have o := and16 x; have r := and16 y; have h := Sep.nil w; refine yA Tryz.func12 rfl <| ysr <| yo (zN [.slice a n cap, iX x, iX y, .bool hid] 51 h fun u s h => ?_); refine yo (zN [.pointer none, iX 0, iX 0, .bool false] 30 h fun u t h => ?_); refine ye <| ysr <| yp 4 [] (.l (h.c 0 0) .z) <| yo (yC (qeZ p1 p2 a n cap l _ (qJ h.ch hT (fun _ h => h.elim)) (Nat.le_trans h7 h.ch.size) ha (hr.ch h.ch iZ) hn hnb) ?_); rintro _ u ⟨f, v, rfl, i, j, k⟩; refine ⟨_, rfl, ?_⟩; have d := i.ok; have h := h.newGrid i j k; refine yz 6 <| ys <| zD [20] h fun u h => ?_; refine yd (uL 0 20) [] (.l (h.c 0 1) (.l (h.gwh 2).1 (.p (q := 0 ≤ ((qt .and .i64 x 65535) : Int) ∧ 0 < ((qcG p1 p2 l).w : Int)) (by constructor <;> (have := d.1; have := d.2.1; omega)) (.l (h.c 0 2) (.l (h.gwh 2).2 (.p (q := 0 ≤ ((qt .and .i64 y 65535) : Int) ∧ 0 < ((qcG p1 p2 l).h : Int)) (by constructor <;> (have := d.1; have := d.2.1; omega)) (.l (h.c 0 3) .z))))))) ?_; refine yK 20 (zs h 1 fun u h => ?_); refine qa <| yDe (nS ?_); refine q8 (qdX (.agg #[pX f, iX ((qt .and .i64 x 65535) % (qcG p1 p2 l).w), iX ((qt .and .i64 y 65535) % (qcG p1 p2 l).h), .bool hid]) (.a (h.cs 1 0 4) .z) ?_); obtain ⟨F, hG, m⟩ := h.gridNew 2; exact ⟨f, F, rfl, hG, m, h.ch⟩
theorem qhd (p1 p2 : Int) (w : World) (hT : LT w) (h7 : gTop ≤ w.heap.size) : Calls Tryz.prog 11 [iX p1, iX p2].toArray w fun e w' => ∃ g F, e = .returned (.agg #[pX g, iX 0, iX 0, .bool false]) ∧ GridAt w' g (qdb p1 p2) F ∧ (∀ b, F b → w.heap.size ≤ b) ∧ Ch (fun _ => False) w w' := by
 have h := Sep.nil w; refine yA Tryz.func11 rfl <| ysr <| yo (zN [.pointer none, iX 0, iX 0, .bool false] 30 h fun u k h => ?_); refine ye <| ysr <| yq 2 <| yo (yC (qdy (p1) (p2) _ (qJ h.ch hT (fun _ h => h.elim)).tb (Nat.le_trans h7 h.ch.size)) ?_); rintro _ u ⟨c, l, rfl, d, f, i⟩; refine ⟨_, rfl, ?_⟩; have h := h.newGrid d f i; refine yq 4 <| yo (zs h 0 fun u h => ?_); refine ye <| q8 (qdX (.agg #[pX c, iX 0, iX 0, .bool false]) (.a (h.cs 0 0 4) .z) ?_); obtain ⟨F, hG, j⟩ := h.gridNew 1; exact ⟨c, F, rfl, hG, j, h.ch⟩
theorem qfO {p q : Nat} {A B : Vw} {F1 F2 : Nat → Prop} (w : World) (hA : GridAt w p A.g F1) (hB : GridAt w q B.g F2) : Calls Tryz.prog 18 [.agg #[pX p, iX A.x, iX A.y, .bool A.hid], .agg #[pX q, iX B.x, iX B.y, .bool B.hid]].toArray w fun e w' => e = .returned (.bool (qeY A B)) ∧ Ch (fun _ => False) w w' := by
 have h := Sep.nil w; refine yA Tryz.func18 rfl <| ysr <| yo (zN [pX p, iX A.x, iX A.y, .bool A.hid] 30 h fun u o h => ?_); refine yo (zN [pX q, iX B.x, iX B.y, .bool B.hid] 30 h fun u r h => ?_); refine yz 3 <| ysr <| yp 6 [] (.l (h.c 0 1) (.l (h.c 1 1) .z)) <| yw [10] (rE A.x B.x) (fun a => ?_) fun a => ?_
 ·have b := a; refine yp 13 [] (.l (h.c 0 2) (.l (h.c 1 2) .z)) <| yw [17] (rE A.y B.y) (fun d => ?_) fun d => ?_
  ·have i := d; refine yp 20 [] (.l (h.c 0 3) (.l (h.c 1 3) .z)) <| yw [24] (rY (A.hid == B.hid)) (fun f => ?_) fun f => ?_
   ·have j := f; refine yp 24 [] (.l (h.c 0 0) (.l (h.c 1 0) .z)) <| yo (yQ (h.look (qdN (hA.ch h.ch fun _ _ h => h) (hB.ch h.ch fun _ _ h => h))) fun u h => ?_); refine yz 27 <| q8 (yR1 (.bool (grB A.g B.g)) ?_); refine ⟨zc ?_, h.ch⟩; unfold qeY; simp [b, i, j]
   have k := f; refine yz 27 <| q8 (yR1 (.bool false) ?_); refine ⟨zc ?_, h.ch⟩; unfold qeY; simp [b, i, k]
  have m := d; refine yz 27 <| q8 (yR1 (.bool false) ?_); refine ⟨zc ?_, h.ch⟩; unfold qeY; simp [b, m]
 have n := a; refine yz 27 <| q8 (yR1 (.bool false) ?_); refine ⟨zc ?_, h.ch⟩; unfold qeY; simp [n]
theorem qi8 (b off cap : Nat) (ls : List Lk) (w : World) (hr : Rd w (some ⟨b, off, none⟩) (lkV ls)) (hb : ls.length ≤ 9223372036854775807) : Calls Tryz.prog 9 [.slice (some ⟨b, off, none⟩) ls.length cap].toArray w fun e w' => e = .returned (.bool (qjA ls)) ∧ Ch (fun _ => False) w w' := by
 have h := Sep.nil w; refine yA Tryz.func9 rfl <| yx 1 <| ys <| yx 3 <| yc (rL 12 ((ls.length : Nat) : Int)) (fun f => ?_) fun f => ?_
 ·refine yx 1 <| q8 (rS (yR1 (.bool false) ?_)); exact ⟨congrArg Ending.returned (congrArg Value.bool (few_len (by omega))), h.ch⟩
 refine yk <| ys <| yx 3 <| q9 <| qP [8, 9, 10] (f' := [(8, .slice (some ⟨b, off, none⟩) ls.length cap), (9, iX ((ls.length : Nat) : Int)), (10, iX 0)]) <| qz (σ := Nat) (fun k => [(8, .slice (some ⟨b, off, none⟩) ls.length cap), (9, iX ((ls.length : Nat) : Int)), (10, iX ((k : Nat) : Int))]) (fun k u => k ≤ ls.length ∧ (∀ j, j < k → (gk ls j).n ≤ 400) ∧ Sep w (fun _ => False) u []) (fun k => ls.length - k) 0 rfl ?_ ?_
 ·exact ⟨Nat.zero_le _, fun j hj => absurd hj (Nat.not_lt_zero j), h.take 0⟩
 intro k u g q o; obtain ⟨hk, d, h⟩ := g; refine yx 1 <| ys <| yc (rL ((k : Nat) : Int) ((ls.length : Nat) : Int)) (fun p => ?_) fun p => ?_
 ·refine yk <| ys <| q9 <| ysr <| yp 2 [] (.i ((k : Nat) : Int) (ls.length) (.m (qd1 (i := k) (h.rd hr) (by omega) 0 _ (by decide) rfl) (.m (qd1 (i := k) (h.rd hr) (by omega) 1 _ (by decide) rfl) (.m (qd1 (i := k) (h.rd hr) (by omega) 2 _ (by decide) rfl) (.m (qd1 (i := k) (h.rd hr) (by omega) 3 _ (by decide) rfl) (.e .z)))))) <| yo (zN [nX, iX 0, iX 0, .bool false] 51 h fun u r h => ?_); refine yo (zs h 0 fun u h => ?_); refine ye <| ysr <| yp 4 [] (.l (h.c 0 0) .z) <| ye <| yc (rL 400 (((gk ls k).n : Nat) : Int)) (fun hf => ?_) fun hf => ?_
  ·refine yx 1 <| q8 (rB (rS (qa0 (rB (rS (yR1 (.bool false) ?_)))))); exact ⟨congrArg Ending.returned (congrArg Value.bool (few_at (k := k) (by omega) (by omega))), h.ch⟩
  refine qf (nB (nS ?_)); refine q7 <| yp 2 [] (.q6 (((k : Nat) : Int) + 1) .z) ?_; have h := h.nrm 0 [.slice (gk ls k).a (gk ls k).n (gk ls k).cap, iX (gk ls k).x, iX (gk ls k).y, .bool (gk ls k).hid]; refine yE (fun a ha => o (k + 1) _ ⟨by omega, fun j hj => (Nat.lt_or_ge j k).elim (d j) (fun h => by rw [show j = k by omega]; omega), h.take 0⟩ (by show ls.length - (k + 1) < ls.length - k; omega) a (ha.kp [8, 9, 10]))
 have s : k = ls.length := by omega
 refine qp (eS (qd (qb (nS ?_)))); refine yx 1 <| q8 (yR1 (.bool true) ?_); exact ⟨congrArg Ending.returned (congrArg Value.bool (few_t (by omega) (fun j hj => d j (by omega)))), h.ch⟩
theorem qi9 (a : Option Addr) (cap : Nat) (w : World) : Calls Tryz.prog 9 [.slice a 0 cap].toArray w fun e w' => e = .returned (.bool (qjA [])) ∧ Ch (fun _ => False) w w' := by
 have h := Sep.nil w; refine yA Tryz.func9 rfl <| yx 1 <| ys <| yx 3 <| ycf <| yk <| ys <| yx 3 <| q9 <| yU 1 (yU1 ?_); refine yx 1 <| ys <| ycf <| qp (eS (qd (qb (nS ?_)))); refine yx 1 <| q8 (yR1 (.bool true) ?_); exact ⟨congrArg Ending.returned (congrArg Value.bool (rfl)), h.ch⟩
section
variable {w0 w w' : World} {F0 : Nat → Prop} {l : List Asn} {i t g o : Nat} {T : TS}
theorem Sep.newT (h : Sep w0 F0 w l) (hA : TermAt w' t T (fun b => w.heap.size ≤ b ∧ b < w'.heap.size)) (hc : Ch (fun _ => False) w w') : Sep w0 F0 w' (l ++ [qbF t T]) :=
 h.add (A := qbF t T) (tmA.of hA) (fun _ hb => hb) hc
theorem Sep.wr (h : Sep w0 (fun _ => False) w l) (hT : LT w0) (i : Nat) {x : Option (Nat × Nat)} (hF : Fine T) (s : ByteArray) (hs : s.size ≤ 1000000) (hi : l[i]? = some (tmA x t T) := by rfl) : Calls Tryz.prog 13 [.pointer (some ⟨t, 0, none⟩), .string s].toArray w fun e w' => e = .returned (.tuple #[]) ∧ Sep w0 (fun _ => False) w' (l.set i (qbF t (qjq T s))) :=
 h.met i (fun F hA _ => by obtain ⟨⟨W, H, hL⟩, hp⟩ := hF; exact write_at hA (qJ h.ch hT (fun _ h => h.elim)) hL hp s hs) hi
theorem Sep.lookG {P : Program} {k : FuncId} {args : Array Value} {v : Value} (h : Sep w0 F0 w l) (i : Nat) (hk : ∀ F1, GridAt w g T.grid F1 → Calls P k args w fun e w' => e = .returned v ∧ Ch (fun _ => False) w w') (hi : l[i]? = some (tmA (some (g, o)) t T) := by rfl) : Calls P k args w fun e w' => e = .returned v ∧ Sep w0 F0 w' l := by
 obtain ⟨F, hA, _⟩ := h.at hi
 obtain ⟨F1, hG, _⟩ := tmA.grd (w' := w) (G' := T.grid) hA
 exact h.look (hk F1 hG)
end
def qia : Vw := ⟨qdb 2 1, 0, 0, false⟩
def fitB : Vw := ⟨qdu (qdb 2 1) 1 0 ⟨120, qaD⟩, 0, 0, false⟩
def fitT : TS := qjq (startT zeroT 2 1) (qfM qia fitB)
theorem qgv : (atG fitT.grid 1 0).rune = 120 ∧ fitT.cursor.x = 0 ∧ qeY qia qia = true ∧ qeY qia fitB = false ∧ fitB.g.h = 1 := by decide +kernel
theorem qjF : ∀ l ∈ fitB.g.lines, ∀ c ∈ l, qdP c.sty := by
 have : (fitB.g.lines.all fun l => l.all fun c => qcF c.sty) = true := by decide +kernel
 intro l hl c hc
 exact of_decide_eq_true (p := (0 ≤ c.sty.fore ∧ c.sty.fore ≤ 8) ∧ 0 ≤ c.sty.back ∧ c.sty.back ≤ 8) (List.all_eq_true.1 (List.all_eq_true.1 this l hl) c hc)
theorem qib : (qfM qia fitB).size ≤ 1000000 := by decide +kernel
def PS.gr (p : PS) : Prop := p.state = 0 → p = { atP 0 with utf := p.utf }
abbrev b24 : ByteArray := ⟨#[24]⟩
end Go.Proofs.YtjklgjjgndalcaaGreatDoor.X

namespace Go.Proofs.YtjklgjjgndalcaaGreatDoor.X
open Go Go.RowKit Go.Proofs.YtjklgjjgndalcaaGreatDoor
structure Kp (T U : TS) : Prop where
 alt : U.alt = true
 other : U.other = T.other
 away : U.away = T.away
 saved : U.saved = T.saved
 top : U.top = T.top
 bot : U.bot = T.bot
 title : U.title = T.title
 back : U.back = T.back
theorem Kp.refl {T : TS} (h : T.alt = true) : Kp T T := ⟨h, rfl, rfl, rfl, rfl, rfl, rfl, rfl⟩
theorem Kp.trans {T U V : TS} (h : Kp T U) (k : Kp U V) : Kp T V := ⟨k.alt, k.other.trans h.other, k.away.trans h.away, k.saved.trans h.saved, k.top.trans h.top, k.bot.trans h.bot, k.title.trans h.title, k.back.trans h.back⟩
end Go.Proofs.YtjklgjjgndalcaaGreatDoor.X


namespace Go.Proofs.YtjklgjjgndalcaaGreatDoor.X
open Go Go.RowKit Go.Proofs.YtjklgjjgndalcaaGreatDoor
structure Stp where
 text : ByteArray
 w : Int
 h : Int
def stp0 : Stp := ⟨ByteArray.empty, 0, 0⟩
def Stp.vals (x : Stp) : List Value := [.string x.text, .int .i64 x.w, .int .i64 x.h]
def flatS : List Stp → List Value
 | [] => []
 | x :: l => x.vals ++ flatS l
def gs (l : List Stp) (k : Nat) : Stp := l.getD k stp0
def qcd (l : List Cel) : Bool := (List.range l.length).all fun i => if (gc l (i : Int)).rune = 0 then qq l ((i : Int) - 1) else qgb (gc l (i : Int)) && (!qS (gc l (i : Int)).rune || qq l (i : Int))
def celO (c : Cel) : Prop := qaV c.sty = true ∧ (c.rune = 0 ∨ qae c.rune = true)
def okS (l : List Cel) : Prop := ∀ c ∈ l, celO c
def okC (l : List Cel) : Prop := okS l ∧ qcd l = true
theorem qaW {l : List Cel} {i : Nat} (h : i < l.length) : gc l (i : Int) = l[i] := by simp [gc, List.getD, h]
theorem qhe {l : List Cel} {i : Nat} (h : i < l.length) : gc l (i : Int) ∈ l := by rw [qaW h]; exact List.getElem_mem h
theorem wholeB_iff {l : List Cel} : qcd l = true ↔ ∀ i : Nat, i < l.length → ((gc l (i : Int)).rune = 0 → qq l ((i : Int) - 1) = true) ∧ ((gc l (i : Int)).rune ≠ 0 → qgb (gc l (i : Int)) = true ∧ (qS (gc l (i : Int)).rune = true → qq l (i : Int) = true)) := by
 unfold qcd
 rw [List.all_eq_true]
 refine ⟨fun h i hi => ?_, fun h i hi => ?_⟩
 ·have := h i (List.mem_range.2 hi)
  split at this
  ·rename_i h0; exact ⟨fun _ => this, fun h => absurd h0 h⟩
  ·rename_i h0
   rw [Bool.and_eq_true, Bool.or_eq_true, Bool.not_eq_true'] at this
   exact ⟨fun h => absurd h h0, fun _ => ⟨this.1, fun hw => this.2.elim (fun h => by rw [h] at hw; cases hw) id⟩⟩
 ·have := h i (List.mem_range.1 hi)
  split
  ·rename_i h0; exact this.1 h0
  ·rename_i h0
   rw [Bool.and_eq_true, Bool.or_eq_true, Bool.not_eq_true']
   refine ⟨(this.2 h0).1, ?_⟩
   cases hw : qS (gc l (i : Int)).rune with
   | false => exact .inl rfl
   | true => exact .inr ((this.2 h0).2 hw)
theorem qfP (l : List Cel) : ∀ k, k ≤ l.length → ∀ i : Nat, i < l.length → gc (qau l k) (i : Int) = if i < k then qbl l (i : Int) else gc l (i : Int)
 | 0, _, i, _ => by rw [if_neg (Nat.not_lt_zero i)]; rfl
 | k + 1, hk, i, hi => by
  have ih := qfP l k (by omega) i hi
  have hl := qah l k
  rw [qau, qaW (by rw [List.length_set, hl]; exact hi), List.getElem_set]
  split
  ·rename_i e; subst e; rw [if_pos (by omega)]
  ·rename_i e
   rw [qaW (by rw [hl]; exact hi)] at ih
   rw [ih]
   by_cases h : i < k
   ·rw [if_pos h, if_pos (by omega)]
   ·rw [if_neg h, if_neg (by omega)]
theorem qd2 (l : List Cel) {i : Nat} (hi : i < l.length) : gc (qj l) (i : Int) = qbl l (i : Int) := by
 unfold qj
 rw [qfP l _ (Nat.le_refl _) i hi, if_pos hi]
theorem qic : qS 0 = false := by decide +kernel
theorem qjG : qS 32 = false := by decide +kernel
theorem qdR : qae 32 = true := by decide +kernel
theorem pairedB_iff {l : List Cel} {i : Int} : qq l i = true ↔ 0 ≤ i ∧ i + 1 < (l.length : Nat) ∧ qS (gc l i).rune = true ∧ gc l (i + 1) = ⟨0, (gc l i).sty⟩ := by
 unfold qq
 simp only [Bool.and_eq_true, decide_eq_true_eq, beq_iff_eq]
 constructor
 ·rintro ⟨⟨⟨a, b⟩, c⟩, d⟩; exact ⟨a, b, c, d⟩
 ·rintro ⟨a, b, c, d⟩; exact ⟨⟨⟨a, b⟩, c⟩, d⟩
theorem qb1 {l : List Cel} {i : Int} (h1 : (gc l i).rune = 0 → qq l (i - 1) = true) (h2 : qS (gc l i).rune = true → qq l i = true) : qbl l i = gc l i := by
 unfold qbl
 rw [if_neg]
 intro h
 simp only [Bool.or_eq_true, Bool.and_eq_true, decide_eq_true_eq, Bool.not_eq_true'] at h
 rcases h with h | h
 ·rw [h1 h.1] at h; cases h.2
 ·rw [h2 h.1] at h; cases h.2
theorem qdS (l : List Cel) (i : Int) : qbl l i = ⟨32, (gc l i).sty⟩ ∨ (qbl l i = gc l i ∧ ((gc l i).rune = 0 → qq l (i - 1) = true) ∧ (qS (gc l i).rune = true → qq l i = true)) := by
 unfold qbl
 split
 ·exact .inl rfl
 ·rename_i h
  simp only [Bool.or_eq_true, Bool.and_eq_true, decide_eq_true_eq, Bool.not_eq_true', not_or, not_and] at h
  exact .inr ⟨rfl, fun h0 => by simpa using h.1 h0, fun hw => by simpa using h.2 hw⟩
theorem qdT {l : List Cel} {i : Int} (h : qq l i = true) : qq (qj l) i = true := by
 obtain ⟨h0, h1, h2, h3⟩ := pairedB_iff.1 h
 obtain ⟨k, rfl⟩ := Int.eq_ofNat_of_zero_le h0
 have e1 : gc (qj l) ((k : Nat) : Int) = gc l (k : Int) := by
  rw [qd2 l (by omega)]
  exact qb1 (fun h => by rw [h, qic] at h2; cases h2) (fun _ => h)
 have e2 : gc (qj l) (((k : Nat) : Int) + 1) = gc l ((k : Int) + 1) := by
  have e3 : ((k : Nat) : Int) + 1 = ((k + 1 : Nat) : Int) := by omega
  rw [e3, qd2 l (by omega), ← e3]
  refine qb1 (fun _ => ?_) (fun hw => ?_)
  ·rw [show ((k : Nat) : Int) + 1 - 1 = (k : Int) by omega]; exact h
  ·rw [h3, qic] at hw; cases hw
 refine pairedB_iff.2 ⟨h0, by rw [qm]; exact h1, by rw [e1]; exact h2, by rw [e2, e1]; exact h3⟩
theorem qgw {l : List Cel} (h : okS l) : okC (qj l) := by
 have one : ∀ i : Nat, i < l.length → celO (qbl l (i : Int)) := fun i hi => by
  have hc := h _ (qhe hi)
  rcases qdS l (i : Int) with e | ⟨e, _⟩
  ·rw [e]; exact ⟨hc.1, .inr qdR⟩
  ·rw [e]; exact hc
 refine ⟨fun c hc => ?_, wholeB_iff.2 fun i hi => ?_⟩
 ·obtain ⟨i, hi, rfl⟩ := List.mem_iff_getElem.1 hc
  rw [qm] at hi
  have := one i hi
  rwa [← qd2 l hi, qaW (by rw [qm]; exact hi)] at this
 ·rw [qm] at hi
  rw [qd2 l hi]
  have hc := one i hi
  rcases qdS l (i : Int) with e | ⟨e, h1, h2⟩
  ·rw [e]
   refine ⟨fun h => (by cases h), fun _ => ⟨?_, fun hw => by rw [qjG] at hw; cases hw⟩⟩
   rw [e] at hc
   unfold qgb
   rw [hc.1, Bool.and_true]
   exact qdR
  ·rw [e] at hc ⊢
   refine ⟨fun h => qdT (h1 h), fun h => ⟨?_, fun hw => qdT (h2 hw)⟩⟩
   unfold qgb
   rw [hc.1, hc.2.resolve_left h]; rfl
theorem qgx {l : List Cel} (h : okS l) {i : Nat} {c : Cel} (hc : celO c) : okS (l.set i c) := fun d hd => by
 rcases List.mem_or_eq_of_mem_set hd with hd | rfl
 ·exact h d hd
 ·exact hc
theorem qc8 {s : Sty} (h : qaV s = true) : celO (qs s) := by
 refine ⟨?_, .inr qdR⟩
 unfold qaV at *
 simp only [Bool.and_eq_true, decide_eq_true_eq] at *
 exact ⟨⟨⟨Int.le_refl _, (by show (0 : Int) ≤ 8; decide)⟩, h.1.2⟩, h.2⟩
theorem qf0 : qaV qaD = true := by decide
theorem qfQ (n : Nat) {s : Sty} (h : qaV s = true) : okC (List.replicate n (qs s)) := by
 refine ⟨fun c hc => by rw [List.eq_of_mem_replicate hc]; exact qc8 h, wholeB_iff.2 fun i hi => ?_⟩
 rw [List.length_replicate] at hi
 have e : gc (List.replicate n (qs s)) (i : Int) = qs s := by rw [qaW (by rw [List.length_replicate]; exact hi)]; simp
 rw [e]
 refine ⟨fun h => (by cases h), fun _ => ⟨?_, fun hw => ?_⟩⟩
 ·unfold qgb; rw [(qc8 h).1, Bool.and_true]; exact qdR
 ·have hw : qS 32 = true := hw
  rw [qjG] at hw; cases hw
theorem putL_ok {W : Int} {l : List Cel} {x : Int} {c : Cel} (h : okS l) (hc : qgb c = true) : okS (putL W l x c) := by
 unfold qgb at hc
 rw [Bool.and_eq_true] at hc
 unfold putL
 split
 ·exact qgx (qgx h ⟨hc.2, .inr hc.1⟩) ⟨hc.2, .inl rfl⟩
 ·exact qgx h ⟨hc.2, .inr hc.1⟩
def okG (G : Gr) : Prop := ∀ l ∈ G.lines, okC l
theorem okG_line {G : Gr} (h : okG G) (y : Int) : okS (gl G y) := by
 unfold gl
 rw [List.getD_eq_getElem?_getD]
 cases e : G.lines[y.toNat]? with
 | none => intro c hc; cases hc
 | some l => exact (h l (List.mem_of_getElem? e)).1
theorem okG_set {G : Gr} (h : okG G) (y : Int) {l : List Cel} (hl : okC l) : okG (qda G y l) := fun m hm => by
 rcases List.mem_or_eq_of_mem_set hm with hm | rfl
 ·exact h m hm
 ·exact hl
theorem okG_put {G : Gr} (h : okG G) (x y : Int) (c : Cel) : okG (qdu G x y c) := by
 unfold qdu
 split
 ·rename_i hc; exact okG_set h y (qgw (putL_ok (okG_line h y) hc.2))
 ·exact h
theorem qjH (w h : Int) : okG (qdb w h) := fun l hl => by rw [List.eq_of_mem_replicate hl]; exact qfQ _ qf0
theorem qf1 : ∀ (l : List Cel) (G : Gr) (i : Int), okG G → okG (qd0 l G i) ∧ (qd0 l G i).w = G.w ∧ (qd0 l G i).h = G.h
 | [], G, i, h => ⟨h, rfl, rfl⟩
 | c :: l, G, i, h => by
  unfold qd0
  split
  ·exact ⟨h, rfl, rfl⟩
  ·obtain ⟨h1, h2, h3⟩ := qf1 l (qdu G (i % G.w) (i / G.w) c) (if qS c.rune = true then i + 2 else i + 1) (okG_put h _ _ _)
   exact ⟨h1, h2.trans (qj0 _ _ _ _).1, h3.trans (qj0 _ _ _ _).2⟩
structure VOk (p1 p2 : Int) (V : Vw) : Prop where
 ok : okG V.g
 w : V.g.w = qw p1
 h : V.g.h = qw p2
 x : 0 ≤ V.x ∧ V.x < V.g.w
 y : 0 ≤ V.y ∧ V.y < V.g.h
theorem qc9 (n : Int) : 1 ≤ qw n ∧ qw n ≤ 60 := by unfold qw; omega
theorem qhf (p1 p2 : Int) (l : List Cel) (x y : Int) (hid : Bool) : VOk p1 p2 (viewV p1 p2 l x y hid) := by
 obtain ⟨h1, h2, h3⟩ := qf1 (qac l) (qdb p1 p2) 0 (qjH p1 p2)
 have hw : (qcG p1 p2 l).w = qw p1 := h2
 have hh : (qcG p1 p2 l).h = qw p2 := h3
 have b1 := qc9 p1
 have b2 := qc9 p2
 exact ⟨h1, hw, hh, ⟨Int.emod_nonneg _ (by omega), Int.emod_lt_of_pos _ (by omega)⟩, ⟨Int.emod_nonneg _ (by omega), Int.emod_lt_of_pos _ (by omega)⟩⟩
theorem qhg {G : Gr} (h : G.ok) {j : Nat} (hj : j < G.h.toNat) : (gl G (j : Int)).length = G.w.toNat := by
 have hl := h.2.2.1
 unfold gl
 rw [Int.toNat_natCast, List.getD_eq_getElem?_getD, List.getElem?_eq_getElem (by omega), Option.getD_some]
 exact h.2.2.2 _ (List.getElem_mem _)
theorem qfR (w : World) (hT : LT w) (h7 : gTop ≤ w.heap.size) : Calls Tryz.prog 8 [].toArray w fun e w' => e = .returned (.bool true) ∧ Ch (fun _ => False) w w' := by
 obtain ⟨f1, f2, f3, f4, f5⟩ := qgv; have f6 : (qdb (2) (1)).h = 1 := rfl; have h := Sep.nil w; refine yA Tryz.func8 rfl <| yx 1 <| ysr <| yo (yC (qhd (2) (1) _ (qJ h.ch hT (fun _ h => h.elim)) (Nat.le_trans h7 h.ch.size)) ?_); rintro _ u ⟨C, D, rfl, j, k, m⟩; refine ⟨_, rfl, ?_⟩; have h := h.newGrid j k m; refine yo (yC (qhd (2) (1) _ (qJ h.ch hT (fun _ h => h.elim)) (Nat.le_trans h7 h.ch.size)) ?_); rintro _ u ⟨n, E, rfl, o, p, q⟩; refine ⟨_, rfl, ?_⟩; have h := h.newGrid o p q; refine yo (yC (qh1 (2) (1) _ (qJ h.ch hT (fun _ h => h.elim)) (Nat.le_trans h7 h.ch.size)) ?_); rintro _ u ⟨G, rfl, r, s⟩; refine ⟨_, rfl, ?_⟩; have h := h.newT r s; refine yo (zN [.pointer none, iX 0, iX 0, .bool false] 30 h fun u H h => ?_); refine yo (zN [.pointer none, iX 0, iX 0, .bool false] 30 h fun u b24 h => ?_); refine yo (zs h 3 fun u h => ?_); refine yo (zs h 4 fun u h => ?_); refine yz 8 <| ys <| ysr ?_; obtain ⟨I, J, h⟩ := h.opn 2; obtain ⟨K, L, t⟩ := h.glines 1; refine yp 28 [] (.l (h.c 3 0) (.l (h.c 4 0) (.l (h.tg 2) (.l (h.c 4 0) (.l t .z))))) <| ye <| yc (rI (((qdb (2) (1)).h.toNat : Nat) : Int) 1) (fun b => ?_) fun b => ?_
 ·have M := b; exfalso; omega
 have N := b; refine yk <| ysr <| yp 3 [] (.l (h.c 4 0) .z) <| yo (yQ (h.step 1 (A' := qN n (qdu (qdb (2) (1)) (1) (0) (Cel.mk 120 qaD))) (fun F hA _ => qgf _ _ F (1) (0) (Cel.mk 120 qaD) _ (qJ h.ch hT (fun _ h => h.elim)).tb hA)) fun u h => ?_); refine ye <| ysr <| yp 3 [] (.a (h.cs 3 0 4) (.a (h.cs 4 0 4) .z)) <| yo (yQ (h.look ((h.grid 0).elim fun _ hA => (h.grid 1).elim fun _ hB => diff_any (A := qia) (B := fitB) _ (qJ h.ch hT (fun _ h => h.elim)) hA hB rfl rfl ⟨Int.le_refl _, by decide⟩ ⟨Int.le_refl _, by decide⟩ qjF)) fun u h => ?_); refine yo (yQ (h.wr hT 2 (qet 2 1) (qfM qia fitB) qib) fun u h => ?_); refine ye <| ysr ?_; obtain ⟨O, P, h⟩ := h.opn 2; refine yp 4 [] (.l (h.tg 2) .z) <| yo (yQ (h.lookG 2 fun _ hG => qiS _ _ _ (1) (0) _ (qJ h.ch hT (fun _ h => h.elim)).tb hG) fun u h => ?_); refine yq 8 <| yw [51] (rE (atG fitT.grid (1) (0)).rune 120) (fun d => ?_) fun d => ?_
 ·have Q := d; refine yp 16 [] (.l (h.tc 2 2) .z) <| yw [59] (rE fitT.cursor.x 0) (fun f => ?_) fun f => ?_
  ·have R := f; refine yp 18 [] (.a (h.cs 3 0 4) (.a (h.cs 3 0 4) .z)) <| yo (yQ (h.look ((h.grid 0).elim fun _ hA => (h.grid 0).elim fun _ hB => qfO (A := qia) (B := qia) _ hA hB)) fun u h => ?_); refine yq 21 <| yw [64] (rY (qeY qia qia)) (fun g => ?_) fun g => ?_
   ·have S := g; refine yp 23 [] (.a (h.cs 3 0 4) (.a (h.cs 4 0 4) .z)) <| yo (yQ (h.look ((h.grid 0).elim fun _ hA => (h.grid 1).elim fun _ hB => qfO (A := qia) (B := fitB) _ hA hB)) fun u h => ?_); refine yz 27 <| q8 (yR1 (.bool (!(qeY qia fitB))) ?_); refine ⟨zc ?_, h.ch⟩; simp [f1, f2, f3, f4]
   have i := g; rw [f3] at i; cases i
  have v := f; exact absurd f2 v
 have y := d; exact absurd f1 y
def qid (x y : Int) (L : Nat → List Cel) : Nat → Gr → Gr
 | 0, G => G
 | k + 1, G => qg2 (qid x y L k G) x (y + (k : Int)) (L k)
def qg3 (G : Gr) (n : Int) (k : Nat) : List Cel := qgi (if (k : Int) < G.h then gl G (k : Int) else []) n
def qo (G : Gr) (b : Bx) (G2 : Gr) : Gr := if qcE b = true then qid b.x b.y (qg3 G2 b.w) b.h.toNat G else G
theorem Sep.step2 {P : Program} {k : FuncId} {args : Array Value} {v : Value} {w0 w : World} {F0 : Nat → Prop} {l : List Asn} {A A' B : Asn} (h : Sep w0 F0 w l) (i j : Nat) (hij : i ≠ j) (hk : ∀ F F2, A.P w F → B.P w F2 → (∀ b, F2 b → ¬ F b) → Calls P k args w fun e w' => e = .returned v ∧ A'.P w' (more F w w') ∧ Ch F w w') (hi : l[i]? = some A := by rfl) (hj : l[j]? = some B := by rfl) : Calls P k args w fun e w' => e = .returned v ∧ Sep w0 F0 w' (l.set i A') := by
 obtain ⟨F, h1, h2, h3⟩ := h.ex
 exact (hk (F i) (F j) (h1 i A hi) (h1 j B hj) (fun b hb hb' => h2 i j hij b hb' hb)).mono fun e w' ⟨he, hA, hc⟩ => ⟨he, h.upd hi F h1 h2 h3 hA hc⟩
theorem qeu {l m : List Cel} (hl : l.length = m.length) (h : ∀ i : Nat, i < l.length → gc l (i : Int) = gc m (i : Int)) : l = m :=
 List.ext_getElem hl fun i h1 h2 => by
  have := h i h1
  rwa [gc_at h1, gc_at h2] at this
theorem qd3 {l : List Cel} (h : qcd l = true) : qj l = l := by
 refine qeu (qm l) fun i hi => ?_
 rw [qm] at hi
 obtain ⟨h1, h2⟩ := wholeB_iff.1 h i hi
 rw [qd2 l hi]
 refine qb1 h1 fun hw => ?_
 by_cases e : (gc l (i : Int)).rune = 0
 ·rw [e, qic] at hw; cases hw
 ·exact (h2 e).2 hw
theorem gl_lay {G : Gr} (hok : G.ok) {x y : Int} (m : List Cel) (hy : 0 ≤ y) {k : Nat} (hk : k < G.h.toNat) : gl (qg2 G x y m) (k : Int) = if y = (k : Int) ∧ x < G.w then qj (qgu (gl G (k : Int)) x m) else gl G (k : Int) := by
 have hlen := hok.2.2.1
 unfold qg2
 by_cases e : y = (k : Int)
 ·subst e
  by_cases hx : x < G.w
  ·rw [if_pos ⟨by omega, hx⟩, if_pos ⟨rfl, hx⟩]
   unfold qda
   conv => lhs; unfold gl
   rw [Int.toNat_natCast, List.getD_eq_getElem?_getD, List.getElem?_set_self (by omega), Option.getD_some]
   show _ = qj (qgu (G.lines.getD ((k : Int)).toNat []) x m)
   rw [Int.toNat_natCast]
  ·rw [if_neg (fun h => hx h.2), if_neg (fun h => hx h.2)]
 ·rw [show (if y = (k : Int) ∧ x < G.w then qj (qgu (gl G (k : Int)) x m) else gl G (k : Int)) = gl G (k : Int) from if_neg (fun h => e h.1)]
  split
  ·unfold qda gl
   rw [Int.toNat_natCast, List.getD_eq_getElem?_getD, List.getElem?_set_ne (by omega), ← List.getD_eq_getElem?_getD]
  ·rfl
theorem layG_ok {G : Gr} (hok : G.ok) {x y : Int} (m : List Cel) (hx : 0 ≤ x) (hy : 0 ≤ y) : (qg2 G x y m).ok := by
 obtain ⟨h1, h2, h3, h4⟩ := hok
 unfold qg2
 split
 ·rename_i h
  unfold qda
  refine ⟨h1, h2, by rw [List.length_set]; exact h3, fun l hl => ?_⟩
  rcases List.mem_or_eq_of_mem_set hl with hl | rfl
  ·exact h4 l hl
  ·have hg : (gl G y).length = G.w.toNat := by
    have := qhg ⟨h1, h2, h3, h4⟩ (j := y.toNat) (by omega)
    rwa [show ((y.toNat : Nat) : Int) = y by omega] at this
   rw [qm, qdk m (by omega), hg]
 ·exact ⟨h1, h2, h3, h4⟩
theorem qjI (g : Nat) (G : Gr) (F : Nat → Prop) (X Y : Int) (hid : Bool) (x y : Int) (a : Option Addr) (n cap : Nat) (m : List Cel) (w : World) (hT : qI w) (hG0 : GridAt w g G F) (hr : Rd w a (flat m)) (hn : m.length = n) (hnb : n ≤ 1000) (hx : 0 ≤ x) (hy : 0 ≤ y) : Calls Tryz.prog 43 [.agg #[pX g, iX X, iX Y, .bool hid], iX x, iX y, .slice a n cap].toArray w fun e w' => e = .returned (.tuple #[]) ∧ GridAt w' g (qg2 G x y m) (more F w w') ∧ Ch F w w' := by
 obtain ⟨r, rc, A, hG⟩ := hG0; have hG0 : GridAt w g G F := ⟨r, rc, A, hG⟩
 obtain ⟨⟨ax, ay⟩, ⟨az, aA⟩, aB, aC⟩ := hG.ok; have aD := hG.len; have aE : Df r g := hG.gr; have aF := hG.hi _ hG.inF.1; have aG := hG.hi _ hG.inF.2.1; obtain ⟨q, hq⟩ := qcO hG y; refine yA Tryz.func43 rfl <| ysr <| yo (yN [pX g, iX X, iX Y, .bool hid] 30 fun aH f Z aI B s => ?_); have aJ : w.heap.size ≤ f := by rw [Z]; exact zzs (Ch.refl (fun j => j = q.b ∨ j = r) w)
 have a0 := zt (Ch.refl (fun j => j = q.b ∨ j = r) w) s eZ; have k := zu (zm w) s iZ; have C := hG.head.ch s id; have P := hG.body.ch s (fun b e => by cases e; exact id); have a1 := qe s hT id id; refine ye <| ysr <| yp 8 [] (.l (B.c 0) (.l (C.c 1) .z)) <| yw [15] (rL y G.h) (fun D => ?_) fun D => ?_
 ·have a2 := D; refine yp 16 [] (.l (B.c 0) (.l (C.c 0) .z)) <| ye <| yc (rL x G.w) (fun E => ?_) fun E => ?_
  ·have a3 := E; have o := hq ⟨by omega, by omega⟩; obtain ⟨a4, Q, t, a5⟩ := qbC hG o; have a6 : Df q.b g := (hG.gb q t).1; have a7 : Df q.b r := (hG.gb q t).2; have aK := hG.hi _ (hG.inF.2.2 q t); have R := (hG.line q t).1; have H := R.ch (Up.ch k) id; have a8 : Df q.b f := (show ¬ q.b = f by have := R.lt; omega)
   have aL : Df g f := (show ¬ g = f by have := hG.head.lt; omega)
   have aM : Df r f := (show ¬ r = f by have := hG.body.lt; omega)
   refine ysr <| yp 11 [] (.l (B.c 0) (.l (C.c 2) (.i y (A.length) (.l (qav P o) (.j x (q.n) .z))))) ?_; obtain ⟨aN, a9, aa⟩ := H.blk; have I : (m.take (q.l.length - x.toNat)).length = min n (q.n - x.toNat) := by rw [List.length_take, hn]; omega
   refine yo (qbB 6 q.b (if q.cap = x.toNat then 0 else 0 + x.toNat * 6) ((q.n - (x : Int).toNat)) ((q.cap - (x : Int).toNat)) a (n) (cap) (flat (m.take (q.l.length - x.toNat))) (some 35) (min n (q.n - x.toNat)) rfl (by kernel_rfl) aa (qgj (hr.ch (Up.ch k) iZ) _) (by rw [flat_len, I]) (qL _) (qdx H (by rw [I]; omega)) ?_); intro ab ac v; have ad : LineAt ab q.b (qgu q.l x m) q.cap := qdw H a9 (by rw [I]; omega) ac; have S := qdk (l := q.l) (x := x) m (by omega); have ae := zt a0 v (fun i hi (h : i = q.b) => .inl h); have af := C.ch v (fun h => a6 h.symm); have ag := P.ch v (fun b e => by cases e; exact (fun h => a7 h.symm)); have ah := qe v a1 (fun (h : qd9 = q.b) => by have := qaC hT; have := g_lt; omega) (fun (h : qbK = q.b) => by have := qaC hT; have := g_lt; omega); have ai := B.ch v (fun h => a8 h.symm); refine ye <| yDC [16] fun aO aP p => ?_; have T := zt ae p eZ; have J := af.ch p id; have K := ag.ch p (fun b e => by cases e; exact id); have aj := qe p ah id id; have L := ai.ch p id; have M := ad.ch p id; refine ydC (uL 0 14) [] (fun u hu => (.l (qv hu (L.c 0) id) (.l (qv hu (J.c 2) id) (.l (qv hu (L.c 0) id) (.l (qv hu (J.c 2) id) (.i y (A.length) (.l (qv hu (qav K o) id) .z))))))) <| yH 14 (yC (qc3 q.b q.n q.cap (qgu q.l x m) _ aj M.rd M.lt (by omega) (by omega)) ?_); rintro _ aQ ⟨d, N, rfl, ak, al, O⟩; refine ⟨_, rfl, ?_⟩; have am : w.heap.size ≤ d := Nat.le_trans (zzs T) al
   have aR : Df g d := (show ¬ g = d by have := J.lt; omega)
   have an : Df r d := (show ¬ r = d by have := K.lt; omega)
   have aS : Df f d := (show ¬ f = d by have := L.lt; omega)
   have aT : Df q.b d := (show ¬ q.b = d by have := M.lt; omega)
   have ao := zt T O eZ; have U := K.ch O (fun b e => by cases e; exact id); refine qad O <| ydC [15] [] (fun u hu => (.i y (A.length) .z)) ?_; obtain ⟨aU, ap, aq⟩ := U.2.2.2.2 _ rfl; refine yK 16 (qR (0 + (y : Int).toNat * 1) [Row.val (Row.mk d q.n N (qj (qgu q.l x m)))] none (by kernel_rfl) aq (qds (List.getElem?_eq_some_iff.1 o).1) ?_); intro aV ar V; have au := qdr (x := (Row.mk d q.n N (qj (qgu q.l x m)))) (List.getElem?_eq_some_iff.1 o).1 ap U ar; have W := zt ao V (fun i hi (h : i = r) => .inr h); have av := ak.ch V (fun h => an h.symm); refine qa <| yDe (qA ?_); have e : qg2 G x y m = ⟨G.w, G.h, G.lines.set y.toNat (qj (qgu q.l x m))⟩ := by
    unfold qg2 qda; rw [if_pos ⟨a2, a3⟩, ← a4]
   rw [e]; exact ⟨rfl, ⟨r, rc, _, GridIn.setLine (x' := (Row.mk d q.n N (qj (qgu q.l x m)))) hG o W au av (.inr am) (by simp only [qm, S, Q]) (by simp only [qm, S, Q, a5])⟩, (W).mono (fun i _ hi => hi.elim (fun e => e ▸ hG.inF.2.2 q t) (fun e => e ▸ hG.inF.2.1))⟩
  have aw := E; refine qf (qA ?_); rw [show qg2 G x y m = G from if_neg (fun h => by omega)]; exact ⟨rfl, hG0.same (Up.ch k), (Up.ch k).mono eZ⟩
 have aw := D; refine yz 16 <| ycf <| qf (qA ?_); rw [show qg2 G x y m = G from if_neg (fun h => by omega)]; exact ⟨rfl, hG0.same (Up.ch k), (Up.ch k).mono eZ⟩
theorem may_any (b : Bx) (w : World) : Calls Tryz.prog 42 [.agg #[iX b.x, iX b.y, iX b.w, iX b.h]].toArray w fun e w' => e = .returned (.bool (qcE b)) ∧ Ch (fun _ => False) w w' := by
 have h := Sep.nil w; refine yA Tryz.func42 rfl <| ysr <| yo (zN [iX b.x, iX b.y, iX b.w, iX b.h] 62 h fun u o h => ?_); refine yz 2 <| ys <| ysr <| yp 8 [] (.l (h.c 0 0) (.l (h.c 0 1) (.l (h.c 0 2) (.l (h.c 0 3) .z)))) <| yo (zB [iX b.x, iX b.y, iX b.w, iX b.h] 3 4 h fun u p h => ?_); refine yz 11 <| q9 <| yU 5 (yU1 ?_); refine yx 1 <| ys <| yct <| yk <| ys <| q9 <| ysr <| yp 3 [] (.i 0 (4) (.l (h.c 1 0) .z)) <| ye <| ysr <| yq 3 <| yw [21] (rL b.x 0) (fun a => ?_) fun a => ?_
 ·have q := a; refine yz 6 <| yct <| yx 1 <| q8 (rB (rS (qa0 (rB (rS (yR1 (.bool false) ?_)))))); refine ⟨zc ?_, h.ch⟩; unfold qcE; rw [Bool.eq_iff_iff]; simp only [decide_eq_true_eq, Bool.false_eq_true, true_iff, false_iff, iff_true, iff_false, not_and]; omega
 have r := a; refine yz 6 <| yc (rL 60 b.x) (fun d => ?_) fun d => ?_
 ·have s := d; refine yx 1 <| q8 (rB (rS (qa0 (rB (rS (yR1 (.bool false) ?_)))))); refine ⟨zc ?_, h.ch⟩; unfold qcE; rw [Bool.eq_iff_iff]; simp only [decide_eq_true_eq, Bool.false_eq_true, true_iff, false_iff, iff_true, iff_false, not_and]; omega
 have t := d; refine qf (nB (nS ?_)); refine q7 <| yp 2 [] (.q6 1 .z) <| yE (nU (yU1 ?_)); refine yx 1 <| ys <| yct <| yk <| ys <| q9 <| ysr <| yp 3 [] (.i 1 (4) (.l (h.c 1 1) .z)) <| ye <| ysr <| yq 3 <| yw [21] (rL b.y 0) (fun f => ?_) fun f => ?_
 ·have v := f; refine yz 6 <| yct <| yx 1 <| q8 (rB (rS (qa0 (rB (rS (yR1 (.bool false) ?_)))))); refine ⟨zc ?_, h.ch⟩; unfold qcE; rw [Bool.eq_iff_iff]; simp only [decide_eq_true_eq, Bool.false_eq_true, true_iff, false_iff, iff_true, iff_false, not_and]; omega
 have A := f; refine yz 6 <| yc (rL 60 b.y) (fun g => ?_) fun g => ?_
 ·have B := g; refine yx 1 <| q8 (rB (rS (qa0 (rB (rS (yR1 (.bool false) ?_)))))); refine ⟨zc ?_, h.ch⟩; unfold qcE; rw [Bool.eq_iff_iff]; simp only [decide_eq_true_eq, Bool.false_eq_true, true_iff, false_iff, iff_true, iff_false, not_and]; omega
 have C := g; refine qf (nB (nS ?_)); refine q7 <| yp 2 [] (.q6 2 .z) <| yE (nU (yU1 ?_)); refine yx 1 <| ys <| yct <| yk <| ys <| q9 <| ysr <| yp 3 [] (.i 2 (4) (.l (h.c 1 2) .z)) <| ye <| ysr <| yq 3 <| yw [21] (rL b.w 0) (fun j => ?_) fun j => ?_
 ·have D := j; refine yz 6 <| yct <| yx 1 <| q8 (rB (rS (qa0 (rB (rS (yR1 (.bool false) ?_)))))); refine ⟨zc ?_, h.ch⟩; unfold qcE; rw [Bool.eq_iff_iff]; simp only [decide_eq_true_eq, Bool.false_eq_true, true_iff, false_iff, iff_true, iff_false, not_and]; omega
 have E := j; refine yz 6 <| yc (rL 60 b.w) (fun k => ?_) fun k => ?_
 ·have F := k; refine yx 1 <| q8 (rB (rS (qa0 (rB (rS (yR1 (.bool false) ?_)))))); refine ⟨zc ?_, h.ch⟩; unfold qcE; rw [Bool.eq_iff_iff]; simp only [decide_eq_true_eq, Bool.false_eq_true, true_iff, false_iff, iff_true, iff_false, not_and]; omega
 have G := k; refine qf (nB (nS ?_)); refine q7 <| yp 2 [] (.q6 3 .z) <| yE (nU (yU1 ?_)); refine yx 1 <| ys <| yct <| yk <| ys <| q9 <| ysr <| yp 3 [] (.i 3 (4) (.l (h.c 1 3) .z)) <| ye <| ysr <| yq 3 <| yw [21] (rL b.h 0) (fun m => ?_) fun m => ?_
 ·have H := m; refine yz 6 <| yct <| yx 1 <| q8 (rB (rS (qa0 (rB (rS (yR1 (.bool false) ?_)))))); refine ⟨zc ?_, h.ch⟩; unfold qcE; rw [Bool.eq_iff_iff]; simp only [decide_eq_true_eq, Bool.false_eq_true, true_iff, false_iff, iff_true, iff_false, not_and]; omega
 have I := m; refine yz 6 <| yc (rL 60 b.h) (fun n => ?_) fun n => ?_
 ·have J := n; refine yx 1 <| q8 (rB (rS (qa0 (rB (rS (yR1 (.bool false) ?_)))))); refine ⟨zc ?_, h.ch⟩; unfold qcE; rw [Bool.eq_iff_iff]; simp only [decide_eq_true_eq, Bool.false_eq_true, true_iff, false_iff, iff_true, iff_false, not_and]; omega
 have K := n; refine qf (nB (nS ?_)); refine q7 <| yp 2 [] (.q6 4 .z) <| yE (nU (yU1 ?_)); refine yx 1 <| ys <| ycf <| qp (eS (qd (qb (nS ?_)))); refine yx 1 <| q8 (yR1 (.bool true) ?_); refine ⟨zc ?_, h.ch⟩; unfold qcE; rw [Bool.eq_iff_iff]; simp only [decide_eq_true_eq, Bool.false_eq_true, true_iff, false_iff, iff_true, iff_false, not_and]; omega
theorem qhh (b : Bx) (w : World) : Calls Tryz.prog 21 [.agg #[iX b.x, iX b.y, iX b.w, iX b.h]].toArray w fun e w' => e = .returned (.bool (qcE b)) ∧ Ch (fun _ => False) w w' := by
 have h := Sep.nil w; refine yA Tryz.func21 rfl <| ysr <| yo (zN [iX b.x, iX b.y, iX b.w, iX b.h] 62 h fun u m h => ?_); refine yz 2 <| ysr <| yp 4 [] (.l (h.c 0 0) .z) <| yw [6] (rM 0 b.x) (fun a => ?_) fun a => ?_
 ·have n := a; refine yp 9 [] (.l (h.c 0 0) .z) <| yw [11] (rM b.x 60) (fun d => ?_) fun d => ?_
  ·have o := d; refine yp 14 [] (.l (h.c 0 1) .z) <| yw [16] (rM 0 b.y) (fun f => ?_) fun f => ?_
   ·have p := f; refine yp 19 [] (.l (h.c 0 1) .z) <| yw [21] (rM b.y 60) (fun g => ?_) fun g => ?_
    ·have q := g; refine yp 24 [] (.l (h.c 0 2) .z) <| yw [26] (rM 0 b.w) (fun i => ?_) fun i => ?_
     ·have r := i; refine yp 29 [] (.l (h.c 0 2) .z) <| yw [31] (rM b.w 60) (fun j => ?_) fun j => ?_
      ·have s := j; refine yp 34 [] (.l (h.c 0 3) .z) <| yw [36] (rM 0 b.h) (fun k => ?_) fun k => ?_
       ·have t := k; refine yp 39 [] (.l (h.c 0 3) .z) <| ye <| q8 (yR1 (.bool (decide (b.h ≤ 60))) ?_); refine ⟨zc ?_, h.ch⟩; unfold qcE; rw [Bool.eq_iff_iff]; simp only [decide_eq_true_eq, Bool.false_eq_true, true_iff, false_iff, iff_true, iff_false, not_and]; omega
       have v := k; refine yz 39 <| q8 (yR1 (.bool false) ?_); refine ⟨zc ?_, h.ch⟩; unfold qcE; rw [Bool.eq_iff_iff]; simp only [decide_eq_true_eq, Bool.false_eq_true, true_iff, false_iff, iff_true, iff_false, not_and]; omega
      have A := j; refine yz 39 <| q8 (yR1 (.bool false) ?_); refine ⟨zc ?_, h.ch⟩; unfold qcE; rw [Bool.eq_iff_iff]; simp only [decide_eq_true_eq, Bool.false_eq_true, true_iff, false_iff, iff_true, iff_false, not_and]; omega
     have B := i; refine yz 39 <| q8 (yR1 (.bool false) ?_); refine ⟨zc ?_, h.ch⟩; unfold qcE; rw [Bool.eq_iff_iff]; simp only [decide_eq_true_eq, Bool.false_eq_true, true_iff, false_iff, iff_true, iff_false, not_and]; omega
    have C := g; refine yz 39 <| q8 (yR1 (.bool false) ?_); refine ⟨zc ?_, h.ch⟩; unfold qcE; rw [Bool.eq_iff_iff]; simp only [decide_eq_true_eq, Bool.false_eq_true, true_iff, false_iff, iff_true, iff_false, not_and]; omega
   have D := f; refine yz 39 <| q8 (yR1 (.bool false) ?_); refine ⟨zc ?_, h.ch⟩; unfold qcE; rw [Bool.eq_iff_iff]; simp only [decide_eq_true_eq, Bool.false_eq_true, true_iff, false_iff, iff_true, iff_false, not_and]; omega
  have E := d; refine yz 39 <| q8 (yR1 (.bool false) ?_); refine ⟨zc ?_, h.ch⟩; unfold qcE; rw [Bool.eq_iff_iff]; simp only [decide_eq_true_eq, Bool.false_eq_true, true_iff, false_iff, iff_true, iff_false, not_and]; omega
 have F := a; refine yz 39 <| q8 (yR1 (.bool false) ?_); refine ⟨zc ?_, h.ch⟩; unfold qcE; rw [Bool.eq_iff_iff]; simp only [decide_eq_true_eq, Bool.false_eq_true, true_iff, false_iff, iff_true, iff_false, not_and]; omega
theorem qcH {p : Nat} {G : Gr} {F : Nat → Prop} (w : World) (hG0 : GridAt w p G F) : Calls Tryz.prog 19 [pX p].toArray w fun e w' =>
 ∃ g F', e = .returned (pX g) ∧ GridAt w' g G F' ∧ (∀ b, F' b → w.heap.size ≤ b) ∧ Ch (fun _ => False) w w' := by
 obtain ⟨r, rc, rows, hG⟩ := hG0; have h7 := gtop_le ⟨r, rc, rows, hG⟩; have aK := hG.len; have aL := hG.ok.2.1; have aM := hG.ok.1; refine yA Tryz.func19 rfl <| yx 1 <| ys <| yD [9] fun aN aO a8 => ?_; have D := zu (zm w) a8 iZ; refine yd (uL 0 9) [] (.l (qv (Up.ch D) (hG.head.c 0) id) (.l (qv (Up.ch D) (hG.head.c 1) id) .z)) <| yK 9 (yN [iX G.w, iX G.h, nX] 48 fun s d a9 aP M aa => ?_); have aQ := zn a9 D; have E := zu D aa iZ; refine qa <| yd [10] [] .z <| yDe (nS ?_); refine ys <| ysr <| yp 6 [] (.l (qv (Up.ch E) (hG.head.c 2) id) .z) <| ye <| q9 <| qP [3, 19, 20, 21] (f' := [(3, pX d), (19, .slice (some ⟨r, 0, none⟩) rows.length rc), (20, iX ((rows.length : Nat) : Int)), (21, iX 0)]) <| qz (σ := Nat × Option Nat × Nat) (fun ⟨k, o, oc⟩ => [(3, pX d), (19, .slice (some ⟨r, 0, none⟩) rows.length rc), (20, iX ((rows.length : Nat) : Int)), (21, iX ((k : Nat) : Int))]) (fun ⟨k, o, oc⟩ u => k ≤ rows.length ∧ Ch (· = d) s u ∧ ∃ t, Blk u d [iX G.w, iX G.h, .slice (o.map at0) k oc] qe0 ∧ NewRows s u o k oc t G.w ∧ t.map Row.l = (rows.map Row.l).take k) (fun ⟨k, o, oc⟩ => rows.length - k) (0, none, 0) rfl ?_ ?_
 ·exact ⟨Nat.zero_le _, Ch.refl _ _, [], M, NewRows.nil _, rfl⟩
 intro p A ab aR ac; obtain ⟨k, o, oc⟩ := p; obtain ⟨hk, H, t, hB, hN, T⟩ := ab; have U := zu E H (fun i hi (h : i = d) => by omega); have aS : w.heap.size ≤ s.heap.size := zzs E; have ad : s.heap.size ≤ A.heap.size := zzs H; have ae : d < s.heap.size := M.lt; refine yx 1 <| ys <| yc (rL ((k : Nat) : Int) ((rows.length : Nat) : Int)) (fun af => ?_) fun af => ?_
 ·obtain ⟨q, hq, I⟩ := qeU (rows := rows) (k := k) (by omega); have V := (hG.line q I).2; have ag := hG.ok.2.2.2 _ (hG.lines ▸ List.mem_map_of_mem I); refine yk <| ys <| q9 <| ysr <| yp 3 [] (.i ((k : Nat) : Int) (rows.length) (.l (qdO (Ch.rd (Up.ch U) hG.body.rd id) hq) .z)) <| ye <| yDC [8, 11] fun aT aU B => ?_; have N := zu U B iZ; have W := zt H B eZ; have X := zt (Ch.refl (fun j => j = d ∨ o = some j) A) B eZ; have O := hB.ch B id; have ah := hN.out.own.ch B iZ; refine ydC (uL 0 6) [] (fun u hu => (.l (qv hu (O.c 2) id) .z)) <| yH 6 (yC (qdt q.b q.n q.cap q.l _ ((hG.line q I).1.ch (Up.ch N) id).rd (Nat.lt_of_lt_of_le (hG.line q I).1.lt (zzs N)) V (by omega)) ?_); rintro _ aV ⟨m, C, rfl, ai, Y, v⟩; refine ⟨_, rfl, ?_⟩; have aj : A.heap.size ≤ m := Nat.le_trans (zzs X) Y; have aW : s.heap.size ≤ m := Nat.le_trans (zzs W) Y; have ak : Df d m := (show ¬ d = m by have := O.lt; omega)
  have al := zu N v iZ; have Z := zt W v eZ; have a0 := zt X v eZ; have am := O.ch v id; have an := ah.ch v iZ; refine qad v <| yH 7 (yB [.slice (some ⟨m, 0, none⟩) q.n C] 49 1 fun aX P Q aY ao y => ?_); have aZ := zn Q al; have b0 : s.heap.size ≤ P := by rw [Q]; exact zzs Z
  have b1 : A.heap.size ≤ P := by rw [Q]; exact zzs a0
  have ap := zt Z y eZ; have a1 := zt a0 y eZ; have a2 := am.ch y id; have a3 := an.ch y iZ; have R := ai.ch y id; refine qad y ?_; refine yK 8 (qaB 49 1 24 o k oc (t.map Row.val) (some ⟨P, 0, none⟩) 1 1 [Row.val (Row.mk m q.n C q.l)] (some 33) (k + 1) rfl ((t ++ [(Row.mk m q.n C q.l)]).map Row.val) (by rw [List.map_append]; rfl) (by kernel_rfl) a3 (Rd.all ao) rfl rfl (fun h => by cases h) (by constructor <;> first | omega | (simp only [maxLen]; omega)) ?_); intro b2 aq a4 ar S au J; obtain ⟨K, rfl⟩ : ∃ b, aq = some b := au (by omega); have a5 : ¬ o = some d := fun e => by have := hN.lo _ e; have := M.lt; omega
  have a6 : ¬ o = some m := qb5 a3 R; have av : Df d K := qbp S (fun e => a5 e) a2.lt; have b3 : Df m K := qbp S (fun e => a6 e) R.lt; have aw := zt ap J (fun i hi h => by have := hN.lo _ h; omega); have ax := zt a1 J (fun _ _ h => .inr h); have ay := a2.ch J a5; have az := R.ch J a6; refine qa <| yd [9, 10] [] .z <| yK 11 (yT [iX G.w, iX G.h, .slice (some ⟨K, 0, none⟩) (k + 1) a4] ay fun b4 aA L => ?_); have aB := zt aw L iZ; have aC := zt ax L (fun i _ (h : i = d) => .inl h); have aD := az.ch L (fun h => ak h.symm); have aE := ar.ch L (fun b e => by cases e; exact (fun h => av h.symm)); refine qa <| yDe (nB (nS ?_)); refine q7 <| yp 2 [] (.q6 (((k : Nat) : Int) + 1) .z) ?_; have aF := qfn (x := (Row.mk m q.n C q.l)) hN (by omega) ad aC (fun b h => h.imp (fun e => by omega) id) aD aj ag V aE (S.imp id fun ⟨b, e, h⟩ => ⟨b, e, Nat.le_trans (zzs a1) h⟩); have aG : (t ++ [(Row.mk m q.n C q.l)]).map Row.l = (rows.map Row.l).take (k + 1) := by rw [List.map_append, T, qi2 hq]; rfl
  refine yE (fun a ha => ac (k + 1, some K, a4) _ ⟨by omega, aB, _, aA, aF, aG⟩ (by show rows.length - (k + 1) < rows.length - k; omega) a (ha.kp [3, 19, 20, 21]))
 have aH : k = rows.length := by omega
 obtain ⟨r', rfl⟩ := hN.some (by omega); refine qp (eS (qd (qb (nS ?_)))); refine yx 2 <| q8 (yR1 (pX d) ?_); have a7 := hN.grid (F := fun b => w.heap.size ≤ b ∧ b < A.heap.size) hB ae hG.ok.1 hG.ok.2.1 (by omega) ⟨by omega, by omega⟩ (fun b h => ⟨by omega, h.2⟩) (fun b h => ⟨h.2, by omega⟩); have aI : (rows.map Row.l).take k = G.lines := by rw [aH, ← List.length_map (f := Row.l), List.take_length, hG.lines]
 rw [T, aI] at a7; exact ⟨d, _, rfl, ⟨r', oc, t, a7⟩, (fun _ h => h.1), zt (Up.ch E) H (fun i hi (h : i = d) => by omega)⟩
def qbh (l : List Cel) (i : Nat) : List Cel := (qj l).take i ++ l.drop i
theorem qhi (l : List Cel) {i : Nat} (h : i ≤ l.length) : (qbh l i).length = l.length := by
 unfold qbh
 rw [List.length_append, List.length_take, List.length_drop, qm]; omega
theorem qjJ (l : List Cel) : qbh l 0 = l := by simp [qbh]
theorem mixL_all (l : List Cel) : qbh l l.length = qj l := by
 unfold qbh
 rw [List.take_of_length_le (by rw [qm]; exact Nat.le_refl _), List.drop_eq_nil_of_le (Nat.le_refl _), List.append_nil]
theorem qdl {l : List Cel} {i j : Nat} (hi : i ≤ j) : (qbh l i)[j]? = l[j]? := by
 unfold qbh
 by_cases h : i ≤ l.length
 ·have hl : ((qj l).take i).length = i := by rw [List.length_take, qm]; omega
  rw [List.getElem?_append_right (by omega), hl, List.getElem?_drop]
  congr 1; omega
 ·rw [List.getElem?_eq_none (by rw [List.length_append, List.length_take, List.length_drop, qm]; omega), List.getElem?_eq_none (by omega)]
theorem qjK {l : List Cel} {i j : Nat} (hi : i ≤ j) : gc (qbh l i) (j : Int) = gc l (j : Int) := by
 unfold gc
 rw [List.getD_eq_getElem?_getD, List.getD_eq_getElem?_getD, Int.toNat_natCast, qdl hi]
theorem qhj {l : List Cel} {i : Nat} (h : i < l.length) : qbh l (i + 1) = (qbh l i).set i (qbl l (i : Int)) := by
 have hm : (qj l)[i]? = some (qbl l (i : Int)) := by
  rw [← qd2 l h, qaW (by rw [qm]; exact h)]
  exact List.getElem?_eq_getElem _
 apply List.ext_getElem?
 intro j
 have hl : (qbh l i).length = l.length := qhi l (by omega)
 by_cases e : i = j
 ·subst e
  rw [List.getElem?_set_self (by omega)]
  unfold qbh
  rw [List.getElem?_append_left (by rw [List.length_take, qm]; omega), List.getElem?_take, if_pos (by omega), hm]
 ·rw [List.getElem?_set_ne e]
  by_cases hj : j < i
  ·unfold qbh
   rw [List.getElem?_append_left (by rw [List.length_take, qm]; omega), List.getElem?_append_left (by rw [List.length_take, qm]; omega), List.getElem?_take, List.getElem?_take, if_pos (by omega), if_pos hj]
  ·rw [qdl (show i ≤ j by omega), qdl (show i + 1 ≤ j by omega)]
theorem qgy {l : List Cel} {k : Nat} {c : Cel} (h : l[k]? = some c) : l.set k c = l := by
 apply List.ext_getElem?
 intro i
 by_cases e : k = i
 ·subst e
  rw [List.getElem?_set_self (List.getElem?_eq_some_iff.1 h).1, h]
 ·rw [List.getElem?_set_ne e]
theorem qdU {l : List Cel} {i : Nat} (h : i < l.length) (hk : qbl l (i : Int) = gc l (i : Int)) : qbh l (i + 1) = qbh l i := by
 rw [qhj h, hk]
 refine qgy ?_
 rw [qdl (Nat.le_refl _), qaW h]
 exact List.getElem?_eq_getElem h
theorem qjL {l : List Cel} {i : Nat} (h : qq l (i : Int) = true) : qbh l (i + 2) = qbh l i ∧ i + 2 ≤ l.length ∧ qq l ((i : Int) + 1) = false := by
 obtain ⟨h0, h1, h2, h3⟩ := pairedB_iff.1 h
 have e : ((i : Nat) : Int) + 1 = ((i + 1 : Nat) : Int) := by omega
 have hn : qq l ((i : Int) + 1) = false := by
  cases hb : qq l ((i : Int) + 1) with
  | false => rfl
  | true =>
   obtain ⟨_, _, h4, _⟩ := pairedB_iff.1 hb
   rw [h3] at h4
   have h4 : qS 0 = true := h4
   rw [qic] at h4; cases h4
 have k1 : qbl l (i : Int) = gc l (i : Int) := qb1 (fun h => by rw [h, qic] at h2; cases h2) (fun _ => h)
 have k2 : qbl l ((i + 1 : Nat) : Int) = gc l ((i + 1 : Nat) : Int) := by
  rw [← e]
  refine qb1 (fun _ => ?_) (fun hw => ?_)
  ·rw [show ((i : Nat) : Int) + 1 - 1 = (i : Int) by omega]; exact h
  ·rw [h3] at hw
   have hw : qS 0 = true := hw
   rw [qic] at hw; cases hw
 refine ⟨?_, by omega, hn⟩
 rw [show i + 2 = (i + 1) + 1 from rfl, qdU (by omega) k2, qdU (by omega) k1]
theorem qcI {l : List Cel} {i : Nat} (hi : i < l.length) (hp : qq l ((i : Int) - 1) = false) (hn : qq l (i : Int) = false) (h : qS (gc l (i : Int)).rune = true ∨ (gc l (i : Int)).rune = 0) : qbh l (i + 1) = (qbh l i).set i ⟨32, (gc l (i : Int)).sty⟩ := by
 rw [qhj hi]
 congr 1
 unfold qbl
 rw [if_pos]
 rcases h with h | h
 ·simp [h, hn]
 ·simp [h, hp]
theorem qie {l : List Cel} {i : Nat} (hi : i < l.length) (h : ¬ qS (gc l (i : Int)).rune = true) (h0 : (gc l (i : Int)).rune ≠ 0) : qbh l (i + 1) = qbh l i :=
 qdU hi (qb1 (fun e => absurd e h0) (fun e => absurd e h))
theorem qfS {l : List Cel} {i : Int} (h : ¬ qS (gc l i).rune = true) : qq l i = false := by
 cases hb : qq l i with
 | false => rfl
 | true => exact absurd (pairedB_iff.1 hb).2.2.1 h
theorem qfT (l : List Cel) : qq l (-1) = false := by
 cases hb : qq l (-1) with
 | false => rfl
 | true => have := (pairedB_iff.1 hb).1; omega
theorem cel_of {c d : Cel} (h0 : c.rune = 0) (h : c.sty.bold = d.sty.bold ∧ c.sty.under = d.sty.under ∧ c.sty.turned = d.sty.turned ∧ c.sty.fore = d.sty.fore ∧ c.sty.back = d.sty.back) : c = ⟨0, d.sty⟩ := by
 obtain ⟨r, a, b, e, f, g⟩ := c; obtain ⟨r', u1, u2, u3, u4, u5⟩ := d; dsimp only at *; obtain ⟨rfl, rfl, rfl, rfl, rfl⟩ := h; rw [h0]
theorem qbz (b n cap : Nat) (l : List Cel) (w : World) (hr : Rd w (some ⟨b, 0, none⟩) (flat l)) (hb : b < w.heap.size) (hn : l.length = n) (hnb : 1 ≤ n ∧ n ≤ 1000000) : Calls Tryz.prog 23 [.slice (some ⟨b, 0, none⟩) n cap].toArray w fun e w' =>
 ∃ g cap', e = .returned (.slice (some ⟨g, 0, none⟩) n cap') ∧ LineAt w' g (qj l) cap' ∧ w.heap.size ≤ g ∧ Ch (fun _ => False) w w' := by
 refine yA Tryz.func23 rfl <| yx 1 <| ysr <| yq 1 ?_; refine yo (qaB 66 6 32 none 0 0 [] (some ⟨b, 0, none⟩) n cap (flat l) (some 7) n (Nat.zero_add _) (flat l) rfl (by kernel_rfl) (Own.nil _ _ _) hr (by rw [flat_len, hn]) (by first | rfl | exact qL _) (fun h => by cases h) (by constructor <;> (first | omega | (simp only [maxLen]; omega))) ?_); intro S X t Y T Z B; obtain ⟨j, rfl⟩ : ∃ g, X = some g := Z (by omega); have ax : Df b j := qbp T (fun h => by cases h) (Nat.lt_of_lt_of_le hb (zzs (zm w))); replace B := qdn B; have a0 := zu (zm w) B iZ; have a1 : LineAt S j l t := by unfold LineAt; rw [hn]; exact Y
 have a2 : w.heap.size ≤ j := by rcases T with h | ⟨g', h, h'⟩ <;> cases h; exact Nat.le_trans (zzs (zm w)) h'
 refine yz 3 <| ys <| yx 1 <| q9 <| qP [3, 4] (f' := [(3, .slice (some ⟨j, 0, none⟩) n t), (4, iX 0)]) <| qz (σ := Nat) (fun k => [(3, .slice (some ⟨j, 0, none⟩) n t), (4, iX ((k : Nat) : Int))]) (fun k u => k ≤ n ∧ qq l (((k : Nat) : Int) - 1) = false ∧ LineAt u j (qbh l k) t ∧ Ch (· = j) S u) (fun k => n - k) 0 rfl ?_ ?_
 ·exact ⟨Nat.zero_le _, qfT l, by rw [qjJ]; exact a1, Ch.refl _ _⟩
 intro k ay a3 az q; obtain ⟨hk, x, C, U⟩ := a3; have o : (qbh l k).length = n := by rw [qhi l (by omega)]; exact hn
 have a4 := zu a0 U (fun i hi (h : i = j) => by omega); refine ys <| yx 4 <| yc (rL ((k : Nat) : Int) ((n : Nat) : Int)) (fun D => ?_) fun D => ?_
 ·have aA := D; have f : gc (qbh l k) ((k : Nat) : Int) = gc l ((k : Nat) : Int) := qjK (Nat.le_refl _); have p : gc (qbh l k) (((k : Nat) : Int) + 1) = gc l (((k : Nat) : Int) + 1) := by rw [show (((k : Nat) : Int) + 1) = ((k + 1 : Nat) : Int) by omega]; exact qjK (by omega)
  refine yk <| ys <| q9 <| ysr <| yp 5 [] (.i ((k : Nat) : Int) (n) (.l (qbJ (i := ((k : Nat) : Int)) C.rd (by omega) (by omega)) .z)) <| yo (yQ (qfN ((gc (qbh l k) ((k : Nat) : Int)).rune) _) fun aB V => ?_); have a5 := zt U V eZ; have a6 := C.ch V id; refine yz 7 <| ys <| ys <| yD [] fun aC aD W => ?_; have r := zt a5 W eZ; have c := a6.ch W id; refine yd [0, 1] [] .z <| yv [5, 21] (rY (qS (gc (qbh l k) ((k : Nat) : Int)).rune)) (fun E => ?_) fun E => ?_
  ·have s := E
   try rw [f] at s
   try rw [p] at s
   refine yd (uL 2 7) [] (.q6 (((k : Nat) : Int) + 1) .z) <| yv [28] (rL (((k : Nat) : Int) + 1) ((n : Nat) : Int)) (fun F => ?_) fun F => ?_
   ·have aE := F; refine yd (uL 9 9) [] (.q6 (((k : Nat) : Int) + 1) (.i (((k : Nat) : Int) + 1) (n) (.l (qbJ (i := (((k : Nat) : Int) + 1)) c.rd (by omega) (by omega)) .z))) <| yv [37] (rE (gc (qbh l k) (((k : Nat) : Int) + 1)).rune 0) (fun G => ?_) fun G => ?_
    ·have H := G
     try rw [f] at H
     try rw [p] at H
     refine yd (uL 18 13) [] (.q6 (((k : Nat) : Int) + 1) (.i (((k : Nat) : Int) + 1) (n) (.m (qbS (i := (((k : Nat) : Int) + 1)) c.rd (by omega) (by omega)) (.m (qb4 (i := (((k : Nat) : Int) + 1)) c.rd (by omega) (by omega)) (.m (qat (i := (((k : Nat) : Int) + 1)) c.rd (by omega) (by omega)) (.m (qbT (i := (((k : Nat) : Int) + 1)) c.rd (by omega) (by omega)) (.m (qbU (i := (((k : Nat) : Int) + 1)) c.rd (by omega) (by omega)) (.e (.i ((k : Nat) : Int) (n) (.m (qbS (i := ((k : Nat) : Int)) c.rd (by omega) (by omega)) (.m (qb4 (i := ((k : Nat) : Int)) c.rd (by omega) (by omega)) (.m (qat (i := ((k : Nat) : Int)) c.rd (by omega) (by omega)) (.m (qbT (i := ((k : Nat) : Int)) c.rd (by omega) (by omega)) (.m (qbU (i := ((k : Nat) : Int)) c.rd (by omega) (by omega)) (.e .z))))))))))))))) <| yDe (nS ?_); refine yc (rY (((gc (qbh l k) (((k : Nat) : Int) + 1)).sty.bold == (gc (qbh l k) ((k : Nat) : Int)).sty.bold) && (((gc (qbh l k) (((k : Nat) : Int) + 1)).sty.under == (gc (qbh l k) ((k : Nat) : Int)).sty.under) && (((gc (qbh l k) (((k : Nat) : Int) + 1)).sty.turned == (gc (qbh l k) ((k : Nat) : Int)).sty.turned) && ((((gc (qbh l k) (((k : Nat) : Int) + 1)).sty.fore : Int) == (gc (qbh l k) ((k : Nat) : Int)).sty.fore) && ((((gc (qbh l k) (((k : Nat) : Int) + 1)).sty.back : Int) == (gc (qbh l k) ((k : Nat) : Int)).sty.back) && true)))))) (fun I => ?_) fun I => ?_
     ·have J := I
      try rw [f] at J
      try rw [p] at J
      refine ysr <| yp 3 [] (.q6 (((k : Nat) : Int) + 1) .z) <| ye <| qp (eS (qb (nS ?_))); refine q7 <| yp 3 [] (.q6 ((((k : Nat) : Int) + 1) + 1) .z) ?_; have a7 : qq l ((k : Nat) : Int) = true := pairedB_iff.2 ⟨by omega, by omega, s, cel_of H (by have h := J; simp only [Bool.and_eq_true, beq_iff_eq, and_true] at h; exact h)⟩; obtain ⟨e1, e2, e3⟩ := qjL a7; refine yE (fun a ha => q (k + 2) _ ⟨by omega, by rw [show (((k + 2 : Nat) : Int) - 1) = ((k : Nat) : Int) + 1 by omega]; exact e3, by rw [e1]; exact c, r⟩ (by show n - (k + 2) < n - k; omega) a (ha.kp [3, 4]))
     have y := I
     try rw [f] at y
     try rw [p] at y
     refine yk <| yx 9 <| yct <| q7 <| yp 4 [] (.i ((k : Nat) : Int) (n) .z) ?_; obtain ⟨aa, ab, K⟩ := c.blk; refine yo (qR (0 + (((k : Nat) : Int) : Int).toNat * 6) [rX 32] none (by kernel_rfl) K (qaH (qbh l k) aa ((k : Nat) : Int) (by omega) (by first | omega | (simp only [o]; omega)) (qaM rfl)) ?_); intro aG K ac; have ad := qdq c ab (by omega) (by first | omega | (simp only [o]; omega)) 32 K; have ae := zt r ac iZ; refine yE (nB (nS ?_)); refine q7 <| yp 3 [] (.q6 (((k : Nat) : Int) + 1) .z) ?_; have d : qq l ((k : Nat) : Int) = false := Bool.eq_false_iff.2 fun hb => by have L := (pairedB_iff.1 hb).2.2.2; rw [L] at y; simp at y
     refine yE (fun a ha => q (k + 1) _ ⟨by omega, by rw [show (((k + 1 : Nat) : Int) - 1) = ((k : Nat) : Int) by omega]; exact d, by rw [qcI (by omega) x d (.inl s)]; have h := ad; rw [f] at h; exact h, ae⟩ (by show n - (k + 1) < n - k; omega) a (ha.kp [3, 4]))
    have A := G
    try rw [f] at A
    try rw [p] at A
    refine yd (uL 18 13) [] .z <| yDe (nS ?_); refine ycf <| yk <| yx 9 <| yct <| q7 <| yp 4 [] (.i ((k : Nat) : Int) (n) .z) ?_; obtain ⟨af, ag, M⟩ := c.blk; refine yo (qR (0 + (((k : Nat) : Int) : Int).toNat * 6) [rX 32] none (by kernel_rfl) M (qaH (qbh l k) af ((k : Nat) : Int) (by omega) (by first | omega | (simp only [o]; omega)) (qaM rfl)) ?_); intro aH M ah; have ai := qdq c ag (by omega) (by first | omega | (simp only [o]; omega)) 32 M; have aj := zt r ah iZ; refine yE (nB (nS ?_)); refine q7 <| yp 3 [] (.q6 (((k : Nat) : Int) + 1) .z) ?_; have d : qq l ((k : Nat) : Int) = false := Bool.eq_false_iff.2 fun hb => by have L := (pairedB_iff.1 hb).2.2.2; rw [L] at A; exact absurd rfl A
    refine yE (fun a ha => q (k + 1) _ ⟨by omega, by rw [show (((k + 1 : Nat) : Int) - 1) = ((k : Nat) : Int) by omega]; exact d, by rw [qcI (by omega) x d (.inl s)]; have h := ai; rw [f] at h; exact h, aj⟩ (by show n - (k + 1) < n - k; omega) a (ha.kp [3, 4]))
   have aI := F; refine yd (uL 9 22) [] .z <| yDe (nS ?_); refine ycf <| yk <| yx 9 <| yct <| q7 <| yp 4 [] (.i ((k : Nat) : Int) (n) .z) ?_; obtain ⟨ak, al, N⟩ := c.blk; refine yo (qR (0 + (((k : Nat) : Int) : Int).toNat * 6) [rX 32] none (by kernel_rfl) N (qaH (qbh l k) ak ((k : Nat) : Int) (by omega) (by first | omega | (simp only [o]; omega)) (qaM rfl)) ?_); intro aJ N am; have an := qdq c al (by omega) (by first | omega | (simp only [o]; omega)) 32 N; have ao := zt r am iZ; refine yE (nB (nS ?_)); refine q7 <| yp 3 [] (.q6 (((k : Nat) : Int) + 1) .z) ?_; have d : qq l ((k : Nat) : Int) = false := Bool.eq_false_iff.2 fun hb => by have h1 := (pairedB_iff.1 hb).2.1; omega
   refine yE (fun a ha => q (k + 1) _ ⟨by omega, by rw [show (((k + 1 : Nat) : Int) - 1) = ((k : Nat) : Int) by omega]; exact d, by rw [qcI (by omega) x d (.inl s)]; have h := an; rw [f] at h; exact h, ao⟩ (by show n - (k + 1) < n - k; omega) a (ha.kp [3, 4]))
  have v := E
  try rw [f] at v
  try rw [p] at v
  refine yd (uL 2 29) [] .z <| yDe (nS ?_); refine ycf <| yk <| ysr <| yp 9 [] (.i ((k : Nat) : Int) (n) (.l (qbJ (i := ((k : Nat) : Int)) c.rd (by omega) (by omega)) .z)) <| ye <| yc (rE (gc (qbh l k) ((k : Nat) : Int)).rune 0) (fun O => ?_) fun O => ?_
  ·have P := O
   try rw [f] at P
   try rw [p] at P
   refine q7 <| yp 4 [] (.i ((k : Nat) : Int) (n) .z) ?_; obtain ⟨ap, aq, Q⟩ := c.blk; refine yo (qR (0 + (((k : Nat) : Int) : Int).toNat * 6) [rX 32] none (by kernel_rfl) Q (qaH (qbh l k) ap ((k : Nat) : Int) (by omega) (by first | omega | (simp only [o]; omega)) (qaM rfl)) ?_); intro aL Q ar; have au := qdq c aq (by omega) (by first | omega | (simp only [o]; omega)) 32 Q; have av := zt r ar iZ; refine yE (nB (nS ?_)); refine q7 <| yp 3 [] (.q6 (((k : Nat) : Int) + 1) .z) ?_; have d : qq l ((k : Nat) : Int) = false := qfS (by rw [v]; decide); refine yE (fun a ha => q (k + 1) _ ⟨by omega, by rw [show (((k + 1 : Nat) : Int) - 1) = ((k : Nat) : Int) by omega]; exact d, by rw [qcI (by omega) x d (.inr P)]; have h := au; rw [f] at h; exact h, av⟩ (by show n - (k + 1) < n - k; omega) a (ha.kp [3, 4]))
  have R := O
  try rw [f] at R
  try rw [p] at R
  refine qf (nB (nS ?_)); refine q7 <| yp 3 [] (.q6 (((k : Nat) : Int) + 1) .z) ?_; have d : qq l ((k : Nat) : Int) = false := qfS (by rw [v]; decide); refine yE (fun a ha => q (k + 1) _ ⟨by omega, by rw [show (((k + 1 : Nat) : Int) - 1) = ((k : Nat) : Int) by omega]; exact d, by rw [qie (by omega) (by rw [v]; decide) R]; exact c, r⟩ (by show n - (k + 1) < n - k; omega) a (ha.kp [3, 4]))
 have aM := D; have aw : k = l.length := by omega
 refine qp (eS (qd (qb (nS ?_)))); refine yx 2 <| q8 (yR1 (.slice (some ⟨j, 0, none⟩) n t) ?_); exact ⟨_, _, rfl, by have h := C; rwa [aw, mixL_all] at h, a2, Up.ch a4⟩
end Go.Proofs.YtjklgjjgndalcaaGreatDoor.X

namespace Go.Proofs.YtjklgjjgndalcaaGreatDoor.X
open Go Go.RowKit Go.Proofs.YtjklgjjgndalcaaGreatDoor
theorem Sep.pick {w0 w : World} {F0 : Nat → Prop} {l : List Asn} (h : Sep w0 F0 w l) (is : List Nat) (hn : is.Nodup := by decide) : Sep w0 F0 w (is.map fun i => l.getD i nilA) := by
 obtain ⟨F, h1, h2, h3⟩ := h.ex
 refine ⟨h.ch, fun j b => ∃ i, is[j]? = some i ∧ F i b, fun j A e => ?_, fun j k hjk b hb hb' => ?_, fun j b hb => ?_⟩
 ·rw [List.getElem?_map] at e
  cases hi : is[j]? with
  | none => rw [hi] at e; cases e
  | some i =>
   rw [hi] at e
   obtain rfl := Option.some.inj e
   have hA : (l.getD i nilA).P w (F i) := by
    rw [List.getD_eq_getElem?_getD]
    cases hl : l[i]? with
    | none => exact trivial
    | some A => exact h1 i A hl
   exact Asn.to hA fun b => ⟨fun hb => ⟨i, hi, hb⟩, fun ⟨i', e', hb⟩ => by obtain rfl := Option.some.inj (hi.symm.trans e'); exact hb⟩
 ·obtain ⟨i, hi, hF⟩ := hb
  obtain ⟨i', hi', hF'⟩ := hb'
  refine h2 i i' (fun e => ?_) b hF hF'
  subst e
  obtain ⟨l1, e1⟩ := List.getElem?_eq_some_iff.1 hi
  obtain ⟨l2, e2⟩ := List.getElem?_eq_some_iff.1 hi'
  exact hjk ((List.getElem_inj hn).1 (e1.trans e2.symm))
 ·obtain ⟨i, _, hF⟩ := hb
  exact h3 i b hF
theorem gl_layP {G : Gr} (hok : G.ok) {x y : Int} (L : Nat → List Cel) (hx : 0 ≤ x) (hy : 0 ≤ y) (n : Nat) : ((qid x y L n G).ok ∧ (qid x y L n G).w = G.w ∧ (qid x y L n G).h = G.h) ∧ ∀ k : Nat, k < G.h.toNat → gl (qid x y L n G) (k : Int) = if (y ≤ (k : Int) ∧ (k : Int) < y + n) ∧ x < G.w then qj (qgu (gl G (k : Int)) x (L ((k : Int) - y).toNat)) else gl G (k : Int) := by
 induction n with
 | zero => exact ⟨⟨hok, rfl, rfl⟩, fun k hk => by rw [if_neg (fun h => by omega)]; rfl⟩
 | succ n ih =>
  obtain ⟨⟨h1, h2, h3⟩, h4⟩ := ih
  refine ⟨⟨layG_ok h1 (L n) hx (by omega), (qh9 _ _ _ _).1.trans h2, (qh9 _ _ _ _).2.trans h3⟩, fun k hk => ?_⟩
  show gl (qg2 (qid x y L n G) x (y + (n : Int)) (L n)) (k : Int) = _
  rw [gl_lay h1 (L n) (by omega) (by omega), h4 k hk, h2]
  by_cases hw : x < G.w
  ·by_cases e : y + (n : Int) = (k : Int)
   ·rw [if_pos ⟨e, hw⟩, if_neg (fun h => by omega), if_pos ⟨⟨by omega, by omega⟩, hw⟩, show ((k : Int) - y).toNat = n by omega]
   ·rw [if_neg (fun h => e h.1)]
    by_cases hr : y ≤ (k : Int) ∧ (k : Int) < y + n
    ·rw [if_pos ⟨hr, hw⟩, if_pos ⟨⟨hr.1, by omega⟩, hw⟩]
    ·rw [if_neg (fun h => hr h.1), if_neg (fun h => hr ⟨h.1.1, by omega⟩)]
  ·rw [if_neg (fun h => hw h.2), if_neg (fun h => hw h.2), if_neg (fun h => hw h.2)]
def inC (G : Gr) (y : Int) (j : Nat) : Cel := if (j : Int) < G.w ∧ y < G.h then gc (gl G y) (j : Int) else qs qaD
def inE (G : Gr) (y : Int) (n : Nat) : List Cel := (List.range n).map (inC G y)
def qF (b : Bx) (m l : List Cel) (j : Nat) : Cel := if b.x ≤ (j : Int) ∧ (j : Int) < b.x + b.w then gc m ((j : Int) - b.x) else gc l (j : Int)
def qcL (b : Bx) (m l : List Cel) (n : Nat) : List Cel := (List.range n).map (qF b m l)
def qaR (b : Bx) (G : Gr) (k : Int) (l : List Cel) : List Cel := if qcE b = true ∧ b.y ≤ k ∧ k < b.y + b.h then qj (qcL b (qj (inE G (k - b.y) b.w.toNat)) l l.length) else l
theorem qdV {f : Nat → Cel} {n i : Nat} (hi : i < n) : gc ((List.range n).map f) (i : Int) = f i := by
 rw [qaW (by rw [List.length_map, List.length_range]; exact hi), List.getElem_map, List.getElem_range]
theorem qbA {f : Nat → Cel} {k : Nat} {c : Cel} (h : f k = c) : flat ((List.range k).map f) ++ c.vals = flat ((List.range (k + 1)).map f) := by
 rw [List.range_succ, List.map_append, qas, List.map_singleton, h]; simp [flat]
theorem qy {f : Nat → Cel} {k : Nat} : ((List.range k).map f).length = k := by rw [List.length_map, List.length_range]
theorem gl_ok {G : Gr} (hok : G.ok) (hG : okG G) {k : Nat} (hk : k < G.h.toNat) : okC (gl G (k : Int)) := by
 have h3 := hok.2.2.1
 refine hG _ ?_
 unfold gl
 rw [Int.toNat_natCast, List.getD_eq_getElem?_getD, List.getElem?_eq_getElem (by omega), Option.getD_some]
 exact List.getElem_mem _
theorem qjM {l : List Cel} (h : qcd l = true) (n : Nat) : qcd (l ++ List.replicate n (qs qaD)) = true := by
 have hg : ∀ i : Nat, i < l.length → gc (l ++ List.replicate n (qs qaD)) (i : Int) = gc l (i : Int) := fun i hi => by
  rw [qaW (by rw [List.length_append]; omega), qaW hi, List.getElem_append_left hi]
 have hp : ∀ i : Int, qq l i = true → qq (l ++ List.replicate n (qs qaD)) i = true := fun i hq => by
  obtain ⟨p0, p1, p2, p3⟩ := pairedB_iff.1 hq
  obtain ⟨m, rfl⟩ := Int.eq_ofNat_of_zero_le p0
  rw [show ((m : Nat) : Int) + 1 = ((m + 1 : Nat) : Int) by omega] at p3 p1
  refine pairedB_iff.2 ⟨p0, by rw [List.length_append]; omega, by rw [hg m (by omega)]; exact p2, ?_⟩
  rw [show ((m : Nat) : Int) + 1 = ((m + 1 : Nat) : Int) by omega, hg (m + 1) (by omega), hg m (by omega), p3]
 refine wholeB_iff.2 fun i hi => ?_
 by_cases hl : i < l.length
 ·obtain ⟨h1, h2⟩ := wholeB_iff.1 h i hl
  rw [hg i hl]
  exact ⟨fun h0 => hp _ (h1 h0), fun h0 => ⟨(h2 h0).1, fun hw => hp _ ((h2 h0).2 hw)⟩⟩
 ·have e : gc (l ++ List.replicate n (qs qaD)) (i : Int) = qs qaD := by
   rw [qaW hi, List.getElem_append_right (by omega), List.getElem_replicate]
  rw [e]
  refine ⟨fun h => (by cases h), fun _ => ⟨?_, fun hw => ?_⟩⟩
  ·unfold qgb; rw [(qc8 qf0).1, Bool.and_true]; exact qdR
  ·have hw : qS 32 = true := hw
   rw [qjG] at hw; cases hw
theorem in_ok {G : Gr} (hok : G.ok) (hG : okG G) {y : Int} (hy : 0 ≤ y) (n : Nat) : okS (inE G y n) := fun c hc => by
 obtain ⟨j, _, rfl⟩ := List.mem_map.1 hc
 unfold inC
 split
 ·rename_i h
  obtain ⟨m, rfl⟩ := Int.eq_ofNat_of_zero_le hy
  have hb := hok.1
  refine (gl_ok hok hG (k := m) (by omega)).1 _ (qhe ?_)
  have := qhg hok (j := m) (by omega)
  omega
 ·exact qc8 qf0
theorem pad_in {G : Gr} (hok : G.ok) (hG : okG G) {n : Int} (hn : 0 ≤ n) (m : Nat) : qg3 G n m = qj (inE G (m : Int) n.toNat) := by
 have hb := hok.1
 unfold qg3 qgi
 by_cases hm : (m : Int) < G.h
 ·have hl := qhg hok (j := m) (by omega)
  rw [if_pos hm]
  by_cases hw : n ≤ ((gl G (m : Int)).length : Nat)
  ·rw [if_pos hw]
   congr 1
   refine qeu (by rw [List.length_take]; unfold inE; rw [qy]; omega) fun i hi => ?_
   rw [List.length_take] at hi
   unfold inE
   rw [qdV (by omega), qaW (by rw [List.length_take]; omega), List.getElem_take]
   unfold inC
   rw [if_pos ⟨by omega, hm⟩, qaW (by omega)]
  ·rw [if_neg hw]
   have e : inE G (m : Int) n.toNat = gl G (m : Int) ++ List.replicate (n - ((gl G (m : Int)).length : Nat)).toNat (qs qaD) := by
    refine qeu (by rw [List.length_append, List.length_replicate]; unfold inE; rw [qy]; omega) fun i hi => ?_
    unfold inE at hi
    rw [qy] at hi
    unfold inE
    rw [qdV hi, qaW (by rw [List.length_append, List.length_replicate]; omega)]
    unfold inC
    by_cases h : i < (gl G (m : Int)).length
    ·rw [if_pos ⟨by omega, hm⟩, List.getElem_append_left h, qaW h]
    ·rw [if_neg (fun h' => by omega), List.getElem_append_right (by omega), List.getElem_replicate]
   rw [e, qd3 (qjM (gl_ok hok hG (by omega)).2 _)]
 ·rw [if_neg hm]
  have e : inE G (m : Int) n.toNat = List.replicate n.toNat (qs qaD) := by
   refine qeu (by rw [List.length_replicate]; unfold inE; rw [qy]) fun i hi => ?_
   unfold inE at hi
   rw [qy] at hi
   unfold inE
   rw [qdV hi, qaW (by rw [List.length_replicate]; omega), List.getElem_replicate]
   unfold inC
   rw [if_neg (fun h => hm h.2)]
  rw [e, qd3 (qfQ _ qf0).2]
  by_cases h0 : n ≤ (([] : List Cel).length : Nat)
  ·rw [if_pos h0]
   have : n = 0 := by simp at h0; omega
   subst this; rfl
  ·rw [if_neg h0]
   simp
theorem row_full {b : Bx} {l m : List Cel} (hx : 0 ≤ b.x) (hw : 0 ≤ b.w) (hm : m.length = b.w.toNat) (hl : b.x < (l.length : Nat)) : qgu l b.x m = qcL b m l l.length := by
 refine qeu (by rw [qdk _ (by omega)]; unfold qcL; rw [qy]) fun i hi => ?_
 rw [qdk _ (by omega)] at hi
 unfold qcL
 rw [qdV hi]
 have hA : (l.take b.x.toNat).length = b.x.toNat := by rw [List.length_take]; omega
 have hM : (m.take (l.length - b.x.toNat)).length = min (l.length - b.x.toNat) b.w.toNat := by rw [List.length_take, hm]
 unfold qF qgu gc
 rw [Int.toNat_natCast, List.getD_eq_getElem?_getD, List.append_assoc]
 by_cases h1 : i < b.x.toNat
 ·rw [List.getElem?_append_left (by omega), List.getElem?_take, if_pos h1, if_neg (fun h => by omega), List.getD_eq_getElem?_getD]
 ·rw [List.getElem?_append_right (by omega), hA]
  by_cases h2 : i < b.x.toNat + b.w.toNat
  ·rw [List.getElem?_append_left (by omega), List.getElem?_take, if_pos (show i - b.x.toNat < l.length - b.x.toNat by omega), if_pos (show b.x ≤ (i : Int) ∧ (i : Int) < b.x + b.w by omega), List.getD_eq_getElem?_getD, show ((i : Int) - b.x).toNat = i - b.x.toNat by omega]
  ·rw [List.getElem?_append_right (by omega), hM, List.getElem?_drop, if_neg (fun h => by omega), List.getD_eq_getElem?_getD]
   congr 2; omega
theorem row_none {b : Bx} {l m : List Cel} (hl : ¬ b.x < (l.length : Nat)) : qcL b m l l.length = l := by
 refine qeu (by unfold qcL; rw [qy]) fun i hi => ?_
 unfold qcL at hi
 rw [qy] at hi
 unfold qcL
 rw [qdV hi]
 unfold qF
 rw [if_neg (fun h => by omega)]
theorem qfU {G G2 : Gr} {b : Bx} (hok : G.ok) (hG : okG G) (hok2 : G2.ok) (hG2 : okG G2) {k : Nat} (hk : k < G.h.toNat) : gl (qo G b G2) (k : Int) = qaR b G2 (k : Int) (gl G (k : Int)) ∧ qcd (gl (qo G b G2) (k : Int)) = true := by
 have hlen := qhg hok hk
 have hwh := gl_ok hok hG hk
 have hb1 := hok.1
 have e : gl (qo G b G2) (k : Int) = qaR b G2 (k : Int) (gl G (k : Int)) := by
  unfold qo qaR
  by_cases hm : qcE b = true
  ·have hb := mayB_iff.1 hm
   rw [if_pos hm, (gl_layP hok (qg3 G2 b.w) hb.1.1 hb.2.1.1 b.h.toNat).2 k hk]
   by_cases hy : b.y ≤ (k : Int) ∧ (k : Int) < b.y + b.h
   ·rw [if_pos (show qcE b = true ∧ b.y ≤ (k : Int) ∧ (k : Int) < b.y + b.h from ⟨hm, hy⟩), pad_in hok2 hG2 hb.2.2.1.1, show ((((k : Int) - b.y).toNat : Nat) : Int) = (k : Int) - b.y by omega]
    by_cases hx : b.x < G.w
    ·rw [if_pos (show (b.y ≤ (k : Int) ∧ (k : Int) < b.y + (b.h.toNat : Int)) ∧ b.x < G.w from ⟨⟨hy.1, by omega⟩, hx⟩), row_full hb.1.1 hb.2.2.1.1 (by rw [qm]; unfold inE; rw [qy]) (by omega)]
    ·rw [if_neg (show ¬ ((b.y ≤ (k : Int) ∧ (k : Int) < b.y + (b.h.toNat : Int)) ∧ b.x < G.w) from fun h => hx h.2), row_none (by omega), qd3 hwh.2]
   ·rw [if_neg (show ¬ (qcE b = true ∧ b.y ≤ (k : Int) ∧ (k : Int) < b.y + b.h) from fun h => hy h.2), if_neg (show ¬ ((b.y ≤ (k : Int) ∧ (k : Int) < b.y + (b.h.toNat : Int)) ∧ b.x < G.w) from fun h => hy ⟨h.1.1, by omega⟩)]
  ·rw [if_neg hm, if_neg (fun h => hm h.1)]
 refine ⟨e, ?_⟩
 rw [e]
 unfold qaR
 split
 ·rename_i h
  have hb := mayB_iff.1 h.1
  refine (qgw fun c hc => ?_).2
  obtain ⟨j, hj, rfl⟩ := List.mem_map.1 hc
  have hj' : j < (gl G (k : Int)).length := by simpa using hj
  unfold qF
  split
  ·rename_i hx
   rw [show (j : Int) - b.x = ((((j : Int) - b.x).toNat : Nat) : Int) by omega]
   refine (qgw (in_ok hok2 hG2 (by omega) b.w.toNat)).1 _ (qhe ?_)
   rw [qm]; unfold inE; rw [qy]; omega
  ·exact hwh.1 _ (qhe hj')
 ·exact hwh.2
theorem qhk (G : Gr) (b : Bx) (G2 : Gr) : (qo G b G2).h = G.h ∧ (qo G b G2).w = G.w := by
 have key : ∀ L k, (qid b.x b.y L k G).h = G.h ∧ (qid b.x b.y L k G).w = G.w := fun L k => by
  induction k with
  | zero => exact ⟨rfl, rfl⟩
  | succ k ih => exact ⟨(qh9 _ _ _ _).2.trans ih.1, (qh9 _ _ _ _).1.trans ih.2⟩
 unfold qo
 split
 ·exact key _ _
 ·exact ⟨rfl, rfl⟩
theorem qfV (w : World) : Calls Tryz.prog 41 [nX].toArray w fun e w' => e = .returned (nX) ∧ Ch (fun _ => False) w w' := by
 have h := Sep.nil w; refine yA Tryz.func41 rfl <| yx 1 <| ys <| yx 2 <| yct <| yx 1 <| q8 (rS (yR1 (nX) ?_)); exact ⟨rfl, h.ch⟩
theorem mend_nil (w : World) : Calls Tryz.prog 52 [nX].toArray w fun e w' => e = .returned (nX) ∧ Ch (fun _ => False) w w' := by
 have h := Sep.nil w; refine yA Tryz.func52 rfl <| yx 1 <| ysr <| yq 1 <| yo (yQ (h.look (qfV _)) fun u h => ?_); refine yz 3 <| ys <| yx 3 <| q9 <| yU 1 (yU1 ?_); refine yx 1 <| ys <| ycf <| qp (eS (qd (qb (nS ?_)))); refine yx 2 <| q8 (yR1 (nX) ?_); exact ⟨rfl, h.ch⟩
theorem fit_nil0 (w : World) : Calls Tryz.prog 47 [nX, iX 0].toArray w fun e w' => e = .returned (nX) ∧ Ch (fun _ => False) w w' := by
 have h := Sep.nil w; refine yA Tryz.func47 rfl <| yx 1 <| yx 3 <| ys <| yx 4 <| yct <| ysr <| yp 3 [] (.j 0 (0) .z) <| yo (yQ (h.look (mend_nil _)) fun u h => ?_); refine yz 5 <| q8 (rS (yR1 (nX) ?_)); exact ⟨rfl, h.ch⟩
theorem fit_nil1 (p : Int) (w : World) (hp : 1 ≤ p ∧ p ≤ 60) : Calls Tryz.prog 47 [nX, iX p].toArray w fun e w' => ∃ a c, e = .returned (.slice a p.toNat c) ∧ Rd w' a (flat (qgi [] p)) ∧ Ch (fun _ => False) w w' := by
 have h := Sep.nil w; refine yA Tryz.func47 rfl <| yx 1 <| yx 3 <| ys <| yx 4 <| yc (rM (max (p : Int) 0) 0) (fun f => ?_) fun f => ?_
 ·exfalso; omega
 refine yk <| ysr <| yq 1 <| yo (yQ (h.look (qfV _)) fun u h => ?_); refine yp 7 [] (.q6 ((max (p : Int) 0) - 0) .z) <| yo (yC (qbu ((max (p : Int) 0) - 0) qaD _ (by omega) (by omega)) ?_); rintro _ u ⟨l, rfl, i, j, k⟩; refine ⟨_, rfl, ?_⟩; have h := h.fresh (e := qbN) i (fun g e => zi e ▸ j) k; refine yo (zA0 (m := (((max (p : Int) 0) - 0) : Int).toNat) (c2 := (((max (p : Int) 0) - 0) : Int).toNat) 66 6 32 h (h.ownRd 0) (qL _) (by rw [flat_len, List.length_replicate]) (fun h => by cases h) (hb := by constructor <;> first | omega | (simp only [maxLen]; omega)) fun u b d h n => ?_); refine yz 10 <| q8 (yR1 (.slice (b.map at0) (((max (p : Int) 0) - 0) : Int).toNat d) ?_); refine ⟨(b.map at0), d, by rw [show (((max (p : Int) 0) - 0) : Int).toNat = p.toNat by omega], ?_, h.ch⟩; have o := (h.own 1).rd; rwa [show qgi [] p = List.replicate (((max (p : Int) 0) - 0) : Int).toNat (qs qaD) by unfold qgi; rw [if_neg (by simp only [List.length_nil]; omega), List.nil_append]; congr 1; simp only [List.length_nil]; omega]
theorem fit_nil (p : Int) (w : World) (hp : 0 ≤ p ∧ p ≤ 60) : Calls Tryz.prog 47 [nX, iX p].toArray w fun e w' => ∃ a c, e = .returned (.slice a p.toNat c) ∧ Rd w' a (flat (qgi [] p)) ∧ Ch (fun _ => False) w w' := by
 by_cases b : p = 0
 ·subst b; exact (fit_nil0 w).mono fun e w' ⟨he, hc⟩ => ⟨none, 0, he, Rd.nil _ _, hc⟩
 exact fit_nil1 p w (by omega)
theorem qfW {l : List Cel} {p : Int} (hp : 0 ≤ p) : (qgi l p).length = p.toNat := by
 unfold qgi; split
 ·rw [qm, List.length_take]; omega
 rw [List.length_append, List.length_replicate]; omega
theorem fitq_any {w : World} {g r rc : Nat} {rows : List Row} {G2 : Gr} {F2 : Nat → Prop} (hI : GridIn w g r rc rows G2 F2) {q : Row} (hq : q ∈ rows) (hT : qI w) (p : Int) (hp : 0 ≤ p ∧ p ≤ 60) : Calls Tryz.prog 47 [.slice (some ⟨q.b, 0, none⟩) q.n q.cap, iX p].toArray w fun e w' => ∃ a c, e = .returned (.slice a p.toNat c) ∧ Rd w' a (flat (qgi q.l p)) ∧ Ch (fun _ => False) w w' := by
 have d := (hI.line q hq).1; have f := (hI.line q hq).2; have h : q.l.length = G2.w.toNat := hI.ok.2.2.2 _ (hI.lines ▸ List.mem_map_of_mem hq); have i := hI.ok.1; have j : q.l.length ≤ q.cap := d.2.1; have e : max p 0 = p := by omega
 have := fit_any q.b q.n q.cap q.l p w hT d.rd d.lt f (by omega) (by omega) hp; rw [e] at this; exact this.mono fun _ _ ⟨g, c, he, hl, _, hc⟩ => ⟨_, c, he, hl.rd, hc⟩
theorem qfX (g : Nat) (G : Gr) (F : Nat → Prop) (X Y : Int) (hid : Bool) (b : Bx) (gg : Nat) (G2 : Gr) (F2 : Nat → Prop) (w : World) (hT : qI w) (hG0 : GridAt w g G F) (hG2 : GridAt w gg G2 F2) (hap : ∀ b, F2 b → ¬ F b) : Calls Tryz.prog 28 [.agg #[pX g, iX X, iX Y, .bool hid], .agg #[iX b.x, iX b.y, iX b.w, iX b.h], pX gg].toArray w fun e w' => e = .returned (.tuple #[]) ∧ GridAt w' g (qo G b G2) (more F w w') ∧ Ch F w w' := by
 obtain ⟨O, P, q, d⟩ := hG2; have Q := d.len; have h := Sep.startG hG0; have hg := Gz.ofG hG0; refine yA Tryz.func28 rfl <| ysr <| yo (zN [pX g, iX X, iX Y, .bool hid] 30 h fun u j h => ?_); refine yo (zN [iX b.x, iX b.y, iX b.w, iX b.h] 62 h fun u m h => ?_); refine ye <| ys <| ysr <| yp 1 [] (.a (h.cs 2 0 4) .z) <| yo (yQ (h.look (may_any b _)) fun u h => ?_); refine yz 3 <| yc (rN (rY (qcE b))) (fun n => ?_) fun n => ?_
 ·have v := n; refine q8 (rS (yR0 ?_)); rw [show qo G b G2 = G from if_neg (fun h => Bool.false_ne_true (v.symm.trans h))]; exact h.gfin hg
 have r := n; have R := mayB_iff.1 r; refine yk <| ysr <| yp 3 [] (.l (h.c 2 3) .z) <| ye <| q9 <| qP [2, 3, 4, 12, 13] (f' := [(2, pX gg), (3, pX j), (4, pX m), (12, iX b.h), (13, iX 0)]) <| qz (σ := Nat) (fun k => [(2, pX gg), (3, pX j), (4, pX m), (12, iX b.h), (13, iX ((k : Nat) : Int))]) (fun k u => (k : Int) ≤ b.h ∧ Sep w F u [qN g (qid b.x b.y (qg3 G2 b.w) k G), qW j [pX g, iX X, iX Y, .bool hid] 30, qW m [iX b.x, iX b.y, iX b.w, iX b.h] 62]) (fun k => b.h.toNat - k) 0 rfl ?_ ?_
 ·exact ⟨by omega, h.take 3⟩
 intro k u A S s; obtain ⟨hk, h⟩ := A; refine yx 1 <| ys <| yc (rL ((k : Nat) : Int) b.h) (fun o => ?_) fun o => ?_
 ·have T := o; refine yk <| ys <| q9 <| yx 2 <| yx 1 <| ys <| ysr <| yp 6 [] (.l (qv h.ch (d.head.c 1) (hap _ d.inF.1)) .z) <| ye <| yc (rL ((k : Nat) : Int) G2.h) (fun p => ?_) fun p => ?_
  ·have U := p; obtain ⟨B, t, C⟩ := qeU (rows := q) (k := k) (by omega); have f : qg3 G2 b.w k = qgi B.l b.w := by unfold qg3; rw [if_pos (by omega), glq d t]
   refine q7 <| yp 8 [] (.l (qv h.ch (d.head.c 2) (hap _ d.inF.1)) (.i ((k : Nat) : Int) (q.length) (.l (qdO (Ch.rd h.ch d.body.rd (hap _ d.inF.2.1)) t) .z))) <| ye <| zDC [11] [0, 1, 2] h fun u h => ydF (uL 0 10) [] h.on (fun u h => (.a (h.cs 1 0 4) (.l (h.c 2 0) (.l (h.c 2 1) (.q6 (b.y + ((k : Nat) : Int)) (.l (h.c 2 2) .z)))))) <| yH 10 (yC (fitq_any (d.ch h.ch hap) C (h.tbG hg hT) b.w (by omega)) ?_); rintro _ u ⟨D, E, rfl, H, I⟩; refine ⟨_, rfl, ?_⟩; have h := h.same I; refine zH h <| yK 11 (yQ (h.step 0 (A' := qN g (qg2 (qid b.x b.y (qg3 G2 b.w) k G) (b.x) ((b.y + ((k : Nat) : Int))) (qg3 G2 b.w k))) (fun F hA _ => qjI g _ F X Y hid (b.x) ((b.y + ((k : Nat) : Int))) D b.w.toNat E (qg3 G2 b.w k) _ (h.tbG hg hT) hA (by rw [f]; exact H) (by rw [f]; exact qfW (by omega)) (by omega) (by omega) (by omega))) fun u h => ?_); refine qa <| yDe (nB (nS ?_)); refine q7 <| yp 2 [] (.q6 (((k : Nat) : Int) + 1) .z) <| yE (fun a ha => s (k + 1) _ ⟨by omega, h.take 3⟩ (by show b.h.toNat - (k + 1) < b.h.toNat - k; omega) a (ha.kp [2, 3, 4, 12, 13]))
  have V := p; have f : qg3 G2 b.w k = qgi [] b.w := by unfold qg3; rw [if_neg (by omega)]
  refine yk <| zDC [11] [0, 1, 2] h fun u h => ydF (uL 0 10) [] h.on (fun u h => (.a (h.cs 1 0 4) (.l (h.c 2 0) (.l (h.c 2 1) (.q6 (b.y + ((k : Nat) : Int)) (.l (h.c 2 2) .z)))))) <| yH 10 (yC (fit_nil b.w _ (by omega)) ?_); rintro _ u ⟨J, K, rfl, L, M⟩; refine ⟨_, rfl, ?_⟩; have h := h.same M; refine zH h <| yK 11 (yQ (h.step 0 (A' := qN g (qg2 (qid b.x b.y (qg3 G2 b.w) k G) (b.x) ((b.y + ((k : Nat) : Int))) (qg3 G2 b.w k))) (fun F hA _ => qjI g _ F X Y hid (b.x) ((b.y + ((k : Nat) : Int))) J b.w.toNat K (qg3 G2 b.w k) _ (h.tbG hg hT) hA (by rw [f]; exact L) (by rw [f]; exact qfW (by omega)) (by omega) (by omega) (by omega))) fun u h => ?_); refine qa <| yDe (nB (nS ?_)); refine q7 <| yp 2 [] (.q6 (((k : Nat) : Int) + 1) .z) <| yE (fun a ha => s (k + 1) _ ⟨by omega, h.take 3⟩ (by show b.h.toNat - (k + 1) < b.h.toNat - k; omega) a (ha.kp [2, 3, 4, 12, 13]))
 have W := o; have N : k = b.h.toNat := by omega
 refine qp (eS (qd (qb (qA ?_)))); rw [show qo G b G2 = qid b.x b.y (qg3 G2 b.w) b.h.toNat G from if_pos r, ← N]; exact h.gfin hg
structure okD (G : Gr) : Prop where
 ok : okG G
 len : G.lines.length = G.h.toNat
 wid : ∀ l ∈ G.lines, l.length = G.w.toNat
theorem okD.line {G : Gr} (h : okD G) {y : Int} (hy : 0 ≤ y ∧ y < G.h) : (gl G y).length = G.w.toNat := by
 have hl := h.len
 have hy' : y.toNat < G.lines.length := by omega
 unfold gl
 rw [List.getD_eq_getElem?_getD, List.getElem?_eq_getElem hy']
 exact h.wid _ (List.getElem_mem hy')
theorem okD.set {G : Gr} (h : okD G) (y : Int) {l : List Cel} (ho : okG (qda G y l)) (hl : l.length = G.w.toNat) : okD (qda G y l) :=
 ⟨ho, by show (G.lines.set y.toNat l).length = _; rw [List.length_set]; exact h.len, fun m hm => by
  rcases List.mem_or_eq_of_mem_set hm with hm | rfl
  ·exact h.wid m hm
  ·exact hl⟩
def okB (l : List Cel) : Prop := okC l ∧ l ≠ [] ∧ l.length ≤ 60
structure Okt (q : Bool) (W H : Int) (T : TS) : Prop where
 lim : Lim W H T
 g : okD T.grid
 o : okD T.other
 b : ∀ l ∈ T.back, okB l
 cs : qaV T.cursor.sty = true
 cl : q = true → T.cursor.late = true → T.cursor.x = W - 1
 ss : qaV T.saved.sty = true
 sl : T.saved.late = true → T.saved.x = W - 1
 ay : qaV T.away.sty = true
 al : T.away.late = true → T.away.x = W - 1
 ti : T.title.size ≤ 40
section
variable {q : Bool} {W H : Int} {T : TS}
theorem Okt.cur (h : Okt q W H T) {p : Bool} {c : Cur} (hc : (0 ≤ c.x ∧ c.x < W) ∧ 0 ≤ c.y ∧ c.y < H) (hs : qaV c.sty = true) (hl : p = true → c.late = true → c.x = W - 1) : Okt p W H { T with cursor := c } := { h with lim := h.lim.cursor hc, cs := hs, cl := hl }
theorem Okt.grid (h : Okt q W H T) {G : Gr} (hG : G.w = T.grid.w ∧ G.h = T.grid.h) (hd : okD G) : Okt q W H { T with grid := G } := { h with lim := h.lim.grid hG, g := hd }
theorem Okt.flags (h : Okt q W H T) {T' : TS} (hl : Lim W H T') (e1 : T'.grid = T.grid) (e2 : T'.other = T.other) (e3 : T'.cursor = T.cursor) (e4 : T'.saved = T.saved) (e5 : T'.away = T.away) (e8 : T'.back = T.back) (e9 : T'.title = T.title) : Okt q W H T' :=
 ⟨hl, by rw [e1]; exact h.g, by rw [e2]; exact h.o, by rw [e8]; exact h.b, by rw [e3]; exact h.cs, by rw [e3]; exact h.cl, by rw [e4]; exact h.ss, by rw [e4]; exact h.sl, by rw [e5]; exact h.ay, by rw [e5]; exact h.al, by rw [e9]; exact h.ti⟩
end
end Go.Proofs.YtjklgjjgndalcaaGreatDoor.X

namespace Go.Proofs.YtjklgjjgndalcaaGreatDoor.X
open Go Go.RowKit Go.Proofs.YtjklgjjgndalcaaGreatDoor
def okAt (l : List Cel) (i : Nat) : Prop := ((gc l (i : Int)).rune = 0 → qq l ((i : Int) - 1) = true) ∧ ((gc l (i : Int)).rune ≠ 0 → qgb (gc l (i : Int)) = true ∧ (qS (gc l (i : Int)).rune = true → qq l (i : Int) = true))
theorem qgz {l : List Cel} {k : Nat} (h : ∀ i : Nat, i < k → okAt l i) (hb : okAt l k) : ∀ i : Nat, i < k + 1 → okAt l i := fun i hi => by
  rcases Nat.lt_or_ge i k with h' | h'
  · exact h i h'
  · obtain rfl : i = k := by omega
    exact hb
theorem qfY (b n cap : Nat) (l : List Cel) (w : World) (hT : qI w) (hr : Rd w (some ⟨b, 0, none⟩) (flat l)) (hb : b < w.heap.size) (hln : l.length = n) (hnb : n ≤ 1000000) : Calls Tryz.prog 30 [.slice (some ⟨b, 0, none⟩) n cap].toArray w fun e w' => e = .returned (.bool (qcd l)) ∧ Ch (fun _ => False) w w' := by
 refine yA Tryz.func30 rfl <| yx 1 <| ys <| yx 3 <| q9 <| qP [0, 5, 6, 7] (f' := [(0, .slice (some ⟨b, 0, none⟩) n cap), (5, .slice (some ⟨b, 0, none⟩) n cap), (6, iX ((n : Nat) : Int)), (7, iX 0)]) <| qz (σ := Nat) (fun k => [(0, .slice (some ⟨b, 0, none⟩) n cap), (5, .slice (some ⟨b, 0, none⟩) n cap), (6, iX ((n : Nat) : Int)), (7, iX ((k : Nat) : Int))]) (fun k u => k ≤ n ∧ (∀ i : Nat, i < k → okAt l i) ∧ Ch (fun _ => False) w u) (fun k => n - k) 0 rfl ?_ ?_
 ·exact ⟨Nat.zero_le _, fun i hi => absurd hi (Nat.not_lt_zero i), Ch.refl _ _⟩
 intro k ae R af x; obtain ⟨hk, d, g⟩ := R; have r := zu (zm w) g iZ; have S := qe g hT id id; have f := Ch.rd g hr id; refine yx 1 <| ys <| yc (rL ((k : Nat) : Int) ((n : Nat) : Int)) (fun T => ?_) fun T => ?_
 ·refine yk <| ys <| q9 <| ysr <| yp 3 [] (.i ((k : Nat) : Int) (n) (.m (qbJ (i := ((k : Nat) : Int)) f (by omega) (by omega)) (.m (qbS (i := ((k : Nat) : Int)) f (by omega) (by omega)) (.m (qb4 (i := ((k : Nat) : Int)) f (by omega) (by omega)) (.m (qat (i := ((k : Nat) : Int)) f (by omega) (by omega)) (.m (qbT (i := ((k : Nat) : Int)) f (by omega) (by omega)) (.m (qbU (i := ((k : Nat) : Int)) f (by omega) (by omega)) (.e .z)))))))) <| yo (yN [rX 0, .bool false, .bool false, .bool false, iX 0, iX 0] 66 fun ag j G ah U s => ?_); have ai := zn G r; have aj := zn G g; have V := zu r s iZ; have W := zt g s eZ; have X := qe s S id id; have Y := Ch.rd s f id; refine yq 5 <| yo (yT [rX (gc l ((k : Nat) : Int)).rune, .bool (gc l ((k : Nat) : Int)).sty.bold, .bool (gc l ((k : Nat) : Int)).sty.under, .bool (gc l ((k : Nat) : Int)).sty.turned, iX (gc l ((k : Nat) : Int)).sty.fore, iX (gc l ((k : Nat) : Int)).sty.back] U fun ak y t => ?_); have A := zu V t (fun i hi (h : i = j) => by omega); have H := zt W t (fun i hi (h : i = j) => by omega); have I := qe t X (fun (h : qd9 = j) => by have := qaC hT; omega) (fun (h : qbK = j) => by have := qaC hT; omega); have J := Ch.rd t Y (fun (h : b = j) => by have := (Nat.lt_of_lt_of_le hb (zzs r)); omega); refine ye <| q9 <| ysr <| yp 4 [] (.l (y.c 0) .z) <| ye <| yc (rE (gc l ((k : Nat) : Int)).rune 0) (fun B => ?_) fun B => ?_
  ·have Z := B; refine ysr <| yp 3 [] (.q6 (((k : Nat) : Int) - 1) .z) ?_; refine yo (yQ (qbt b n cap l (((k : Nat) : Int) - 1) _ I J (Nat.lt_of_lt_of_le hb (zzs A)) hln (by omega) (by constructor <;> omega)) fun al K => ?_); have a0 := zu A K iZ; have a1 := zt H K eZ; refine yz 5 <| yc (rN (rY (qq l (((k : Nat) : Int) - 1)))) (fun C => ?_) fun C => ?_
   ·have a2 := C; refine yx 1 <| q8 (rB (rB (rS (qa0 (rB (rS (yR1 (.bool false) ?_))))))); refine ⟨zc ?_, Up.ch a0⟩; exact (Bool.eq_false_iff.2 fun h => by
     have o := wholeB_iff.1 h k (by omega); clear h d; simp [Z, a2] at o).symm
   have am := C; refine qf (nB (nB (nS ?_))); refine q7 <| yp 2 [] (.q6 (((k : Nat) : Int) + 1) .z) <| yE (fun a ha => x (k + 1) _ ⟨by omega, qgz d ⟨fun p => by simp_all, fun p => by simp_all⟩, a1⟩ (by show n - (k + 1) < n - k; omega) a (ha.kp [0, 5, 6, 7]))
  have L := B; refine ysr <| yp 1 [] (.a (y.cs 0 6) .z) <| yo (yQ (qgM (gc l ((k : Nat) : Int)) _ ) fun an q => ?_); have M := zu A q iZ; have a3 := zt H q eZ; have N := qe q I id id; have a4 := Ch.rd q J id; have a5 := y.ch q id; refine yq 4 <| yw [25] (rN (rY (qgb (gc l ((k : Nat) : Int))))) (fun D => ?_) fun D => ?_
  ·have a6 := D; refine yz 15 <| yct <| yx 1 <| q8 (rB (rB (rS (qa0 (rB (rS (yR1 (.bool false) ?_))))))); refine ⟨zc ?_, Up.ch M⟩; exact (Bool.eq_false_iff.2 fun h => by
    have o := wholeB_iff.1 h k (by omega); clear h d; simp [L, a6] at o).symm
  have a7 := D; refine yp 6 [] (.l (a5.c 0) .z) <| yo (yQ (qaG (gc l ((k : Nat) : Int)).rune _ N.1) fun ao hq => ?_); have v := qaY hq; clear hq; have O := zu M v iZ; have P := zt a3 v eZ; have a8 := qe v N id id; have a9 := Ch.rd v a4 id; refine yq 8 <| yw [29] (rY (qS (gc l ((k : Nat) : Int)).rune)) (fun E => ?_) fun E => ?_
  ·have aa := E; refine yq 10 ?_; refine yo (yQ (qbt b n cap l ((k : Nat) : Int) _ a8 a9 (Nat.lt_of_lt_of_le hb (zzs O)) hln (by omega) (by constructor <;> omega)) fun ap Q => ?_); have ab := zu O Q iZ; have ac := zt P Q eZ; refine yz 15 <| yc (rN (rY (qq l ((k : Nat) : Int)))) (fun F => ?_) fun F => ?_
   ·have ad := F; refine yx 1 <| q8 (rB (rB (rS (qa0 (rB (rS (yR1 (.bool false) ?_))))))); refine ⟨zc ?_, Up.ch ab⟩; exact (Bool.eq_false_iff.2 fun h => by
     have o := wholeB_iff.1 h k (by omega); clear h d; simp [L, a7, aa, ad] at o).symm
   have aq := F; refine qf (nB (nB (nS ?_))); refine q7 <| yp 2 [] (.q6 (((k : Nat) : Int) + 1) .z) <| yE (fun a ha => x (k + 1) _ ⟨by omega, qgz d ⟨fun p => by simp_all, fun p => by simp_all⟩, ac⟩ (by show n - (k + 1) < n - k; omega) a (ha.kp [0, 5, 6, 7]))
  have ar := E; refine yz 15 <| ycf <| qf (nB (nB (nS ?_))); refine q7 <| yp 2 [] (.q6 (((k : Nat) : Int) + 1) .z) <| yE (fun a ha => x (k + 1) _ ⟨by omega, qgz d ⟨fun p => by simp_all, fun p => by simp_all⟩, P⟩ (by show n - (k + 1) < n - k; omega) a (ha.kp [0, 5, 6, 7]))
 have au : k = n := by omega
 refine qp (eS (qd (qb (nS ?_)))); refine yx 1 <| q8 (yR1 (.bool true) ?_); refine ⟨zc ?_, Up.ch r⟩; exact (wholeB_iff.2 fun i hi => d i (by omega)).symm
end Go.Proofs.YtjklgjjgndalcaaGreatDoor.X
