/- What the proof of StateCopies needs, part 4: the walks of the program's functions and the plain laws about them. -/
import Derived.Test.YtclnfbmmaofpjaaGreatDoorQL3
import Derived.Laws.Strings
set_option linter.unusedSimpArgs false
set_option linter.unusedVariables false
namespace Go.Proofs.YtclnfbmmaofpjaaGreatDoor.X
open Go Go.RowKit Go.Proofs.YtclnfbmmaofpjaaGreatDoor
theorem qeS {w : World} {ao : Option Nat} {an cc : Nat} {l : List Int} {K : Nat → Prop} (h : IntsAt w .i64 ao an cc l K) (a : Ac) (ha : a.params = l) (i : Nat) : Calls Tryz.prog 114 [.agg #[iX a.kind, rX a.rune, uX a.last, .string a.marks, .slice (ao.map at0) an cc, .string a.text], iX ((i : Nat) : Int)].toArray w fun e w' => e = .returned (iX (qi a.params i)) ∧ Ch (fun _ => False) w w' := by
 subst ha; obtain ⟨d, c, g, f⟩ := h; cases ao with
 | none =>
  have e : a.params = [] := by have := d.1 rfl; simpa using this
  rw [e] at c; subst c; rw [e]; exact qkc i _ _ _ _ _ _ _ w
 | some b => exact qka b i _ _ _ _ _ an cc _ w d (f b rfl).2 c
theorem qb2 {w : World} {ao : Option Nat} {an cc : Nat} {l : List Int} {K : Nat → Prop} (h : IntsAt w .i64 ao an cc l K) (a : Ac) (ha : a.params = l) : Calls Tryz.prog 126 [.agg #[iX a.kind, rX a.rune, uX a.last, .string a.marks, .slice (ao.map at0) an cc, .string a.text]].toArray w fun e w' => e = .returned (iX (qI a.params)) ∧ Ch (fun _ => False) w w' := by
 subst ha; obtain ⟨d, c, i, g⟩ := h; by_cases f : an = 0
 ·subst f; have e : a.params = [] := List.eq_nil_of_length_eq_zero c; rw [e]; exact qkd _ _ _ _ _ _ _ w
 cases ao with
 | none =>
  have e : a.params = [] := by have := d.1 rfl; simpa using this
  rw [e] at c; exact absurd c.symm f
 | some b => exact qkb b _ _ _ _ _ an cc _ w d (g b rfl).2 c (by omega)
theorem qiA {w : World} {ao : Option Nat} {an cc : Nat} {l : List Int} {K : Nat → Prop} (h : IntsAt w .i64 ao an cc l K) (s : Sty) (hn : an ≤ 1000) : Calls Tryz.prog 116 [.agg #[.bool s.bold, .bool s.under, .bool s.turned, iX s.fore, iX s.back], .slice (ao.map at0) an cc].toArray w fun e w' => e = .returned (.agg (qbJ s l).vals.toArray) ∧ Ch (fun _ => False) w w' := by
 obtain ⟨c, a, g, f⟩ := h; by_cases d : an = 0
 ·subst d; have e : l = [] := List.eq_nil_of_length_eq_zero a; rw [e]; exact qht _ _ s w
 cases ao with
 | none =>
  have e : l = [] := by have := c.1 rfl; simpa using this
  rw [e] at a; exact absurd a.symm d
 | some b => exact qhs b an cc l s w c (f b rfl).2 a (by omega) hn
theorem qkp (T : TS) : (qcr T).size ≤ 7 := by
 have a := qcE ((if T.origin = true then T.cursor.y - T.top else T.cursor.y) + 1); have b := qcE (T.cursor.x + 1); unfold qcr; rw [ByteArray.size_append, ByteArray.size_append, qhF]; omega
theorem qfO {w : World} {t : Nat} {W H : Int} {T : TS} {F : Nat → Prop} (hA : TermAt w t T F) (hT : qa4 w) (hL : Lim W H T) (n : Int) : Calls Tryz.prog 110 [pX t, iX n].toArray w fun e w' => e = .returned (.tuple #[]) ∧ TermAt w' t (qar T n) (more F w w') ∧ Ch F w w' := qhv hA hT (by have := hL.bk; omega) n
theorem up_any2 (g : Nat) (G : Gr) (F : Nat → Prop) (p1 p2 n : Int) (s : Sty) (w : World) (hT : qa4 w) (hG : GridAt w g G F) : Calls Tryz.prog 121 [pX g, iX p1, iX p2, iX n, .agg #[.bool s.bold, .bool s.under, .bool s.turned, iX s.fore, iX s.back]].toArray w fun e w' => ∃ v, e = .returned v ∧ GridAt w' g (upG G p1 p2 n s) (more F w w') ∧ Ch F w w' :=
  (up_any g G F p1 p2 n s w hT hG).mono fun _ w' ⟨_, _, _, _, F', _, he, _, _, h, hF, _, _, hc⟩ => ⟨_, he, h.mono hF (qbt hG hc.size), hc⟩
set_option maxHeartbeats 4000000 in
theorem qm7 {w : World} {t : Nat} {W H : Int} {T : TS} {F : Nat → Prop} (hA0 : TermAt w t T F) (hT : LT w) (hL : Lim W H T) {ao : Option Nat} {an cc : Nat} {ac : Ac} (hV : IntsAt w .i64 ao an cc ac.params (fun b => ¬ F b ∧ b < w.heap.size)) (hV8 : an ≤ 8) (hVb : ∀ x ∈ ac.params, 0 ≤ x ∧ x ≤ 9999) : Calls Tryz.prog 127 [pX t, .agg #[iX ac.kind, rX ac.rune, uX ac.last, .string ac.marks, .slice (ao.map at0) an cc, .string ac.text]].toArray w fun e w' => e = .returned (.tuple #[]) ∧ TermAt w' t (qbA T ac.last (qI ac.params)) (more F w w') ∧ Ch F w w' := by
 obtain ⟨g, o, ba, bn, bc, pa, pn, pc, F1, F2, FB, FP, hI⟩ := hA0; have hA0 : TermAt w t T F := ⟨g, o, ba, bn, bc, pa, pn, pc, F1, F2, FB, FP, hI⟩
 have A := hI.inF.1; obtain ⟨gv, bM⟩ := hI.g1.head; have bN : Df t g := fun e => hI.t1 (e ▸ hI.g1.inF); obtain ⟨⟨bO, bP⟩, ⟨bQ, bR⟩, bS, bT⟩ := hI.g1.ok; have aC := hL; have bU := aC.all; refine yA Tryz.func127 rfl <| ysr <| yo (yN [iX ac.kind, rX ac.rune, uX ac.last, .string ac.marks, .slice (ao.map at0) an cc, .string ac.text] 115 fun bV aD aE bW a1 I => ?_); have bX : w.heap.size ≤ aD := by rw [aE]; exact zs (Ch.refl (· = t) w)
 have aF := zt (Ch.refl (· = t) w) I eZ; have aG := hI.blk.ch I id; have aH := qz I hT (fun _ h => h.elim); have aI := hV.ch I iZ; refine ye <| ysr <| yp 1 [] (.a (a1.cs 0 6) .z) <| yo (yQ (qb2 aI ac rfl) fun B J => ?_); have f := zt aF J eZ; have u := aG.ch J id; have K := qz J aH (fun _ h => h.elim); have d := a1.ch J id; refine yz 3 <| q8 <| ysr <| yp 4 [] (.l (d.c 2) .z) <| yw [11] (rE ac.last 103) (fun v => ?_) fun v => ?_
 ·refine yz 8 <| yc (rE (qI ac.params) 0) (fun r => ?_) fun r => ?_
  ·refine yD [9] fun bY bZ a2 => ?_; have aJ := zt f a2 eZ; have a3 := u.ch a2 id; refine yd (uL 0 9) [] (.l (a3.c 2) (.i T.cursor.x (60) .z)) <| yK 9 (qa1 (28 + (T.cursor.x : Int).toNat * 1) [.bool false] none (by kernel_rfl) a3 (by rw [qbi]; simp only [List.length_cons, List.length_nil]; omega) ?_); intro aK R aL; replace R : Blk aK t (TS.vals ({ T with tabs := (fun i => if i = (T.cursor.x : Int).toNat then false else T.tabs i) } : TS) g o (.slice ba bn bc) (.slice pa pn pc)) qV := Blk.to R (qew T _ _ _ _ _ (by omega) _); have a4 := zt aJ aL (fun i hi (h : i = t) => h); refine q9 <| yDe (nB (qM ?_)); have aM := hI.scalar (T' := ({ T with tabs := (fun i => if i = (T.cursor.x : Int).toNat then false else T.tabs i) } : TS)) a4 R rfl rfl rfl rfl; have a5 := hI.cht a4; have aN := aM.pk1 hI a5; refine ⟨rfl, TermAt.eq' aN ?_, a5⟩; simp only [qbA, v, r, ↓reduceIte, Int.reduceEq, Int.reduceLT, Int.reduceLE, sB]
  refine ysr <| yp 4 [] (.l (d.c 2) .z) <| yw [28] (rE ac.last 103) (fun s => ?_) fun s => ?_
  ·refine yz 8 <| yc (rE (qI ac.params) 3) (fun k => ?_) fun k => ?_
   ·refine q7 <| yq 4 <| yo (yS u fun c0 aO aP => ?_); have a6 := zt f aP (fun i hi (h : i = t) => h); refine yE (nB (qM ?_)); have aQ := hI.scalar (T' := ({ T with tabs := (fun _ => false) } : TS)) a6 (Blk.to aO (by kernel_rfl)) rfl rfl rfl rfl; have a7 := hI.cht a6; have aR := aQ.pk1 hI a7; refine ⟨rfl, TermAt.eq' aR ?_, a7⟩; simp only [qbA, v, r, s, k, ↓reduceIte, Int.reduceEq, Int.reduceLT, Int.reduceLE, sB]
   refine ysr <| yp 4 [] (.l (d.c 2) .z) <| yw [40] (rE ac.last 104) (fun m => ?_) fun m => ?_
   ·exfalso; omega
   refine yp 9 [] (.l (d.c 2) .z) <| yw [45] (rE ac.last 108) (fun j => ?_) fun j => ?_
   ·exfalso; omega
   refine yz 13 <| ycf <| ysr <| yp 4 [] (.l (d.c 2) .z) <| yw [59] (rE ac.last 110) (fun n => ?_) fun n => ?_
   ·exfalso; omega
   refine yz 8 <| ycf <| ysr <| yp 4 [] (.l (d.c 2) .z) <| yw [69] (rE ac.last 110) (fun y => ?_) fun y => ?_
   ·exfalso; omega
   refine yz 8 <| ycf <| ysr <| yp 4 [] (.l (d.c 2) .z) <| yw [83] (rE ac.last 99) (fun C => ?_) fun C => ?_
   ·exfalso; omega
   refine yz 8 <| ycf <| qp (nB (qM ?_)); have aS := hI.scalar (T' := T) f u rfl rfl rfl rfl; have a8 := hI.cht f; have aT := aS.pk1 hI a8; refine ⟨rfl, TermAt.eq' aT ?_, a8⟩; simp only [qbA, v, r, s, k, m, j, n, y, C, ↓reduceIte, Int.reduceEq, Int.reduceLT, Int.reduceLE, sB]
  exfalso; omega
 refine yz 8 <| ycf <| ysr <| yp 4 [] (.l (d.c 2) .z) <| yw [28] (rE ac.last 103) (fun r => ?_) fun r => ?_
 ·exfalso; omega
 refine yz 8 <| ycf <| ysr <| yp 4 [] (.l (d.c 2) .z) <| yw [40] (rE ac.last 104) (fun s => ?_) fun s => ?_
 ·refine yz 13 <| yc (rE (qI ac.params) 4) (fun k => ?_) fun k => ?_
  ·refine q7 <| yp 6 [] (.l (d.c 2) .z) <| yo (yS u fun c1 aU aV => ?_); have a9 := zt f aV (fun i hi (h : i = t) => h); refine yE (nB (qM ?_)); have aW := hI.scalar (T' := ({ T with insert := ((ac.last : Int) == 104) } : TS)) a9 (Blk.to aU (by kernel_rfl)) rfl rfl rfl rfl; have aa := hI.cht a9; have aX := aW.pk1 hI aa; refine ⟨rfl, TermAt.eq' aX ?_, aa⟩; simp only [qbA, v, r, s, k, ↓reduceIte, Int.reduceEq, Int.reduceLT, Int.reduceLE, sB]
  refine ysr <| yp 4 [] (.l (d.c 2) .z) <| yw [59] (rE ac.last 110) (fun m => ?_) fun m => ?_
  ·exfalso; omega
  refine yz 8 <| ycf <| ysr <| yp 4 [] (.l (d.c 2) .z) <| yw [69] (rE ac.last 110) (fun j => ?_) fun j => ?_
  ·exfalso; omega
  refine yz 8 <| ycf <| ysr <| yp 4 [] (.l (d.c 2) .z) <| yw [83] (rE ac.last 99) (fun n => ?_) fun n => ?_
  ·exfalso; omega
  refine yz 8 <| ycf <| qp (nB (qM ?_)); have aY := hI.scalar (T' := T) f u rfl rfl rfl rfl; have ab := hI.cht f; have aZ := aY.pk1 hI ab; refine ⟨rfl, TermAt.eq' aZ ?_, ab⟩; simp only [qbA, v, r, s, k, m, j, n, ↓reduceIte, Int.reduceEq, Int.reduceLT, Int.reduceLE, sB]
 refine yp 9 [] (.l (d.c 2) .z) <| yw [45] (rE ac.last 108) (fun k => ?_) fun k => ?_
 ·refine yz 13 <| yc (rE (qI ac.params) 4) (fun m => ?_) fun m => ?_
  ·refine q7 <| yp 6 [] (.l (d.c 2) .z) <| yo (yS u fun c2 b0 b1 => ?_); have ad := zt f b1 (fun i hi (h : i = t) => h); refine yE (nB (qM ?_)); have b2 := hI.scalar (T' := ({ T with insert := ((ac.last : Int) == 104) } : TS)) ad (Blk.to b0 (by kernel_rfl)) rfl rfl rfl rfl; have ae := hI.cht ad; have b3 := b2.pk1 hI ae; refine ⟨rfl, TermAt.eq' b3 ?_, ae⟩; simp only [qbA, v, r, s, k, m, ↓reduceIte, Int.reduceEq, Int.reduceLT, Int.reduceLE, sB]
  refine ysr <| yp 4 [] (.l (d.c 2) .z) <| yw [59] (rE ac.last 110) (fun j => ?_) fun j => ?_
  ·exfalso; omega
  refine yz 8 <| ycf <| ysr <| yp 4 [] (.l (d.c 2) .z) <| yw [69] (rE ac.last 110) (fun n => ?_) fun n => ?_
  ·exfalso; omega
  refine yz 8 <| ycf <| ysr <| yp 4 [] (.l (d.c 2) .z) <| yw [83] (rE ac.last 99) (fun y => ?_) fun y => ?_
  ·exfalso; omega
  refine yz 8 <| ycf <| qp (nB (qM ?_)); have b4 := hI.scalar (T' := T) f u rfl rfl rfl rfl; have af := hI.cht f; have b5 := b4.pk1 hI af; refine ⟨rfl, TermAt.eq' b5 ?_, af⟩; simp only [qbA, v, r, s, k, m, j, n, y, ↓reduceIte, Int.reduceEq, Int.reduceLT, Int.reduceLE, sB]
 refine yz 13 <| ycf <| ysr <| yp 4 [] (.l (d.c 2) .z) <| yw [59] (rE ac.last 110) (fun m => ?_) fun m => ?_
 ·refine yz 8 <| yc (rE (qI ac.params) 5) (fun j => ?_) fun j => ?_
  ·refine q7 <| yq 1 ?_; have D := hI.scalar (T' := T) f u rfl rfl rfl rfl; have b6 : TermAt B t T F := ⟨_, _, _, _, _, _, _, _, _, _, _, _, D⟩
   have S : Ch F w B := f.mono (fun i _ h => h ▸ A); have c3 := d.lt; have ag := D.cht (Ch.refl (· = t) B); have b7 := D.pk1 D ag; refine yo (yQ (qgD b7 K hL  (⟨#[27, 91, 48, 110]⟩ : ByteArray) (by first | decide | (simp only [ByteArray.size_append]; have L : (⟨#[27, 91]⟩ : ByteArray).size = 2 := rfl; have M : (⟨#[82]⟩ : ByteArray).size = 1 := rfl; omega))) ?_); rintro ah ⟨b8, b9⟩; obtain ⟨ai, bb⟩ := TermAt.next b6 ag b9 b8; have aj : Lim W H (qbx T (⟨#[27, 91, 48, 110]⟩ : ByteArray)) := (qcb hL (⟨#[27, 91, 48, 110]⟩ : ByteArray))
   generalize bd : (qbx T (⟨#[27, 91, 48, 110]⟩ : ByteArray)) = T135 at ai aj; have bf := aj; have c4 := bf.all; obtain ⟨bg, c5, c6, c7, c8, c9, ca, cb, cd, ce, cf, cg, N⟩ := ai; obtain ⟨ci, cj⟩ := N.g1.head; have ck : Df t bg := fun e => N.t1 (e ▸ N.g1.inF); refine yE (nB (qM ?_)); have U := Ch.on bb (Ch.refl (· = t) ah) A; have bh := N.pk2 (Ch.refl (· = t) ah) D U; subst bd; refine ⟨rfl, TermAt.eq' (bh.mono (qr S.size) (hI.moreOk (Nat.le_trans S.size U.size))) ?_, zt S U iZ⟩; simp only [qbA, v, r, s, k, m, j, ↓reduceIte, Int.reduceEq, Int.reduceLT, Int.reduceLE, sB]
  refine ysr <| yp 4 [] (.l (d.c 2) .z) <| yw [69] (rE ac.last 110) (fun n => ?_) fun n => ?_
  ·refine yz 8 <| yc (rE (qI ac.params) 6) (fun y => ?_) fun y => ?_
   ·refine q7 <| yq 2 ?_; have bi := hI.scalar (T' := T) f u rfl rfl rfl rfl; refine yo (yQ (qm6 bi K hL) fun V O => ?_); have ak := zt f O eZ; have bj := u.ch O id; have bk := qz O K (fun _ h => h.elim); have bl := d.ch O id; have cl := qkp T; refine yp 5 [] (.p (q := ((⟨#[27, 91]⟩ : ByteArray)).size + ((qcr T)).size ≤ 9223372036854775807) (by have L : (⟨#[27, 91]⟩ : ByteArray).size = 2 := rfl; have M : (⟨#[82]⟩ : ByteArray).size = 1 := rfl; first | omega | (rw [ByteArray.size_append]; omega)) (.p (q := (((⟨#[27, 91]⟩ : ByteArray) ++ (qcr T))).size + ((⟨#[82]⟩ : ByteArray)).size ≤ 9223372036854775807) (by have L : (⟨#[27, 91]⟩ : ByteArray).size = 2 := rfl; have M : (⟨#[82]⟩ : ByteArray).size = 1 := rfl; first | omega | (rw [ByteArray.size_append]; omega)) .z)) ?_; have E := hI.scalar (T' := T) ak bj rfl rfl rfl rfl; have bm : TermAt V t T F := ⟨_, _, _, _, _, _, _, _, _, _, _, _, E⟩
    have X : Ch F w V := ak.mono (fun i _ h => h ▸ A); have cm := bl.lt; have al := E.cht (Ch.refl (· = t) V); have bo := E.pk1 E al; refine yo (yQ (qgD bo bk hL  (((⟨#[27, 91]⟩ : ByteArray) ++ (qcr T)) ++ (⟨#[82]⟩ : ByteArray)) (by first | decide | (simp only [ByteArray.size_append]; have L : (⟨#[27, 91]⟩ : ByteArray).size = 2 := rfl; have M : (⟨#[82]⟩ : ByteArray).size = 1 := rfl; omega))) ?_); rintro am ⟨bp, bq⟩; obtain ⟨ap, br⟩ := TermAt.next bm al bq bp; have aq : Lim W H (qbx T (((⟨#[27, 91]⟩ : ByteArray) ++ (qcr T)) ++ (⟨#[82]⟩ : ByteArray))) := (qcb hL (((⟨#[27, 91]⟩ : ByteArray) ++ (qcr T)) ++ (⟨#[82]⟩ : ByteArray)))
    generalize bs : (qbx T (((⟨#[27, 91]⟩ : ByteArray) ++ (qcr T)) ++ (⟨#[82]⟩ : ByteArray))) = T167 at ap aq; have bt := aq; have cn := bt.all; obtain ⟨bu, co, cp, cq, cr, ct, cu, cv, cw, cx, cy, cz, P⟩ := ap; obtain ⟨cA, cB⟩ := P.g1.head; have cC : Df t bu := fun e => P.t1 (e ▸ P.g1.inF); refine yE (nB (qM ?_)); have Y := Ch.on br (Ch.refl (· = t) am) A; have bv := P.pk2 (Ch.refl (· = t) am) E Y; subst bs; refine ⟨rfl, TermAt.eq' (bv.mono (qr X.size) (hI.moreOk (Nat.le_trans X.size Y.size))) ?_, zt X Y iZ⟩; simp only [qbA, v, r, s, k, m, j, n, y, ↓reduceIte, Int.reduceEq, Int.reduceLT, Int.reduceLE, sB]
   refine ysr <| yp 4 [] (.l (d.c 2) .z) <| yw [83] (rE ac.last 99) (fun C => ?_) fun C => ?_
   ·exfalso; omega
   refine yz 8 <| ycf <| qp (nB (qM ?_)); have bw := hI.scalar (T' := T) f u rfl rfl rfl rfl; have ar := hI.cht f; have bx := bw.pk1 hI ar; refine ⟨rfl, TermAt.eq' bx ?_, ar⟩; simp only [qbA, v, r, s, k, m, j, n, y, C, ↓reduceIte, Int.reduceEq, Int.reduceLT, Int.reduceLE, sB]
  exfalso; omega
 refine yz 8 <| ycf <| ysr <| yp 4 [] (.l (d.c 2) .z) <| yw [69] (rE ac.last 110) (fun j => ?_) fun j => ?_
 ·exfalso; omega
 refine yz 8 <| ycf <| ysr <| yp 4 [] (.l (d.c 2) .z) <| yw [83] (rE ac.last 99) (fun n => ?_) fun n => ?_
 ·refine yz 8 <| yc (rE (qI ac.params) 0) (fun y => ?_) fun y => ?_
  ·refine q7 <| yq 1 ?_; have G := hI.scalar (T' := T) f u rfl rfl rfl rfl; have bz : TermAt B t T F := ⟨_, _, _, _, _, _, _, _, _, _, _, _, G⟩
   have Z : Ch F w B := f.mono (fun i _ h => h ▸ A); have cD := d.lt; have au := G.cht (Ch.refl (· = t) B); have bA := G.pk1 G au; refine yo (yQ (qgD bA K hL  (⟨#[27, 91, 63, 54, 99]⟩ : ByteArray) (by first | decide | (simp only [ByteArray.size_append]; have L : (⟨#[27, 91]⟩ : ByteArray).size = 2 := rfl; have M : (⟨#[82]⟩ : ByteArray).size = 1 := rfl; omega))) ?_); rintro av ⟨bB, bC⟩; obtain ⟨aw, bD⟩ := TermAt.next bz au bC bB; have ax : Lim W H (qbx T (⟨#[27, 91, 63, 54, 99]⟩ : ByteArray)) := (qcb hL (⟨#[27, 91, 63, 54, 99]⟩ : ByteArray))
   generalize bE : (qbx T (⟨#[27, 91, 63, 54, 99]⟩ : ByteArray)) = T194 at aw ax; have bF := ax; have cE := bF.all; obtain ⟨bG, cF, cG, cH, cI, cJ, cK, cL, cM, cN, cO, cP, Q⟩ := aw; obtain ⟨cQ, cR⟩ := Q.g1.head; have cS : Df t bG := fun e => Q.t1 (e ▸ Q.g1.inF); refine yE (nB (qM ?_)); have a0 := Ch.on bD (Ch.refl (· = t) av) A; have bH := Q.pk2 (Ch.refl (· = t) av) G a0; subst bE; refine ⟨rfl, TermAt.eq' (bH.mono (qr Z.size) (hI.moreOk (Nat.le_trans Z.size a0.size))) ?_, zt Z a0 iZ⟩; simp only [qbA, v, r, s, k, m, j, n, y, ↓reduceIte, Int.reduceEq, Int.reduceLT, Int.reduceLE, sB]
  refine qp (nB (qM ?_)); have bI := hI.scalar (T' := T) f u rfl rfl rfl rfl; have ay := hI.cht f; have bJ := bI.pk1 hI ay; refine ⟨rfl, TermAt.eq' bJ ?_, ay⟩; simp only [qbA, v, r, s, k, m, j, n, y, ↓reduceIte, Int.reduceEq, Int.reduceLT, Int.reduceLE, sB]
 refine yz 8 <| ycf <| qp (nB (qM ?_)); have bK := hI.scalar (T' := T) f u rfl rfl rfl rfl; have az := hI.cht f; have bL := bK.pk1 hI az; refine ⟨rfl, TermAt.eq' bL ?_, az⟩; simp only [qbA, v, r, s, k, m, j, n, ↓reduceIte, Int.reduceEq, Int.reduceLT, Int.reduceLE, sB]
set_option maxHeartbeats 4000000 in
theorem edit_at {w : World} {t : Nat} {W H : Int} {T : TS} {F : Nat → Prop} (hA0 : TermAt w t T F) (hT : LT w) (hL : Lim W H T) {ao : Option Nat} {an cc : Nat} {ac : Ac} (hV : IntsAt w .i64 ao an cc ac.params (fun b => ¬ F b ∧ b < w.heap.size)) (hV8 : an ≤ 8) (hVb : ∀ x ∈ ac.params, 0 ≤ x ∧ x ≤ 9999) (n : Int) (hn : 0 ≤ n ∧ n ≤ 100000) : Calls Tryz.prog 117 [pX t, .agg #[iX ac.kind, rX ac.rune, uX ac.last, .string ac.marks, .slice (ao.map at0) an cc, .string ac.text], iX n].toArray w fun e w' => e = .returned (.tuple #[]) ∧ TermAt w' t (qaJ T ac.last n ac.params) (more F w w') ∧ Ch F w w' := by
 obtain ⟨g, o, ba, bn, bc, pa, pn, pc, F1, F2, FB, FP, hI⟩ := hA0; have hA0 : TermAt w t T F := ⟨g, o, ba, bn, bc, pa, pn, pc, F1, F2, FB, FP, hI⟩
 have d := hI.inF.1; obtain ⟨gv, fc⟩ := hI.g1.head; have k2 : Df t g := fun e => hI.t1 (e ▸ hI.g1.inF); obtain ⟨⟨k3, k4⟩, ⟨k5, k6⟩, k7, k8⟩ := hI.g1.ok; have fd := hL; have k9 := fd.all; refine yA Tryz.func117 rfl <| ysr <| yo (yN [iX ac.kind, rX ac.rune, uX ac.last, .string ac.marks, .slice (ao.map at0) an cc, .string ac.text] 115 fun ka aV fe kb ff af => ?_); have kc : w.heap.size ≤ aV := by rw [fe]; exact zs (Ch.refl (· = t) w)
 have fg := zt (Ch.refl (· = t) w) af eZ; have fh := hI.blk.ch af id; have fi := fc.ch af id; have fj := qz af hT (fun _ h => h.elim); have fk := hV.ch af iZ; refine ye <| ys <| yDC [18] fun kd ke a5 => ?_; have cX := zt fg a5 eZ; have ag := fh.ch a5 id; have cY := fi.ch a5 id; have fl := qz a5 fj (fun _ h => h.elim); have fm := fk.ch a5 iZ; have cZ := ff.ch a5 id; refine ydC (uL 0 15) [] (fun u hu => (.l (qg hu (ag.c 2) id) (.l (qg hu (ag.c 3) id) (.a (qE hu (ag.cs 5 5) id) .z)))) <| yH 15 (yN [.bool false, .bool false, .bool false, iX 0, iX 0] 44 fun kf a6 fn kg fo L => ?_); have kh := zn fn cX; have fp := zt cX L eZ; have fq := ag.ch L id; have fr := cY.ch L id; have fs := qz L fl (fun _ h => h.elim); have ft := fm.ch L iZ; have fu := cZ.ch L id; refine qU L <| ydC [16, 17] [] (fun u hu => .z) <| yK 18 (yT [.bool T.cursor.sty.bold, .bool T.cursor.sty.under, .bool T.cursor.sty.turned, iX T.cursor.sty.fore, iX T.cursor.sty.back] fo fun B C a7 => ?_); have f := zt fp a7 (fun i hi (h : i = a6) => by omega); have q := fq.ch a7 (fun (h : t = a6) => by have := ag.lt; omega); have d0 := fr.ch a7 (fun (h : g = a6) => by have := cY.lt; omega); have D := qz a7 fs (fun b (h : b = a6) => by have := hI.hi t d; have := hI.blk.lt; omega); have I := ft.ch a7 (fun b hb (h : b = a6) => by have := hb.2; omega); have k := fu.ch a7 (fun (h : aV = a6) => by have := cZ.lt; omega); refine q9 <| yDe (nS ?_); refine ysr <| yp 7 [] (.l (q.c 26) .z) <| yw [31] (rM T.top T.cursor.y) (fun m => ?_) fun m => ?_
 ·refine yp 15 [] (.l (q.c 27) .z) <| ye <| ysr <| yp 2 [] (.l (k.c 2) .z) <| ye <| q8 <| yx 2 <| yc (rE ac.last 64) (fun j => ?_) fun j => ?_
  ·refine yD [8] fun ah ki ai => ?_; have d1 := zt f ai eZ; have d2 := q.ch ai id; have fv := qz ai D (fun _ h => h.elim); have fw := k.ch ai id; have d3 := C.ch ai id; refine yd (uL 0 8) [] (.l (d2.c 0) (.a (d3.cs 0 5) .z)) ?_; have M := hI.scalar (T' := T) d1 d2 rfl rfl rfl rfl; have fx : TermAt ah t T F := ⟨_, _, _, _, _, _, _, _, _, _, _, _, M⟩
   have bC : Ch F w ah := d1.mono (fun i _ h => h ▸ d); have kj := fw.lt; have kk := d3.lt; have bD := M.cht (Ch.refl (· = t) ah); have kl := M.pk1 M bD; have aW := M.mono (F' := more F ah ah) (fun _ h => .inl h) (M.moreOk bD.size); refine yK 8 (yQ (qgk _ _ _ (T.cursor.x) (T.cursor.y) (n) T.cursor.sty _ fv.tb aW.g1) ?_); rintro d4 ⟨fy, bE⟩; obtain ⟨d5, fz⟩ := TermAt.next fx bD (aW.chF bE) ⟨_, _, _, _, _, _, _, _, _, _, _, _, aW.grid1 bE fy (fun _ h => h)⟩; have km := aW.chF bE; have d6 : Lim W H ({ T with grid := (qd5 T.grid (T.cursor.x) (T.cursor.y) (n) T.cursor.sty) } : TS) := hL.grid (qd8 _ _ _ _ _); generalize fA : ({ T with grid := (qd5 T.grid (T.cursor.x) (T.cursor.y) (n) T.cursor.sty) } : TS) = T88 at d5 d6; have fB := d6; have kn := fB.all; obtain ⟨fC, ko, kp, kq, kr, ks, kt, ku, kv, kw, kx, ky, aX⟩ := d5; obtain ⟨kz, kA⟩ := aX.g1.head; have kB : Df t fC := fun e => aX.t1 (e ▸ aX.g1.inF); refine q9 <| yDe (nB (qM ?_)); have bF := Ch.on fz (Ch.refl (· = t) d4) d; have fD := aX.pk2 (Ch.refl (· = t) d4) M bF; subst fA; refine ⟨rfl, TermAt.eq' (fD.mono (qr bC.size) (hI.moreOk (Nat.le_trans bC.size bF.size))) ?_, zt bC bF iZ⟩; simp only [qaJ, m, j, ↓reduceIte, Int.reduceEq, Int.reduceLT, Int.reduceLE, sB]
  refine yx 2 <| yc (rE ac.last 80) (fun p => ?_) fun p => ?_
  ·refine yD [8] fun aj kC ak => ?_; have d7 := zt f ak eZ; have d8 := q.ch ak id; have fE := qz ak D (fun _ h => h.elim); have fF := k.ch ak id; have d9 := C.ch ak id; refine yd (uL 0 8) [] (.l (d8.c 0) (.a (d9.cs 0 5) .z)) ?_; have N := hI.scalar (T' := T) d7 d8 rfl rfl rfl rfl; have fG : TermAt aj t T F := ⟨_, _, _, _, _, _, _, _, _, _, _, _, N⟩
   have bG : Ch F w aj := d7.mono (fun i _ h => h ▸ d); have kD := fF.lt; have kE := d9.lt; have bH := N.cht (Ch.refl (· = t) aj); have kF := N.pk1 N bH; have aY := N.mono (F' := more F aj aj) (fun _ h => .inl h) (N.moreOk bH.size); refine yK 8 (yQ (qjf _ _ _ (T.cursor.x) (T.cursor.y) (n) T.cursor.sty _ fE.tb aY.g1) ?_); rintro da ⟨fH, bI⟩; obtain ⟨db, fI⟩ := TermAt.next fG bH (aY.chF bI) ⟨_, _, _, _, _, _, _, _, _, _, _, _, aY.grid1 bI fH (fun _ h => h)⟩; have kG := aY.chF bI; have dc : Lim W H ({ T with grid := (qdT T.grid (T.cursor.x) (T.cursor.y) (n) T.cursor.sty) } : TS) := hL.grid (qgq _ _ _ _ _); generalize fJ : ({ T with grid := (qdT T.grid (T.cursor.x) (T.cursor.y) (n) T.cursor.sty) } : TS) = T123 at db dc; have fK := dc; have kH := fK.all; obtain ⟨fL, kI, kJ, kK, kL, kM, kN, kO, kP, kQ, kR, kS, aZ⟩ := db; obtain ⟨kT, kU⟩ := aZ.g1.head; have kV : Df t fL := fun e => aZ.t1 (e ▸ aZ.g1.inF); refine q9 <| yDe (nB (qM ?_)); have bJ := Ch.on fI (Ch.refl (· = t) da) d; have fM := aZ.pk2 (Ch.refl (· = t) da) N bJ; subst fJ; refine ⟨rfl, TermAt.eq' (fM.mono (qr bG.size) (hI.moreOk (Nat.le_trans bG.size bJ.size))) ?_, zt bG bJ iZ⟩; simp only [qaJ, m, j, p, ↓reduceIte, Int.reduceEq, Int.reduceLT, Int.reduceLE, sB]
  refine yx 2 <| yc (rE ac.last 88) (fun r => ?_) fun r => ?_
  ·refine yD [10] fun al kW am => ?_; have dd := zt f am eZ; have de := q.ch am id; have fN := qz am D (fun _ h => h.elim); have fO := k.ch am id; have df := C.ch am id; refine yd (uL 0 10) [] (.l (de.c 0) (.q6 (T.cursor.x + n) (.a (df.cs 0 5) .z))) ?_; have O := hI.scalar (T' := T) dd de rfl rfl rfl rfl; have fP : TermAt al t T F := ⟨_, _, _, _, _, _, _, _, _, _, _, _, O⟩
   have bK : Ch F w al := dd.mono (fun i _ h => h ▸ d); have kX := fO.lt; have kY := df.lt; have bL := O.cht (Ch.refl (· = t) al); have kZ := O.pk1 O bL; have b0 := O.mono (F' := more F al al) (fun _ h => .inl h) (O.moreOk bL.size); refine yK 10 (yQ (qaK _ _ _ (T.cursor.y) (T.cursor.x) ((T.cursor.x + n)) T.cursor.sty _ fN.tb b0.g1) ?_); rintro dg ⟨fQ, bM⟩; obtain ⟨dh, fR⟩ := TermAt.next fP bL (b0.chF bM) ⟨_, _, _, _, _, _, _, _, _, _, _, _, b0.grid1 bM fQ (fun _ h => h)⟩; have l0 := b0.chF bM; have di : Lim W H ({ T with grid := (qT T.grid (T.cursor.y) (T.cursor.x) ((T.cursor.x + n)) T.cursor.sty) } : TS) := hL.grid (qad _ _ _ _ _); generalize fS : ({ T with grid := (qT T.grid (T.cursor.y) (T.cursor.x) ((T.cursor.x + n)) T.cursor.sty) } : TS) = T158 at dh di; have fT := di; have l1 := fT.all; obtain ⟨fU, l2, l3, l4, l5, l6, l7, l8, l9, la, lb, lc, b1⟩ := dh; obtain ⟨ld, lf⟩ := b1.g1.head; have lg : Df t fU := fun e => b1.t1 (e ▸ b1.g1.inF); refine q9 <| yDe (nB (qM ?_)); have bN := Ch.on fR (Ch.refl (· = t) dg) d; have fV := b1.pk2 (Ch.refl (· = t) dg) O bN; subst fS; refine ⟨rfl, TermAt.eq' (fV.mono (qr bK.size) (hI.moreOk (Nat.le_trans bK.size bN.size))) ?_, zt bK bN iZ⟩; simp only [qaJ, m, j, p, r, ↓reduceIte, Int.reduceEq, Int.reduceLT, Int.reduceLE, sB]
  refine yx 2 <| yc (rE ac.last 75) (fun v => ?_) fun v => ?_
  ·refine q7 <| yp 2 [] (.a (k.cs 0 6) .z) <| yo (yQ (qb2 I ac rfl) fun bO ap => ?_); have dj := zt f ap eZ; have fW := q.ch ap id; have fX := qz ap D (fun _ h => h.elim); have fY := k.ch ap id; have fZ := C.ch ap id; refine yp 6 [] (.q6 (T.cursor.y + 1) .z) ?_; have aq := hI.scalar (T' := T) dj fW rfl rfl rfl rfl; have g0 : TermAt bO t T F := ⟨_, _, _, _, _, _, _, _, _, _, _, _, aq⟩
   have bP : Ch F w bO := dj.mono (fun i _ h => h ▸ d); have lh := fY.lt; have li := fZ.lt; have dk := aq.cht (Ch.refl (· = t) bO); have g2 := aq.pk1 aq dk; refine yo (yQ (qcZ g2 fX hL  ((qI ac.params)) (T.cursor.y) ((T.cursor.y + 1)) (by constructor <;> omega)) ?_); rintro dl ⟨g3, g4⟩; obtain ⟨dm, g5⟩ := TermAt.next g0 dk g4 g3; have dn : Lim W H (qb0 T ((qI ac.params)) (T.cursor.y) ((T.cursor.y + 1))) := (qb1 hL ((qI ac.params)) (T.cursor.y) ((T.cursor.y + 1)))
   generalize g6 : (qb0 T ((qI ac.params)) (T.cursor.y) ((T.cursor.y + 1))) = T191 at dm dn; have g7 := dn; have lj := g7.all; obtain ⟨g8, lk, ll, lm, ln, lo, lp, lq, lr, ls, lu, lv, b2⟩ := dm; obtain ⟨lw, lx⟩ := b2.g1.head; have ly : Df t g8 := fun e => b2.t1 (e ▸ b2.g1.inF); refine yE (nB (qM ?_)); have bQ := Ch.on g5 (Ch.refl (· = t) dl) d; have g9 := b2.pk2 (Ch.refl (· = t) dl) aq bQ; subst g6; refine ⟨rfl, TermAt.eq' (g9.mono (qr bP.size) (hI.moreOk (Nat.le_trans bP.size bQ.size))) ?_, zt bP bQ iZ⟩; simp only [qaJ, m, j, p, r, v, ↓reduceIte, Int.reduceEq, Int.reduceLT, Int.reduceLE, sB]
  refine yx 2 <| yc (rE ac.last 74) (fun A => ?_) fun A => ?_
  ·refine ys <| ysr <| yp 1 [] (.a (k.cs 0 6) .z) <| yo (yQ (qb2 I ac rfl) fun ar P => ?_); have bR := zt f P eZ; have bS := q.ch P id; have ga := d0.ch P id; have dp := qz P D (fun _ h => h.elim); have dq := I.ch P iZ; have bT := k.ch P id; have dr := C.ch P id; refine yz 3 <| yc (rE (qI ac.params) 3) (fun s => ?_) fun s => ?_
   ·refine q7 <| yq 3 ?_; have J := hI.scalar (T' := T) bR bS rfl rfl rfl rfl; have ds : TermAt ar t T F := ⟨_, _, _, _, _, _, _, _, _, _, _, _, J⟩
    have bU : Ch F w ar := bR.mono (fun i _ h => h ▸ d); have lz := bT.lt; have lA := dr.lt; have bV := J.cht (Ch.refl (· = t) ar); have lB := J.pk1 J bV; have bW := J.mono (F' := more F ar ar) (fun _ h => .inl h) (J.moreOk bV.size); refine yo (qa1 97 [nX] none (by kernel_rfl) bS (qb5 (by kernel_rfl)) ?_); intro dt bX a8; replace bX : Blk dt t (TS.vals ({ T with back := [] } : TS) g o (nX) (.slice pa pn pc)) qV := Blk.to bX (by kernel_rfl); have gb := bW.nilBack a8 bX; obtain ⟨du, gc⟩ := TermAt.next ds bV (bW.cht a8) ⟨_, _, _, _, _, _, _, _, _, _, _, _, gb.mono (fun _ h => .inl h) (bW.moreOk a8.size)⟩; have gd := qz a8 dp (fun b (h : b = t) => h ▸ hI.hi t d); have gf := dq.ch a8 (fun b hb (h : b = t) => hb.1 (h ▸ d)); have gg := bT.ch a8 (fun (h : aV = t) => by have := hI.blk.lt; omega); have b3 : Lim W H ({ T with back := [] } : TS) := { hL with bk := by simp }
    generalize gh : ({ T with back := [] } : TS) = Q at du b3; have gi := b3; have lC := gi.all; obtain ⟨gj, lD, lE, lF, lG, lH, lI, lJ, lK, lL, lM, lN, au⟩ := du; obtain ⟨lO, gk⟩ := au.g1.head; have lP : Df t gj := fun e => au.t1 (e ▸ au.g1.inF); refine ye <| yDC [10] fun lQ lR a9 => ?_; have gl := zt (Ch.refl (· = t) dt) a9 eZ; have gm := qz a9 gd (fun _ h => h.elim); have gn := gf.ch a9 iZ; have gp := gg.ch a9 id; have dv := au.blk.ch a9 id; have gq := gk.ch a9 id; refine ydC [0, 1, 3, 4, 5, 6, 7, 8, 9] [] (fun u hu => (.a (qE hu (gp.cs 0 6) id) (.l (qg hu (dv.c 0) id) (.l (qg hu (gq.c 1) id) .z)))) <| yH 2 (yQ (qb2 gn ac rfl) fun lS b4 => ?_); have bY := zt gl b4 eZ; have gr := qz b4 gm (fun _ h => h.elim); have gs := dv.ch b4 id; refine qU b4 ?_; have gu := au.scalar (T' := Q) bY gs rfl rfl rfl rfl; have dw := Ch.on gc bY d; have gw := gu.pk2 bY J dw; refine yK 10 (yQ (qcZ gw gr b3  ((qI ac.params)) (0) (Q.grid.h) (by constructor <;> omega)) ?_); rintro dx ⟨gx, gy⟩; obtain ⟨dy, gz⟩ := TermAt.next ds dw gy gx; have dz : Lim W H (qb0 Q ((qI ac.params)) (0) (Q.grid.h)) := (qb1 b3 ((qI ac.params)) (0) (Q.grid.h))
    generalize gA : (qb0 Q ((qI ac.params)) (0) (Q.grid.h)) = T263 at dy dz; have gB := dz; have lT := gB.all; obtain ⟨gC, lU, lV, lW, lX, lY, lZ, m0, m1, m2, m3, m4, b5⟩ := dy; obtain ⟨m5, m6⟩ := b5.g1.head; have m7 : Df t gC := fun e => b5.t1 (e ▸ b5.g1.inF); refine q9 <| yDe (nB (qM ?_)); have bZ := Ch.on gz (Ch.refl (· = t) dx) d; have gD := b5.pk2 (Ch.refl (· = t) dx) J bZ; subst gA; subst gh; refine ⟨rfl, TermAt.eq' (gD.mono (qr bU.size) (hI.moreOk (Nat.le_trans bU.size bZ.size))) ?_, zt bU bZ iZ⟩; simp only [qaJ, m, j, p, r, v, A, s, ↓reduceIte, Int.reduceEq, Int.reduceLT, Int.reduceLE, sB]
   refine yk <| yDC [10] fun m8 m9 R => ?_; have gE := zt bR R eZ; have dA := bS.ch R id; have gF := ga.ch R id; have gG := qz R dp (fun _ h => h.elim); have gH := dq.ch R iZ; have dB := bT.ch R id; have gI := dr.ch R id; refine ydC [0, 1, 3, 4, 5, 6, 7, 8, 9] [] (fun u hu => (.a (qE hu (dB.cs 0 6) id) (.l (qg hu (dA.c 0) id) (.l (qg hu (gF.c 1) id) .z)))) <| yH 2 (yQ (qb2 gH ac rfl) fun c0 aa => ?_); have dC := zt gE aa eZ; have gJ := dA.ch aa id; have gK := qz aa gG (fun _ h => h.elim); have gL := dB.ch aa id; have gM := gI.ch aa id; refine qU aa ?_; have av := hI.scalar (T' := T) dC gJ rfl rfl rfl rfl; have gN : TermAt c0 t T F := ⟨_, _, _, _, _, _, _, _, _, _, _, _, av⟩
   have c1 : Ch F w c0 := dC.mono (fun i _ h => h ▸ d); have ma := gL.lt; have mb := gM.lt; have dD := av.cht (Ch.refl (· = t) c0); have gO := av.pk1 av dD; refine yK 10 (yQ (qcZ gO gK hL  ((qI ac.params)) (0) (T.grid.h) (by constructor <;> omega)) ?_); rintro dE ⟨gP, gQ⟩; obtain ⟨dF, gR⟩ := TermAt.next gN dD gQ gP; have dG : Lim W H (qb0 T ((qI ac.params)) (0) (T.grid.h)) := (qb1 hL ((qI ac.params)) (0) (T.grid.h))
   generalize gS : (qb0 T ((qI ac.params)) (0) (T.grid.h)) = T306 at dF dG; have gT := dG; have mc := gT.all; obtain ⟨gU, md, mf, mg, mh, mi, mj, mk, ml, mm, mn, mo, b6⟩ := dF; obtain ⟨mp, mq⟩ := b6.g1.head; have mr : Df t gU := fun e => b6.t1 (e ▸ b6.g1.inF); refine q9 <| yDe (nB (qM ?_)); have c2 := Ch.on gR (Ch.refl (· = t) dE) d; have gV := b6.pk2 (Ch.refl (· = t) dE) av c2; subst gS; refine ⟨rfl, TermAt.eq' (gV.mono (qr c1.size) (hI.moreOk (Nat.le_trans c1.size c2.size))) ?_, zt c1 c2 iZ⟩; simp only [qaJ, m, j, p, r, v, A, s, ↓reduceIte, Int.reduceEq, Int.reduceLT, Int.reduceLE, sB]
  refine yx 2 <| yc (rE ac.last 76) (fun s => ?_) fun s => ?_
  ·refine yx 1 <| yc (rL T.cursor.y T.bot) (fun E => ?_) fun E => ?_
   ·refine yD [11] fun aw ms ax => ?_; have dH := zt f ax eZ; have c3 := q.ch ax id; have gW := qz ax D (fun _ h => h.elim); have gX := k.ch ax id; have dI := C.ch ax id; refine yd (uL 0 11) [] (.l (c3.c 0) (.l (c3.c 27) (.a (dI.cs 0 5) .z))) ?_; have S := hI.scalar (T' := T) dH c3 rfl rfl rfl rfl; have gY : TermAt aw t T F := ⟨_, _, _, _, _, _, _, _, _, _, _, _, S⟩
    have c4 : Ch F w aw := dH.mono (fun i _ h => h ▸ d); have mt := gX.lt; have mu := dI.lt; have c5 := S.cht (Ch.refl (· = t) aw); have mv := S.pk1 S c5; have b7 := S.mono (F' := more F aw aw) (fun _ h => .inl h) (S.moreOk c5.size); refine yK 11 (yQ (qev _ _ _ (T.cursor.y) (T.bot) (n) T.cursor.sty _ gW.tb b7.g1) ?_); rintro dJ ⟨gZ, c6⟩; obtain ⟨dK, h0⟩ := TermAt.next gY c5 (b7.chF c6) ⟨_, _, _, _, _, _, _, _, _, _, _, _, b7.grid1 c6 gZ (fun _ h => h)⟩; have mw := b7.chF c6; have dL : Lim W H ({ T with grid := (qc7 T.grid (T.cursor.y) (T.bot) (n) T.cursor.sty) } : TS) := hL.grid ⟨rfl, rfl⟩; generalize h1 : ({ T with grid := (qc7 T.grid (T.cursor.y) (T.bot) (n) T.cursor.sty) } : TS) = T342 at dK dL; have h2 := dL; have mx := h2.all; obtain ⟨h3, mz, mA, mB, mC, mD, mE, mF, mG, mH, mI, mJ, b8⟩ := dK; obtain ⟨mK, mL⟩ := b8.g1.head; have mM : Df t h3 := fun e => b8.t1 (e ▸ b8.g1.inF); refine q9 <| yDe (nB (qM ?_)); have c7 := Ch.on h0 (Ch.refl (· = t) dJ) d; have h4 := b8.pk2 (Ch.refl (· = t) dJ) S c7; subst h1; refine ⟨rfl, TermAt.eq' (h4.mono (qr c4.size) (hI.moreOk (Nat.le_trans c4.size c7.size))) ?_, zt c4 c7 iZ⟩; simp only [qaJ, m, j, p, r, v, A, s, E, ↓reduceIte, Int.reduceEq, Int.reduceLT, Int.reduceLE, sB]
   refine qp (nB (qM ?_)); have h5 := hI.scalar (T' := T) f q rfl rfl rfl rfl; have dM := hI.cht f; have h6 := h5.pk1 hI dM; refine ⟨rfl, TermAt.eq' h6 ?_, dM⟩; simp only [qaJ, m, j, p, r, v, A, s, E, ↓reduceIte, Int.reduceEq, Int.reduceLT, Int.reduceLE, sB]
  refine yx 2 <| yc (rE ac.last 77) (fun E => ?_) fun E => ?_
  ·refine yx 1 <| yc (rL T.cursor.y T.bot) (fun G => ?_) fun G => ?_
   ·refine yD [11] fun ay mN az => ?_; have dN := zt f az eZ; have c8 := q.ch az id; have h7 := qz az D (fun _ h => h.elim); have h8 := k.ch az id; have dO := C.ch az id; refine yd (uL 0 11) [] (.l (c8.c 0) (.l (c8.c 27) (.a (dO.cs 0 5) .z))) ?_; have U := hI.scalar (T' := T) dN c8 rfl rfl rfl rfl; have h9 : TermAt ay t T F := ⟨_, _, _, _, _, _, _, _, _, _, _, _, U⟩
    have c9 : Ch F w ay := dN.mono (fun i _ h => h ▸ d); have mO := h8.lt; have mP := dO.lt; have ca := U.cht (Ch.refl (· = t) ay); have mQ := U.pk1 U ca; have b9 := U.mono (F' := more F ay ay) (fun _ h => .inl h) (U.moreOk ca.size); refine yK 11 (yC (up_any2 _ _ _ (T.cursor.y) (T.bot) (n) T.cursor.sty _ h7.tb b9.g1) ?_); rintro _ dP ⟨mR, rfl, ha, cb⟩; refine ⟨_, rfl, ?_⟩; obtain ⟨dQ, hc⟩ := TermAt.next h9 ca (b9.chF cb) ⟨_, _, _, _, _, _, _, _, _, _, _, _, b9.grid1 cb ha (fun _ h => h)⟩; have mS := b9.chF cb; have dR : Lim W H ({ T with grid := (upG T.grid (T.cursor.y) (T.bot) (n) T.cursor.sty) } : TS) := hL.grid ⟨rfl, rfl⟩; generalize hd : ({ T with grid := (upG T.grid (T.cursor.y) (T.bot) (n) T.cursor.sty) } : TS) = T382 at dQ dR; have hf := dR; have mT := hf.all; obtain ⟨hg, mU, mV, mW, mX, mY, mZ, n0, n1, n2, n3, n4, bb⟩ := dQ; obtain ⟨n5, n6⟩ := bb.g1.head; have n7 : Df t hg := fun e => bb.t1 (e ▸ bb.g1.inF); refine q9 <| yDe (nB (qM ?_)); have cd := Ch.on hc (Ch.refl (· = t) dP) d; have hh := bb.pk2 (Ch.refl (· = t) dP) U cd; subst hd; refine ⟨rfl, TermAt.eq' (hh.mono (qr c9.size) (hI.moreOk (Nat.le_trans c9.size cd.size))) ?_, zt c9 cd iZ⟩; simp only [qaJ, m, j, p, r, v, A, s, E, G, ↓reduceIte, Int.reduceEq, Int.reduceLT, Int.reduceLE, sB]
   refine qp (nB (qM ?_)); have hj := hI.scalar (T' := T) f q rfl rfl rfl rfl; have dS := hI.cht f; have hk := hj.pk1 hI dS; refine ⟨rfl, TermAt.eq' hk ?_, dS⟩; simp only [qaJ, m, j, p, r, v, A, s, E, G, ↓reduceIte, Int.reduceEq, Int.reduceLT, Int.reduceLE, sB]
  refine yx 2 <| yc (rE ac.last 83) (fun G => ?_) fun G => ?_
  ·refine q7 <| yq 2 ?_; have aA := hI.scalar (T' := T) f q rfl rfl rfl rfl; have hl : TermAt B t T F := ⟨_, _, _, _, _, _, _, _, _, _, _, _, aA⟩
   have ce : Ch F w B := f.mono (fun i _ h => h ▸ d); have n8 := k.lt; have n9 := C.lt; have dT := aA.cht (Ch.refl (· = t) B); have hm := aA.pk1 aA dT; refine yo (yQ (qfO hm D.tb hL  (n)) ?_); rintro dU ⟨ho, hp⟩; obtain ⟨dV, hq⟩ := TermAt.next hl dT hp ho; have dW : Lim W H (qar T (n)) := (qc8 hL (n))
   generalize hr : (qar T (n)) = T408 at dV dW; have hs := dW; have na := hs.all; obtain ⟨ht, nb, nc, nd, nf, ng, nh, ni, nj, nk, nl, nm, bd⟩ := dV; obtain ⟨nn, np⟩ := bd.g1.head; have nq : Df t ht := fun e => bd.t1 (e ▸ bd.g1.inF); refine yE (nB (qM ?_)); have cf := Ch.on hq (Ch.refl (· = t) dU) d; have hv := bd.pk2 (Ch.refl (· = t) dU) aA cf; subst hr; refine ⟨rfl, TermAt.eq' (hv.mono (qr ce.size) (hI.moreOk (Nat.le_trans ce.size cf.size))) ?_, zt ce cf iZ⟩; simp only [qaJ, m, j, p, r, v, A, s, E, G, ↓reduceIte, Int.reduceEq, Int.reduceLT, Int.reduceLE, sB]
  refine yx 2 <| yc (rE ac.last 84) (fun V => ?_) fun V => ?_
  ·refine yD [14] fun aB nr aC => ?_; have dX := zt f aC eZ; have bf := q.ch aC id; have hw := qz aC D (fun _ h => h.elim); have hx := k.ch aC id; have dY := C.ch aC id; refine yd (uL 0 14) [] (.l (bf.c 0) (.l (bf.c 26) (.l (bf.c 27) (.a (dY.cs 0 5) .z)))) ?_; have X := hI.scalar (T' := T) dX bf rfl rfl rfl rfl; have hy : TermAt aB t T F := ⟨_, _, _, _, _, _, _, _, _, _, _, _, X⟩
   have cg : Ch F w aB := dX.mono (fun i _ h => h ▸ d); have ns := hx.lt; have nt := dY.lt; have ci := X.cht (Ch.refl (· = t) aB); have nu := X.pk1 X ci; have bg := X.mono (F' := more F aB aB) (fun _ h => .inl h) (X.moreOk ci.size); refine yK 14 (yQ (qev _ _ _ (T.top) (T.bot) (n) T.cursor.sty _ hw.tb bg.g1) ?_); rintro dZ ⟨hz, cj⟩; obtain ⟨e0, hA⟩ := TermAt.next hy ci (bg.chF cj) ⟨_, _, _, _, _, _, _, _, _, _, _, _, bg.grid1 cj hz (fun _ h => h)⟩; have nv := bg.chF cj; have e1 : Lim W H ({ T with grid := (qc7 T.grid (T.top) (T.bot) (n) T.cursor.sty) } : TS) := hL.grid ⟨rfl, rfl⟩; generalize hB : ({ T with grid := (qc7 T.grid (T.top) (T.bot) (n) T.cursor.sty) } : TS) = T443 at e0 e1; have hC := e1; have nw := hC.all; obtain ⟨hD, nx, ny, nz, nA, nC, nD, nE, nF, nG, nH, nI, bh⟩ := e0; obtain ⟨nJ, nK⟩ := bh.g1.head; have nL : Df t hD := fun e => bh.t1 (e ▸ bh.g1.inF); refine q9 <| yDe (nB (qM ?_)); have ck := Ch.on hA (Ch.refl (· = t) dZ) d; have hE := bh.pk2 (Ch.refl (· = t) dZ) X ck; subst hB; refine ⟨rfl, TermAt.eq' (hE.mono (qr cg.size) (hI.moreOk (Nat.le_trans cg.size ck.size))) ?_, zt cg ck iZ⟩; simp only [qaJ, m, j, p, r, v, A, s, E, G, V, ↓reduceIte, Int.reduceEq, Int.reduceLT, Int.reduceLE, sB]
  refine q7 <| yp 2 [] (.a (k.cs 0 6) .z) ?_; have aD := hI.scalar (T' := T) f q rfl rfl rfl rfl; have hF : TermAt B t T F := ⟨_, _, _, _, _, _, _, _, _, _, _, _, aD⟩
  have aE : Ch F w B := f.mono (fun i _ h => h ▸ d); have nM := k.lt; have nN := C.lt; have cl := aD.cht (Ch.refl (· = t) B); have hG := aD.pk1 aD cl; have hH := I.mono (K' := fun b => ¬ more F B B b ∧ b < B.heap.size) (fun b hb => ⟨fun h => h.elim hb.1 (fun h => by have := hb.2; have := zs aE; omega), by have := hb.2; have := zs cl; have := zs aE; omega⟩); refine yo (yQ (qm7 hG D hL  hH hV8 hVb) ?_); rintro e2 ⟨hJ, hK⟩; obtain ⟨e3, hM⟩ := TermAt.next hF cl hK hJ; have e4 : Lim W H (qbA T ac.last (qI ac.params)) := (qez hL _ _)
  generalize hN : (qbA T ac.last (qI ac.params)) = T466 at e3 e4; have hO := e4; have nO := hO.all; obtain ⟨hP, nP, nQ, nR, nT, nU, nV, nW, nY, nZ, o0, o1, bi⟩ := e3; obtain ⟨o2, o3⟩ := bi.g1.head; have o4 : Df t hP := fun e => bi.t1 (e ▸ bi.g1.inF); refine yE (nB (qM ?_)); have cm := Ch.on hM (Ch.refl (· = t) e2) d; have hQ := bi.pk2 (Ch.refl (· = t) e2) aD cm; subst hN; refine ⟨rfl, TermAt.eq' (hQ.mono (qr aE.size) (hI.moreOk (Nat.le_trans aE.size cm.size))) ?_, zt aE cm iZ⟩; simp only [qaJ, m, j, p, r, v, A, s, E, G, V, ↓reduceIte, Int.reduceEq, Int.reduceLT, Int.reduceLE, sB]
 refine yz 15 <| ysr <| yp 2 [] (.l (k.c 2) .z) <| ye <| q8 <| yx 2 <| yc (rE ac.last 64) (fun j => ?_) fun j => ?_
 ·refine yD [8] fun aF o5 aG => ?_; have e5 := zt f aG eZ; have e6 := q.ch aG id; have hR := qz aG D (fun _ h => h.elim); have hS := k.ch aG id; have e7 := C.ch aG id; refine yd (uL 0 8) [] (.l (e6.c 0) (.a (e7.cs 0 5) .z)) ?_; have Y := hI.scalar (T' := T) e5 e6 rfl rfl rfl rfl; have hU : TermAt aF t T F := ⟨_, _, _, _, _, _, _, _, _, _, _, _, Y⟩
  have cn : Ch F w aF := e5.mono (fun i _ h => h ▸ d); have o6 := hS.lt; have o7 := e7.lt; have co := Y.cht (Ch.refl (· = t) aF); have o8 := Y.pk1 Y co; have bj := Y.mono (F' := more F aF aF) (fun _ h => .inl h) (Y.moreOk co.size); refine yK 8 (yQ (qgk _ _ _ (T.cursor.x) (T.cursor.y) (n) T.cursor.sty _ hR.tb bj.g1) ?_); rintro e8 ⟨hW, cp⟩; obtain ⟨e9, hX⟩ := TermAt.next hU co (bj.chF cp) ⟨_, _, _, _, _, _, _, _, _, _, _, _, bj.grid1 cp hW (fun _ h => h)⟩; have o9 := bj.chF cp; have ea : Lim W H ({ T with grid := (qd5 T.grid (T.cursor.x) (T.cursor.y) (n) T.cursor.sty) } : TS) := hL.grid (qd8 _ _ _ _ _); generalize hY : ({ T with grid := (qd5 T.grid (T.cursor.x) (T.cursor.y) (n) T.cursor.sty) } : TS) = T501 at e9 ea; have hZ := ea; have oa := hZ.all; obtain ⟨ia, ob, oc, od, oe, og, oh, oi, oj, ol, om, oo, bl⟩ := e9; obtain ⟨op, oq⟩ := bl.g1.head; have os : Df t ia := fun e => bl.t1 (e ▸ bl.g1.inF); refine q9 <| yDe (nB (qM ?_)); have cq := Ch.on hX (Ch.refl (· = t) e8) d; have ib := bl.pk2 (Ch.refl (· = t) e8) Y cq; subst hY; refine ⟨rfl, TermAt.eq' (ib.mono (qr cn.size) (hI.moreOk (Nat.le_trans cn.size cq.size))) ?_, zt cn cq iZ⟩; simp only [qaJ, m, j, ↓reduceIte, Int.reduceEq, Int.reduceLT, Int.reduceLE, sB]
 refine yx 2 <| yc (rE ac.last 80) (fun p => ?_) fun p => ?_
 ·refine yD [8] fun aH ot aI => ?_; have eb := zt f aI eZ; have ec := q.ch aI id; have ic := qz aI D (fun _ h => h.elim); have ie := k.ch aI id; have ed := C.ch aI id; refine yd (uL 0 8) [] (.l (ec.c 0) (.a (ed.cs 0 5) .z)) ?_; have Z := hI.scalar (T' := T) eb ec rfl rfl rfl rfl; have ig : TermAt aH t T F := ⟨_, _, _, _, _, _, _, _, _, _, _, _, Z⟩
  have cr : Ch F w aH := eb.mono (fun i _ h => h ▸ d); have ou := ie.lt; have ov := ed.lt; have ct := Z.cht (Ch.refl (· = t) aH); have ow := Z.pk1 Z ct; have bm := Z.mono (F' := more F aH aH) (fun _ h => .inl h) (Z.moreOk ct.size); refine yK 8 (yQ (qjf _ _ _ (T.cursor.x) (T.cursor.y) (n) T.cursor.sty _ ic.tb bm.g1) ?_); rintro ee ⟨ih, cu⟩; obtain ⟨ef, ii⟩ := TermAt.next ig ct (bm.chF cu) ⟨_, _, _, _, _, _, _, _, _, _, _, _, bm.grid1 cu ih (fun _ h => h)⟩; have ox := bm.chF cu; have eg : Lim W H ({ T with grid := (qdT T.grid (T.cursor.x) (T.cursor.y) (n) T.cursor.sty) } : TS) := hL.grid (qgq _ _ _ _ _); generalize ij : ({ T with grid := (qdT T.grid (T.cursor.x) (T.cursor.y) (n) T.cursor.sty) } : TS) = T536 at ef eg; have ik := eg; have oy := ik.all; obtain ⟨il, oz, oA, oB, oC, oD, oE, oF, oG, oH, oI, oJ, bo⟩ := ef; obtain ⟨oK, oL⟩ := bo.g1.head; have oM : Df t il := fun e => bo.t1 (e ▸ bo.g1.inF); refine q9 <| yDe (nB (qM ?_)); have cv := Ch.on ii (Ch.refl (· = t) ee) d; have im := bo.pk2 (Ch.refl (· = t) ee) Z cv; subst ij; refine ⟨rfl, TermAt.eq' (im.mono (qr cr.size) (hI.moreOk (Nat.le_trans cr.size cv.size))) ?_, zt cr cv iZ⟩; simp only [qaJ, m, j, p, ↓reduceIte, Int.reduceEq, Int.reduceLT, Int.reduceLE, sB]
 refine yx 2 <| yc (rE ac.last 88) (fun r => ?_) fun r => ?_
 ·refine yD [10] fun aJ oN aK => ?_; have eh := zt f aK eZ; have ei := q.ch aK id; have io := qz aK D (fun _ h => h.elim); have ip := k.ch aK id; have ej := C.ch aK id; refine yd (uL 0 10) [] (.l (ei.c 0) (.q6 (T.cursor.x + n) (.a (ej.cs 0 5) .z))) ?_; have a0 := hI.scalar (T' := T) eh ei rfl rfl rfl rfl; have iq : TermAt aJ t T F := ⟨_, _, _, _, _, _, _, _, _, _, _, _, a0⟩
  have cw : Ch F w aJ := eh.mono (fun i _ h => h ▸ d); have oO := ip.lt; have oP := ej.lt; have cx := a0.cht (Ch.refl (· = t) aJ); have oQ := a0.pk1 a0 cx; have bp := a0.mono (F' := more F aJ aJ) (fun _ h => .inl h) (a0.moreOk cx.size); refine yK 10 (yQ (qaK _ _ _ (T.cursor.y) (T.cursor.x) ((T.cursor.x + n)) T.cursor.sty _ io.tb bp.g1) ?_); rintro ek ⟨ir, cy⟩; obtain ⟨el, iu⟩ := TermAt.next iq cx (bp.chF cy) ⟨_, _, _, _, _, _, _, _, _, _, _, _, bp.grid1 cy ir (fun _ h => h)⟩; have oR := bp.chF cy; have em : Lim W H ({ T with grid := (qT T.grid (T.cursor.y) (T.cursor.x) ((T.cursor.x + n)) T.cursor.sty) } : TS) := hL.grid (qad _ _ _ _ _); generalize iv : ({ T with grid := (qT T.grid (T.cursor.y) (T.cursor.x) ((T.cursor.x + n)) T.cursor.sty) } : TS) = T571 at el em; have iw := em; have oS := iw.all; obtain ⟨ix, oT, oU, oV, oW, oX, oY, oZ, pb, pd, pe, pf, bq⟩ := el; obtain ⟨pg, ph⟩ := bq.g1.head; have pi : Df t ix := fun e => bq.t1 (e ▸ bq.g1.inF); refine q9 <| yDe (nB (qM ?_)); have cz := Ch.on iu (Ch.refl (· = t) ek) d; have iy := bq.pk2 (Ch.refl (· = t) ek) a0 cz; subst iv; refine ⟨rfl, TermAt.eq' (iy.mono (qr cw.size) (hI.moreOk (Nat.le_trans cw.size cz.size))) ?_, zt cw cz iZ⟩; simp only [qaJ, m, j, p, r, ↓reduceIte, Int.reduceEq, Int.reduceLT, Int.reduceLE, sB]
 refine yx 2 <| yc (rE ac.last 75) (fun v => ?_) fun v => ?_
 ·refine q7 <| yp 2 [] (.a (k.cs 0 6) .z) <| yo (yQ (qb2 I ac rfl) fun cA aL => ?_); have en := zt f aL eZ; have iz := q.ch aL id; have iA := qz aL D (fun _ h => h.elim); have iB := k.ch aL id; have iC := C.ch aL id; refine yp 6 [] (.q6 (T.cursor.y + 1) .z) ?_; have aM := hI.scalar (T' := T) en iz rfl rfl rfl rfl; have iD : TermAt cA t T F := ⟨_, _, _, _, _, _, _, _, _, _, _, _, aM⟩
  have cB : Ch F w cA := en.mono (fun i _ h => h ▸ d); have pj := iB.lt; have pk := iC.lt; have eo := aM.cht (Ch.refl (· = t) cA); have iE := aM.pk1 aM eo; refine yo (yQ (qcZ iE iA hL  ((qI ac.params)) (T.cursor.y) ((T.cursor.y + 1)) (by constructor <;> omega)) ?_); rintro ep ⟨iF, iG⟩; obtain ⟨er, iH⟩ := TermAt.next iD eo iG iF; have es : Lim W H (qb0 T ((qI ac.params)) (T.cursor.y) ((T.cursor.y + 1))) := (qb1 hL ((qI ac.params)) (T.cursor.y) ((T.cursor.y + 1)))
  generalize iI : (qb0 T ((qI ac.params)) (T.cursor.y) ((T.cursor.y + 1))) = T604 at er es; have iJ := es; have pl := iJ.all; obtain ⟨iK, pm, po, pp, pq, pr, ps, pt, pu, pv, pw, px, br⟩ := er; obtain ⟨py, pz⟩ := br.g1.head; have pA : Df t iK := fun e => br.t1 (e ▸ br.g1.inF); refine yE (nB (qM ?_)); have cC := Ch.on iH (Ch.refl (· = t) ep) d; have iL := br.pk2 (Ch.refl (· = t) ep) aM cC; subst iI; refine ⟨rfl, TermAt.eq' (iL.mono (qr cB.size) (hI.moreOk (Nat.le_trans cB.size cC.size))) ?_, zt cB cC iZ⟩; simp only [qaJ, m, j, p, r, v, ↓reduceIte, Int.reduceEq, Int.reduceLT, Int.reduceLE, sB]
 refine yx 2 <| yc (rE ac.last 74) (fun A => ?_) fun A => ?_
 ·refine ys <| ysr <| yp 1 [] (.a (k.cs 0 6) .z) <| yo (yQ (qb2 I ac rfl) fun aN a1 => ?_); have cD := zt f a1 eZ; have cE := q.ch a1 id; have iM := d0.ch a1 id; have et := qz a1 D (fun _ h => h.elim); have eu := I.ch a1 iZ; have cF := k.ch a1 id; have ev := C.ch a1 id; refine yz 3 <| yc (rE (qI ac.params) 3) (fun s => ?_) fun s => ?_
  ·refine q7 <| yq 3 ?_; have K := hI.scalar (T' := T) cD cE rfl rfl rfl rfl; have ew : TermAt aN t T F := ⟨_, _, _, _, _, _, _, _, _, _, _, _, K⟩
   have cG : Ch F w aN := cD.mono (fun i _ h => h ▸ d); have pB := cF.lt; have pC := ev.lt; have cH := K.cht (Ch.refl (· = t) aN); have pD := K.pk1 K cH; have cI := K.mono (F' := more F aN aN) (fun _ h => .inl h) (K.moreOk cH.size); refine yo (qa1 97 [nX] none (by kernel_rfl) cE (qb5 (by kernel_rfl)) ?_); intro ex cJ ab; replace cJ : Blk ex t (TS.vals ({ T with back := [] } : TS) g o (nX) (.slice pa pn pc)) qV := Blk.to cJ (by kernel_rfl); have iN := cI.nilBack ab cJ; obtain ⟨ey, iO⟩ := TermAt.next ew cH (cI.cht ab) ⟨_, _, _, _, _, _, _, _, _, _, _, _, iN.mono (fun _ h => .inl h) (cI.moreOk ab.size)⟩; have iP := qz ab et (fun b (h : b = t) => h ▸ hI.hi t d); have iQ := eu.ch ab (fun b hb (h : b = t) => hb.1 (h ▸ d)); have iR := cF.ch ab (fun (h : aV = t) => by have := hI.blk.lt; omega); have bs : Lim W H ({ T with back := [] } : TS) := { hL with bk := by simp }
   generalize iS : ({ T with back := [] } : TS) = a2 at ey bs; have iT := bs; have pE := iT.all; obtain ⟨iU, pF, pG, pH, pI, pJ, pK, pL, pM, pN, pO, pP, aO⟩ := ey; obtain ⟨pQ, iV⟩ := aO.g1.head; have pR : Df t iU := fun e => aO.t1 (e ▸ aO.g1.inF); refine ye <| yDC [10] fun pS pT ad => ?_; have iW := zt (Ch.refl (· = t) ex) ad eZ; have iY := qz ad iP (fun _ h => h.elim); have j0 := iQ.ch ad iZ; have j1 := iR.ch ad id; have ez := aO.blk.ch ad id; have j2 := iV.ch ad id; refine ydC [0, 1, 3, 4, 5, 6, 7, 8, 9] [] (fun u hu => (.a (qE hu (j1.cs 0 6) id) (.l (qg hu (ez.c 0) id) (.l (qg hu (j2.c 1) id) .z)))) <| yH 2 (yQ (qb2 j0 ac rfl) fun pU bt => ?_); have cK := zt iW bt eZ; have j3 := qz bt iY (fun _ h => h.elim); have j4 := ez.ch bt id; refine qU bt ?_; have j5 := aO.scalar (T' := a2) cK j4 rfl rfl rfl rfl; have eA := Ch.on iO cK d; have j6 := j5.pk2 cK K eA; refine yK 10 (yQ (qcZ j6 j3 bs  ((qI ac.params)) (0) (a2.grid.h) (by constructor <;> omega)) ?_); rintro eB ⟨j7, j8⟩; obtain ⟨eC, j9⟩ := TermAt.next ew eA j8 j7; have eD : Lim W H (qb0 a2 ((qI ac.params)) (0) (a2.grid.h)) := (qb1 bs ((qI ac.params)) (0) (a2.grid.h))
   generalize ja : (qb0 a2 ((qI ac.params)) (0) (a2.grid.h)) = T676 at eC eD; have jb := eD; have pV := jb.all; obtain ⟨jc, pW, pY, pZ, r0, r1, r2, r3, r4, r5, r6, r7, bu⟩ := eC; obtain ⟨r8, r9⟩ := bu.g1.head; have ra : Df t jc := fun e => bu.t1 (e ▸ bu.g1.inF); refine q9 <| yDe (nB (qM ?_)); have cL := Ch.on j9 (Ch.refl (· = t) eB) d; have jd := bu.pk2 (Ch.refl (· = t) eB) K cL; subst ja; subst iS; refine ⟨rfl, TermAt.eq' (jd.mono (qr cG.size) (hI.moreOk (Nat.le_trans cG.size cL.size))) ?_, zt cG cL iZ⟩; simp only [qaJ, m, j, p, r, v, A, s, ↓reduceIte, Int.reduceEq, Int.reduceLT, Int.reduceLE, sB]
  refine yk <| yDC [10] fun rb rc a3 => ?_; have je := zt cD a3 eZ; have eE := cE.ch a3 id; have jf := iM.ch a3 id; have jg := qz a3 et (fun _ h => h.elim); have jh := eu.ch a3 iZ; have eF := cF.ch a3 id; have ji := ev.ch a3 id; refine ydC [0, 1, 3, 4, 5, 6, 7, 8, 9] [] (fun u hu => (.a (qE hu (eF.cs 0 6) id) (.l (qg hu (eE.c 0) id) (.l (qg hu (jf.c 1) id) .z)))) <| yH 2 (yQ (qb2 jh ac rfl) fun cM ae => ?_); have eG := zt je ae eZ; have jj := eE.ch ae id; have jk := qz ae jg (fun _ h => h.elim); have jl := eF.ch ae id; have jm := ji.ch ae id; refine qU ae ?_; have aP := hI.scalar (T' := T) eG jj rfl rfl rfl rfl; have jn : TermAt cM t T F := ⟨_, _, _, _, _, _, _, _, _, _, _, _, aP⟩
  have cN : Ch F w cM := eG.mono (fun i _ h => h ▸ d); have rd := jl.lt; have re := jm.lt; have eH := aP.cht (Ch.refl (· = t) cM); have jo := aP.pk1 aP eH; refine yK 10 (yQ (qcZ jo jk hL  ((qI ac.params)) (0) (T.grid.h) (by constructor <;> omega)) ?_); rintro eI ⟨jp, jq⟩; obtain ⟨eJ, jr⟩ := TermAt.next jn eH jq jp; have eK : Lim W H (qb0 T ((qI ac.params)) (0) (T.grid.h)) := (qb1 hL ((qI ac.params)) (0) (T.grid.h))
  generalize js : (qb0 T ((qI ac.params)) (0) (T.grid.h)) = T719 at eJ eK; have jt := eK; have rf := jt.all; obtain ⟨ju, rg, rh, ri, rj, rk, rl, rm, rn, ro, rp, rq, bv⟩ := eJ; obtain ⟨rr, rs⟩ := bv.g1.head; have rt : Df t ju := fun e => bv.t1 (e ▸ bv.g1.inF); refine q9 <| yDe (nB (qM ?_)); have cO := Ch.on jr (Ch.refl (· = t) eI) d; have jv := bv.pk2 (Ch.refl (· = t) eI) aP cO; subst js; refine ⟨rfl, TermAt.eq' (jv.mono (qr cN.size) (hI.moreOk (Nat.le_trans cN.size cO.size))) ?_, zt cN cO iZ⟩; simp only [qaJ, m, j, p, r, v, A, s, ↓reduceIte, Int.reduceEq, Int.reduceLT, Int.reduceLE, sB]
 refine yx 2 <| yc (rE ac.last 76) (fun s => ?_) fun s => ?_
 ·refine yx 1 <| ycf <| qp (nB (qM ?_)); have jw := hI.scalar (T' := T) f q rfl rfl rfl rfl; have eL := hI.cht f; have jx := jw.pk1 hI eL; refine ⟨rfl, TermAt.eq' jx ?_, eL⟩; simp only [qaJ, m, j, p, r, v, A, s, ↓reduceIte, Int.reduceEq, Int.reduceLT, Int.reduceLE, sB]
 refine yx 2 <| yc (rE ac.last 77) (fun E => ?_) fun E => ?_
 ·refine yx 1 <| ycf <| qp (nB (qM ?_)); have jy := hI.scalar (T' := T) f q rfl rfl rfl rfl; have eM := hI.cht f; have jz := jy.pk1 hI eM; refine ⟨rfl, TermAt.eq' jz ?_, eM⟩; simp only [qaJ, m, j, p, r, v, A, s, E, ↓reduceIte, Int.reduceEq, Int.reduceLT, Int.reduceLE, sB]
 refine yx 2 <| yc (rE ac.last 83) (fun G => ?_) fun G => ?_
 ·refine q7 <| yq 2 ?_; have aQ := hI.scalar (T' := T) f q rfl rfl rfl rfl; have jA : TermAt B t T F := ⟨_, _, _, _, _, _, _, _, _, _, _, _, aQ⟩
  have cP : Ch F w B := f.mono (fun i _ h => h ▸ d); have ru := k.lt; have rv := C.lt; have eN := aQ.cht (Ch.refl (· = t) B); have jB := aQ.pk1 aQ eN; refine yo (yQ (qfO jB D.tb hL  (n)) ?_); rintro eO ⟨jC, jD⟩; obtain ⟨eP, jE⟩ := TermAt.next jA eN jD jC; have eQ : Lim W H (qar T (n)) := (qc8 hL (n))
  generalize jF : (qar T (n)) = T750 at eP eQ; have jG := eQ; have rx := jG.all; obtain ⟨jH, ry, rz, rA, rB, rC, rD, rF, rG, rH, rI, rJ, bw⟩ := eP; obtain ⟨rK, rN⟩ := bw.g1.head; have rO : Df t jH := fun e => bw.t1 (e ▸ bw.g1.inF); refine yE (nB (qM ?_)); have cQ := Ch.on jE (Ch.refl (· = t) eO) d; have jI := bw.pk2 (Ch.refl (· = t) eO) aQ cQ; subst jF; refine ⟨rfl, TermAt.eq' (jI.mono (qr cP.size) (hI.moreOk (Nat.le_trans cP.size cQ.size))) ?_, zt cP cQ iZ⟩; simp only [qaJ, m, j, p, r, v, A, s, E, G, ↓reduceIte, Int.reduceEq, Int.reduceLT, Int.reduceLE, sB]
 refine yx 2 <| yc (rE ac.last 84) (fun V => ?_) fun V => ?_
 ·refine yD [14] fun aR rP aS => ?_; have eR := zt f aS eZ; have bx := q.ch aS id; have jJ := qz aS D (fun _ h => h.elim); have jK := k.ch aS id; have eS := C.ch aS id; refine yd (uL 0 14) [] (.l (bx.c 0) (.l (bx.c 26) (.l (bx.c 27) (.a (eS.cs 0 5) .z)))) ?_; have a4 := hI.scalar (T' := T) eR bx rfl rfl rfl rfl; have jL : TermAt aR t T F := ⟨_, _, _, _, _, _, _, _, _, _, _, _, a4⟩
  have cR : Ch F w aR := eR.mono (fun i _ h => h ▸ d); have rQ := jK.lt; have rR := eS.lt; have cS := a4.cht (Ch.refl (· = t) aR); have rS := a4.pk1 a4 cS; have bz := a4.mono (F' := more F aR aR) (fun _ h => .inl h) (a4.moreOk cS.size); refine yK 14 (yQ (qev _ _ _ (T.top) (T.bot) (n) T.cursor.sty _ jJ.tb bz.g1) ?_); rintro eT ⟨jM, cT⟩; obtain ⟨eU, jN⟩ := TermAt.next jL cS (bz.chF cT) ⟨_, _, _, _, _, _, _, _, _, _, _, _, bz.grid1 cT jM (fun _ h => h)⟩; have rT := bz.chF cT; have eV : Lim W H ({ T with grid := (qc7 T.grid (T.top) (T.bot) (n) T.cursor.sty) } : TS) := hL.grid ⟨rfl, rfl⟩; generalize jO : ({ T with grid := (qc7 T.grid (T.top) (T.bot) (n) T.cursor.sty) } : TS) = T785 at eU eV; have jP := eV; have rU := jP.all; obtain ⟨jQ, rV, rW, rY, rZ, s0, s1, s2, s3, s4, s5, s6, bA⟩ := eU; obtain ⟨s7, s8⟩ := bA.g1.head; have s9 : Df t jQ := fun e => bA.t1 (e ▸ bA.g1.inF); refine q9 <| yDe (nB (qM ?_)); have cU := Ch.on jN (Ch.refl (· = t) eT) d; have jR := bA.pk2 (Ch.refl (· = t) eT) a4 cU; subst jO; refine ⟨rfl, TermAt.eq' (jR.mono (qr cR.size) (hI.moreOk (Nat.le_trans cR.size cU.size))) ?_, zt cR cU iZ⟩; simp only [qaJ, m, j, p, r, v, A, s, E, G, V, ↓reduceIte, Int.reduceEq, Int.reduceLT, Int.reduceLE, sB]
 refine q7 <| yp 2 [] (.a (k.cs 0 6) .z) ?_; have aT := hI.scalar (T' := T) f q rfl rfl rfl rfl; have jS : TermAt B t T F := ⟨_, _, _, _, _, _, _, _, _, _, _, _, aT⟩
 have aU : Ch F w B := f.mono (fun i _ h => h ▸ d); have sa := k.lt; have sb := C.lt; have cV := aT.cht (Ch.refl (· = t) B); have jT := aT.pk1 aT cV; have jU := I.mono (K' := fun b => ¬ more F B B b ∧ b < B.heap.size) (fun b hb => ⟨fun h => h.elim hb.1 (fun h => by have := hb.2; have := zs aU; omega), by have := hb.2; have := zs cV; have := zs aU; omega⟩); refine yo (yQ (qm7 jT D hL  jU hV8 hVb) ?_); rintro eW ⟨jV, jW⟩; obtain ⟨eX, jX⟩ := TermAt.next jS cV jW jV; have eY : Lim W H (qbA T ac.last (qI ac.params)) := (qez hL _ _)
 generalize jY : (qbA T ac.last (qI ac.params)) = T808 at eX eY; have jZ := eY; have sc := jZ.all; obtain ⟨k0, sd, se, sf, sg, sh, si, sj, sk, sl, sm, sn, bB⟩ := eX; obtain ⟨sp, sq⟩ := bB.g1.head; have sr : Df t k0 := fun e => bB.t1 (e ▸ bB.g1.inF); refine yE (nB (qM ?_)); have cW := Ch.on jX (Ch.refl (· = t) eW) d; have k1 := bB.pk2 (Ch.refl (· = t) eW) aT cW; subst jY; refine ⟨rfl, TermAt.eq' (k1.mono (qr aU.size) (hI.moreOk (Nat.le_trans aU.size cW.size))) ?_, zt aU cW iZ⟩; simp only [qaJ, m, j, p, r, v, A, s, E, G, V, ↓reduceIte, Int.reduceEq, Int.reduceLT, Int.reduceLE, sB]
theorem qbM {w : World} {t : Nat} {W H : Int} {T : TS} {F : Nat → Prop} (hA : TermAt w t T F) (hT : qa4 w) (hL : Lim W H T) (x y : Int) (hx : -100000 ≤ x ∧ x ≤ 100000) (hy : -100000 ≤ y ∧ y ≤ 100000) : Calls Tryz.prog 115 [pX t, iX x, iX y].toArray w fun e w' => e = .returned (.tuple #[]) ∧ TermAt w' t (qaV T x y) (more F w w') ∧ Ch F w w' :=
  home_at hA (by have := hL.tb; have := hL.hb; omega) x y (by omega) (by omega)
set_option maxHeartbeats 4000000 in
theorem plain_at {w : World} {t : Nat} {W H : Int} {T : TS} {F : Nat → Prop} (hA0 : TermAt w t T F) (hT : LT w) (hL : Lim W H T) {ao : Option Nat} {an cc : Nat} {ac : Ac} (hV : IntsAt w .i64 ao an cc ac.params (fun b => ¬ F b ∧ b < w.heap.size)) (hV8 : an ≤ 8) (hVb : ∀ x ∈ ac.params, 0 ≤ x ∧ x ≤ 9999) : Calls Tryz.prog 101 [pX t, .agg #[iX ac.kind, rX ac.rune, uX ac.last, .string ac.marks, .slice (ao.map at0) an cc, .string ac.text]].toArray w fun e w' => e = .returned (.tuple #[]) ∧ TermAt w' t (qa5 T ac.last ac.params) (more F w w') ∧ Ch F w w' := by
 obtain ⟨g, o, ba, bn, bc, pa, pn, pc, F1, F2, FB, FP, hI⟩ := hA0; have hA0 : TermAt w t T F := ⟨g, o, ba, bn, bc, pa, pn, pc, F1, F2, FB, FP, hI⟩
 have d := hI.inF.1; obtain ⟨gv, dm⟩ := hI.g1.head; have hz : Df t g := fun e => hI.t1 (e ▸ hI.g1.inF); obtain ⟨⟨hA, hB⟩, ⟨hC, hD⟩, hE, hF⟩ := hI.g1.ok; have dn := hL; have hG := dn.all; have hH := qcX ac.params 0; have hJ := qhD hVb 0; have hK := qcX ac.params 1; have hM := qhD hVb 1; refine yA Tryz.func101 rfl <| ysr <| yo (yN [iX ac.kind, rX ac.rune, uX ac.last, .string ac.marks, .slice (ao.map at0) an cc, .string ac.text] 115 fun hN L dp hO bF S => ?_); have hP : w.heap.size ≤ L := by rw [dp]; exact zs (Ch.refl (· = t) w)
 have dq := zt (Ch.refl (· = t) w) S eZ; have dr := hI.blk.ch S id; have ds := dm.ch S id; have dt := qz S hT (fun _ h => h.elim); have bG := hV.ch S iZ; refine ye <| ysr <| yp 1 [] (.a (bF.cs 0 6) .z) <| yo (yQ (qeS bG ac rfl 0) fun hQ O => ?_); have du := zt dq O eZ; have dv := dr.ch O id; have dw := ds.ch O id; have dx := qz O dt (fun _ h => h.elim); have dy := bG.ch O iZ; have dz := bF.ch O id; refine yz 3 <| ys <| yD [] fun f hR P => ?_; have j := zt du P eZ; have k := dv.ch P id; have U := dw.ch P id; have u := qz P dx (fun _ h => h.elim); have Q := dy.ch P iZ; have m := dz.ch P id; refine yd (uL 0 12) [] (.l (k.c 2) (.l (k.c 3) .z)) <| yDe (nS ?_); refine ysr <| yp 2 [] (.l (m.c 2) .z) <| ye <| q8 <| yx 2 <| yc (rE ac.last 65) (fun q => ?_) fun q => ?_
 ·refine yx 1 <| ys <| ysr <| yp 6 [] (.l (k.c 26) .z) <| ye <| yc (rM T.top T.cursor.y) (fun n => ?_) fun n => ?_
  ·refine q7 <| yp 5 [] (.l (k.c 26) .z) <| ye <| q7 <| yp 7 [] (.q6 (T.cursor.y - (qi ac.params 0)) .z) ?_; have V := hI.scalar (T' := T) j k rfl rfl rfl rfl; have dA : TermAt f t T F := ⟨_, _, _, _, _, _, _, _, _, _, _, _, V⟩
   have aM : Ch F w f := j.mono (fun i _ h => h ▸ d); have hS := m.lt; have bH := V.cht (Ch.refl (· = t) f); have dB := V.pk1 V bH; refine yo (yQ (qai dB u.tb hL  (T.cursor.x) ((max ((T.cursor.y - (qi ac.params 0)) : Int) T.top))) ?_); rintro bI ⟨dC, dD⟩; obtain ⟨bJ, dE⟩ := TermAt.next dA bH dD dC; have bK : Lim W H (qa8 T (T.cursor.x) ((max ((T.cursor.y - (qi ac.params 0)) : Int) T.top))) := (qR hL (T.cursor.x) ((max ((T.cursor.y - (qi ac.params 0)) : Int) T.top)))
   generalize dF : (qa8 T (T.cursor.x) ((max ((T.cursor.y - (qi ac.params 0)) : Int) T.top))) = T59 at bJ bK; have dG := bK; have hU := dG.all; obtain ⟨dH, hW, hX, hY, hZ, ia, ib, ic, ie, ig, ih, ii, ai⟩ := bJ; obtain ⟨ij, ik⟩ := ai.g1.head; have il : Df t dH := fun e => ai.t1 (e ▸ ai.g1.inF); refine yE (nB (qM ?_)); have aN := Ch.on dE (Ch.refl (· = t) bI) d; have dI := ai.pk2 (Ch.refl (· = t) bI) V aN; subst dF; refine ⟨rfl, TermAt.eq' (dI.mono (qr aM.size) (hI.moreOk (Nat.le_trans aM.size aN.size))) ?_, zt aM aN iZ⟩; simp only [qa5, q, n, ↓reduceIte, Int.reduceEq, Int.reduceLT, Int.reduceLE, sB]
  refine yk <| q7 <| yp 7 [] (.q6 (T.cursor.y - (qi ac.params 0)) .z) ?_; have X := hI.scalar (T' := T) j k rfl rfl rfl rfl; have dJ : TermAt f t T F := ⟨_, _, _, _, _, _, _, _, _, _, _, _, X⟩
  have aO : Ch F w f := j.mono (fun i _ h => h ▸ d); have im := m.lt; have bL := X.cht (Ch.refl (· = t) f); have dK := X.pk1 X bL; refine yo (yQ (qai dK u.tb hL  (T.cursor.x) ((max ((T.cursor.y - (qi ac.params 0)) : Int) 0))) ?_); rintro bM ⟨dL, dM⟩; obtain ⟨bN, dN⟩ := TermAt.next dJ bL dM dL; have bO : Lim W H (qa8 T (T.cursor.x) ((max ((T.cursor.y - (qi ac.params 0)) : Int) 0))) := (qR hL (T.cursor.x) ((max ((T.cursor.y - (qi ac.params 0)) : Int) 0)))
  generalize dO : (qa8 T (T.cursor.x) ((max ((T.cursor.y - (qi ac.params 0)) : Int) 0))) = T79 at bN bO; have dP := bO; have io := dP.all; obtain ⟨dQ, ip, iq, ir, iu, iv, iw, ix, iy, iz, iA, iB, aj⟩ := bN; obtain ⟨iC, iD⟩ := aj.g1.head; have iE : Df t dQ := fun e => aj.t1 (e ▸ aj.g1.inF); refine yE (nB (qM ?_)); have aP := Ch.on dN (Ch.refl (· = t) bM) d; have dR := aj.pk2 (Ch.refl (· = t) bM) X aP; subst dO; refine ⟨rfl, TermAt.eq' (dR.mono (qr aO.size) (hI.moreOk (Nat.le_trans aO.size aP.size))) ?_, zt aO aP iZ⟩; simp only [qa5, q, n, ↓reduceIte, Int.reduceEq, Int.reduceLT, Int.reduceLE, sB]
 refine ys <| yx 2 <| yc (rE ac.last 66) (fun n => ?_) fun n => ?_
 ·refine yk <| yc (rE ac.last 66) (fun r => ?_) fun r => ?_
  ·refine ysr <| yp 8 [] (.l (k.c 0) (.l (U.c 1) .z)) <| ye <| ys <| ysr <| yp 6 [] (.l (k.c 27) .z) <| ye <| yc (rL T.cursor.y T.bot) (fun p => ?_) fun p => ?_
   ·refine q7 <| yp 5 [] (.l (k.c 27) .z) <| ye <| q7 <| yp 8 [] (.q6 (T.cursor.y + (qi ac.params 0)) (.q6 (T.bot - 1) .z)) ?_; have Y := hI.scalar (T' := T) j k rfl rfl rfl rfl; have dS : TermAt f t T F := ⟨_, _, _, _, _, _, _, _, _, _, _, _, Y⟩
    have aQ : Ch F w f := j.mono (fun i _ h => h ▸ d); have iF := m.lt; have bP := Y.cht (Ch.refl (· = t) f); have dT := Y.pk1 Y bP; refine yo (yQ (qai dT u.tb hL  (T.cursor.x) ((min ((T.cursor.y + (qi ac.params 0)) : Int) (T.bot - 1)))) ?_); rintro bQ ⟨dU, dV⟩; obtain ⟨bR, dW⟩ := TermAt.next dS bP dV dU; have bS : Lim W H (qa8 T (T.cursor.x) ((min ((T.cursor.y + (qi ac.params 0)) : Int) (T.bot - 1)))) := (qR hL (T.cursor.x) ((min ((T.cursor.y + (qi ac.params 0)) : Int) (T.bot - 1))))
    generalize dX : (qa8 T (T.cursor.x) ((min ((T.cursor.y + (qi ac.params 0)) : Int) (T.bot - 1)))) = T102 at bR bS; have dY := bS; have iG := dY.all; obtain ⟨dZ, iH, iI, iJ, iK, iL, iM, iN, iO, iP, iQ, iR, ak⟩ := bR; obtain ⟨iS, iT⟩ := ak.g1.head; have iU : Df t dZ := fun e => ak.t1 (e ▸ ak.g1.inF); refine yE (nB (qM ?_)); have aR := Ch.on dW (Ch.refl (· = t) bQ) d; have e0 := ak.pk2 (Ch.refl (· = t) bQ) Y aR; subst dX; refine ⟨rfl, TermAt.eq' (e0.mono (qr aQ.size) (hI.moreOk (Nat.le_trans aQ.size aR.size))) ?_, zt aQ aR iZ⟩; simp only [qa5, q, n, r, p, ↓reduceIte, Int.reduceEq, Int.reduceLT, Int.reduceLE, sB]
   refine yk <| q7 <| yp 8 [] (.q6 (T.cursor.y + (qi ac.params 0)) (.q6 (T.grid.h - 1) .z)) ?_; have Z := hI.scalar (T' := T) j k rfl rfl rfl rfl; have e1 : TermAt f t T F := ⟨_, _, _, _, _, _, _, _, _, _, _, _, Z⟩
   have aS : Ch F w f := j.mono (fun i _ h => h ▸ d); have iV := m.lt; have bT := Z.cht (Ch.refl (· = t) f); have e2 := Z.pk1 Z bT; refine yo (yQ (qai e2 u.tb hL  (T.cursor.x) ((min ((T.cursor.y + (qi ac.params 0)) : Int) (T.grid.h - 1)))) ?_); rintro bU ⟨e3, e4⟩; obtain ⟨bV, e5⟩ := TermAt.next e1 bT e4 e3; have bW : Lim W H (qa8 T (T.cursor.x) ((min ((T.cursor.y + (qi ac.params 0)) : Int) (T.grid.h - 1)))) := (qR hL (T.cursor.x) ((min ((T.cursor.y + (qi ac.params 0)) : Int) (T.grid.h - 1))))
   generalize e6 : (qa8 T (T.cursor.x) ((min ((T.cursor.y + (qi ac.params 0)) : Int) (T.grid.h - 1)))) = T122 at bV bW; have e7 := bW; have iW := e7.all; obtain ⟨e8, iY, j0, j1, j2, j3, j4, j5, j6, j7, j8, j9, al⟩ := bV; obtain ⟨ja, jb⟩ := al.g1.head; have jc : Df t e8 := fun e => al.t1 (e ▸ al.g1.inF); refine yE (nB (qM ?_)); have aT := Ch.on e5 (Ch.refl (· = t) bU) d; have e9 := al.pk2 (Ch.refl (· = t) bU) Z aT; subst e6; refine ⟨rfl, TermAt.eq' (e9.mono (qr aS.size) (hI.moreOk (Nat.le_trans aS.size aT.size))) ?_, zt aS aT iZ⟩; simp only [qa5, q, n, r, p, ↓reduceIte, Int.reduceEq, Int.reduceLT, Int.reduceLE, sB]
  exfalso; omega
 refine q7 <| yz 2 <| yc (rE ac.last 101) (fun r => ?_) fun r => ?_
 ·refine ysr <| yp 8 [] (.l (k.c 0) (.l (U.c 1) .z)) <| ye <| ys <| ysr <| yp 6 [] (.l (k.c 27) .z) <| ye <| yc (rL T.cursor.y T.bot) (fun p => ?_) fun p => ?_
  ·refine q7 <| yp 5 [] (.l (k.c 27) .z) <| ye <| q7 <| yp 8 [] (.q6 (T.cursor.y + (qi ac.params 0)) (.q6 (T.bot - 1) .z)) ?_; have a0 := hI.scalar (T' := T) j k rfl rfl rfl rfl; have ea : TermAt f t T F := ⟨_, _, _, _, _, _, _, _, _, _, _, _, a0⟩
   have aU : Ch F w f := j.mono (fun i _ h => h ▸ d); have jd := m.lt; have bX := a0.cht (Ch.refl (· = t) f); have eb := a0.pk1 a0 bX; refine yo (yQ (qai eb u.tb hL  (T.cursor.x) ((min ((T.cursor.y + (qi ac.params 0)) : Int) (T.bot - 1)))) ?_); rintro bY ⟨ec, ed⟩; obtain ⟨bZ, ee⟩ := TermAt.next ea bX ed ec; have c0 : Lim W H (qa8 T (T.cursor.x) ((min ((T.cursor.y + (qi ac.params 0)) : Int) (T.bot - 1)))) := (qR hL (T.cursor.x) ((min ((T.cursor.y + (qi ac.params 0)) : Int) (T.bot - 1))))
   generalize ef : (qa8 T (T.cursor.x) ((min ((T.cursor.y + (qi ac.params 0)) : Int) (T.bot - 1)))) = T144 at bZ c0; have eg := c0; have je := eg.all; obtain ⟨eh, jf, jg, jh, ji, jj, jk, jl, jm, jn, jo, jp, am⟩ := bZ; obtain ⟨jq, jr⟩ := am.g1.head; have js : Df t eh := fun e => am.t1 (e ▸ am.g1.inF); refine yE (nB (qM ?_)); have aV := Ch.on ee (Ch.refl (· = t) bY) d; have ei := am.pk2 (Ch.refl (· = t) bY) a0 aV; subst ef; refine ⟨rfl, TermAt.eq' (ei.mono (qr aU.size) (hI.moreOk (Nat.le_trans aU.size aV.size))) ?_, zt aU aV iZ⟩; simp only [qa5, q, n, r, p, ↓reduceIte, Int.reduceEq, Int.reduceLT, Int.reduceLE, sB]
  refine yk <| q7 <| yp 8 [] (.q6 (T.cursor.y + (qi ac.params 0)) (.q6 (T.grid.h - 1) .z)) ?_; have a1 := hI.scalar (T' := T) j k rfl rfl rfl rfl; have ej : TermAt f t T F := ⟨_, _, _, _, _, _, _, _, _, _, _, _, a1⟩
  have aW : Ch F w f := j.mono (fun i _ h => h ▸ d); have jt := m.lt; have c1 := a1.cht (Ch.refl (· = t) f); have ek := a1.pk1 a1 c1; refine yo (yQ (qai ek u.tb hL  (T.cursor.x) ((min ((T.cursor.y + (qi ac.params 0)) : Int) (T.grid.h - 1)))) ?_); rintro c2 ⟨el, em⟩; obtain ⟨c3, en⟩ := TermAt.next ej c1 em el; have c4 : Lim W H (qa8 T (T.cursor.x) ((min ((T.cursor.y + (qi ac.params 0)) : Int) (T.grid.h - 1)))) := (qR hL (T.cursor.x) ((min ((T.cursor.y + (qi ac.params 0)) : Int) (T.grid.h - 1))))
  generalize eo : (qa8 T (T.cursor.x) ((min ((T.cursor.y + (qi ac.params 0)) : Int) (T.grid.h - 1)))) = T164 at c3 c4; have ep := c4; have ju := ep.all; obtain ⟨er, jv, jw, jx, jy, jz, jA, jB, jC, jD, jE, jF, ap⟩ := c3; obtain ⟨jG, jH⟩ := ap.g1.head; have jI : Df t er := fun e => ap.t1 (e ▸ ap.g1.inF); refine yE (nB (qM ?_)); have aX := Ch.on en (Ch.refl (· = t) c2) d; have es := ap.pk2 (Ch.refl (· = t) c2) a1 aX; subst eo; refine ⟨rfl, TermAt.eq' (es.mono (qr aW.size) (hI.moreOk (Nat.le_trans aW.size aX.size))) ?_, zt aW aX iZ⟩; simp only [qa5, q, n, r, p, ↓reduceIte, Int.reduceEq, Int.reduceLT, Int.reduceLE, sB]
 refine ys <| yx 2 <| yc (rE ac.last 67) (fun p => ?_) fun p => ?_
 ·refine yk <| yc (rE ac.last 67) (fun s => ?_) fun s => ?_
  ·refine q7 <| yp 5 [] (.q6 (T.cursor.x + (qi ac.params 0)) .z) ?_; have a2 := hI.scalar (T' := T) j k rfl rfl rfl rfl; have et : TermAt f t T F := ⟨_, _, _, _, _, _, _, _, _, _, _, _, a2⟩
   have aY : Ch F w f := j.mono (fun i _ h => h ▸ d); have jJ := m.lt; have c5 := a2.cht (Ch.refl (· = t) f); have eu := a2.pk1 a2 c5; refine yo (yQ (qai eu u.tb hL  ((T.cursor.x + (qi ac.params 0))) (T.cursor.y)) ?_); rintro c6 ⟨ev, ew⟩; obtain ⟨c7, ex⟩ := TermAt.next et c5 ew ev; have c8 : Lim W H (qa8 T ((T.cursor.x + (qi ac.params 0))) (T.cursor.y)) := (qR hL ((T.cursor.x + (qi ac.params 0))) (T.cursor.y))
   generalize ey : (qa8 T ((T.cursor.x + (qi ac.params 0))) (T.cursor.y)) = T186 at c7 c8; have ez := c8; have jK := ez.all; obtain ⟨eA, jL, jM, jN, jO, jP, jQ, jR, jS, jT, jU, jV, aq⟩ := c7; obtain ⟨jW, jX⟩ := aq.g1.head; have jY : Df t eA := fun e => aq.t1 (e ▸ aq.g1.inF); refine yE (nB (qM ?_)); have aZ := Ch.on ex (Ch.refl (· = t) c6) d; have eB := aq.pk2 (Ch.refl (· = t) c6) a2 aZ; subst ey; refine ⟨rfl, TermAt.eq' (eB.mono (qr aY.size) (hI.moreOk (Nat.le_trans aY.size aZ.size))) ?_, zt aY aZ iZ⟩; simp only [qa5, q, n, r, p, s, ↓reduceIte, Int.reduceEq, Int.reduceLT, Int.reduceLE, sB]
  exfalso; omega
 refine q7 <| yz 2 <| yc (rE ac.last 97) (fun s => ?_) fun s => ?_
 ·refine q7 <| yp 5 [] (.q6 (T.cursor.x + (qi ac.params 0)) .z) ?_; have a3 := hI.scalar (T' := T) j k rfl rfl rfl rfl; have eC : TermAt f t T F := ⟨_, _, _, _, _, _, _, _, _, _, _, _, a3⟩
  have b0 : Ch F w f := j.mono (fun i _ h => h ▸ d); have jZ := m.lt; have c9 := a3.cht (Ch.refl (· = t) f); have eD := a3.pk1 a3 c9; refine yo (yQ (qai eD u.tb hL  ((T.cursor.x + (qi ac.params 0))) (T.cursor.y)) ?_); rintro ca ⟨eE, eF⟩; obtain ⟨cb, eG⟩ := TermAt.next eC c9 eF eE; have cd : Lim W H (qa8 T ((T.cursor.x + (qi ac.params 0))) (T.cursor.y)) := (qR hL ((T.cursor.x + (qi ac.params 0))) (T.cursor.y))
  generalize eH : (qa8 T ((T.cursor.x + (qi ac.params 0))) (T.cursor.y)) = T207 at cb cd; have eI := cd; have k0 := eI.all; obtain ⟨eJ, k1, k2, k3, k4, k5, k6, k7, k8, k9, ka, kb, ar⟩ := cb; obtain ⟨kc, kd⟩ := ar.g1.head; have ke : Df t eJ := fun e => ar.t1 (e ▸ ar.g1.inF); refine yE (nB (qM ?_)); have b1 := Ch.on eG (Ch.refl (· = t) ca) d; have eK := ar.pk2 (Ch.refl (· = t) ca) a3 b1; subst eH; refine ⟨rfl, TermAt.eq' (eK.mono (qr b0.size) (hI.moreOk (Nat.le_trans b0.size b1.size))) ?_, zt b0 b1 iZ⟩; simp only [qa5, q, n, r, p, s, ↓reduceIte, Int.reduceEq, Int.reduceLT, Int.reduceLE, sB]
 refine yx 2 <| yc (rE ac.last 68) (fun A => ?_) fun A => ?_
 ·refine q7 <| yp 5 [] (.q6 (T.cursor.x - (qi ac.params 0)) .z) ?_; have a4 := hI.scalar (T' := T) j k rfl rfl rfl rfl; have eL : TermAt f t T F := ⟨_, _, _, _, _, _, _, _, _, _, _, _, a4⟩
  have b2 : Ch F w f := j.mono (fun i _ h => h ▸ d); have kf := m.lt; have ce := a4.cht (Ch.refl (· = t) f); have eM := a4.pk1 a4 ce; refine yo (yQ (qai eM u.tb hL  ((T.cursor.x - (qi ac.params 0))) (T.cursor.y)) ?_); rintro cf ⟨eN, eO⟩; obtain ⟨cg, eP⟩ := TermAt.next eL ce eO eN; have ci : Lim W H (qa8 T ((T.cursor.x - (qi ac.params 0))) (T.cursor.y)) := (qR hL ((T.cursor.x - (qi ac.params 0))) (T.cursor.y))
  generalize eQ : (qa8 T ((T.cursor.x - (qi ac.params 0))) (T.cursor.y)) = T228 at cg ci; have eR := ci; have kg := eR.all; obtain ⟨eS, kh, ki, kj, kk, kl, km, kn, ko, kp, kq, kr, au⟩ := cg; obtain ⟨ks, kt⟩ := au.g1.head; have ku : Df t eS := fun e => au.t1 (e ▸ au.g1.inF); refine yE (nB (qM ?_)); have b3 := Ch.on eP (Ch.refl (· = t) cf) d; have eT := au.pk2 (Ch.refl (· = t) cf) a4 b3; subst eQ; refine ⟨rfl, TermAt.eq' (eT.mono (qr b2.size) (hI.moreOk (Nat.le_trans b2.size b3.size))) ?_, zt b2 b3 iZ⟩; simp only [qa5, q, n, r, p, s, A, ↓reduceIte, Int.reduceEq, Int.reduceLT, Int.reduceLE, sB]
 refine ys <| yx 2 <| yc (rE ac.last 71) (fun B => ?_) fun B => ?_
 ·refine yk <| yc (rE ac.last 71) (fun v => ?_) fun v => ?_
  ·refine q7 <| yp 4 [] (.q6 ((qi ac.params 0) - 1) .z) ?_; have a5 := hI.scalar (T' := T) j k rfl rfl rfl rfl; have eU : TermAt f t T F := ⟨_, _, _, _, _, _, _, _, _, _, _, _, a5⟩
   have b4 : Ch F w f := j.mono (fun i _ h => h ▸ d); have kv := m.lt; have cj := a5.cht (Ch.refl (· = t) f); have eV := a5.pk1 a5 cj; refine yo (yQ (qai eV u.tb hL  (((qi ac.params 0) - 1)) (T.cursor.y)) ?_); rintro ck ⟨eW, eX⟩; obtain ⟨cl, eY⟩ := TermAt.next eU cj eX eW; have cm : Lim W H (qa8 T (((qi ac.params 0) - 1)) (T.cursor.y)) := (qR hL (((qi ac.params 0) - 1)) (T.cursor.y))
   generalize fa : (qa8 T (((qi ac.params 0) - 1)) (T.cursor.y)) = T250 at cl cm; have fb := cm; have kw := fb.all; obtain ⟨fc, kx, ky, kz, kA, kB, kC, kD, kE, kF, kG, kH, av⟩ := cl; obtain ⟨kI, kJ⟩ := av.g1.head; have kK : Df t fc := fun e => av.t1 (e ▸ av.g1.inF); refine yE (nB (qM ?_)); have b5 := Ch.on eY (Ch.refl (· = t) ck) d; have fd := av.pk2 (Ch.refl (· = t) ck) a5 b5; subst fa; refine ⟨rfl, TermAt.eq' (fd.mono (qr b4.size) (hI.moreOk (Nat.le_trans b4.size b5.size))) ?_, zt b4 b5 iZ⟩; simp only [qa5, q, n, r, p, s, A, B, v, ↓reduceIte, Int.reduceEq, Int.reduceLT, Int.reduceLE, sB]
  exfalso; omega
 refine q7 <| yz 2 <| yc (rE ac.last 96) (fun v => ?_) fun v => ?_
 ·refine q7 <| yp 4 [] (.q6 ((qi ac.params 0) - 1) .z) ?_; have a6 := hI.scalar (T' := T) j k rfl rfl rfl rfl; have fe : TermAt f t T F := ⟨_, _, _, _, _, _, _, _, _, _, _, _, a6⟩
  have b6 : Ch F w f := j.mono (fun i _ h => h ▸ d); have kL := m.lt; have cn := a6.cht (Ch.refl (· = t) f); have ff := a6.pk1 a6 cn; refine yo (yQ (qai ff u.tb hL  (((qi ac.params 0) - 1)) (T.cursor.y)) ?_); rintro co ⟨fg, fh⟩; obtain ⟨cp, fi⟩ := TermAt.next fe cn fh fg; have cq : Lim W H (qa8 T (((qi ac.params 0) - 1)) (T.cursor.y)) := (qR hL (((qi ac.params 0) - 1)) (T.cursor.y))
  generalize fj : (qa8 T (((qi ac.params 0) - 1)) (T.cursor.y)) = T271 at cp cq; have fk := cq; have kM := fk.all; obtain ⟨fl, kN, kO, kP, kQ, kR, kS, kT, kU, kV, kW, kX, aw⟩ := cp; obtain ⟨kY, kZ⟩ := aw.g1.head; have l0 : Df t fl := fun e => aw.t1 (e ▸ aw.g1.inF); refine yE (nB (qM ?_)); have b7 := Ch.on fi (Ch.refl (· = t) co) d; have fm := aw.pk2 (Ch.refl (· = t) co) a6 b7; subst fj; refine ⟨rfl, TermAt.eq' (fm.mono (qr b6.size) (hI.moreOk (Nat.le_trans b6.size b7.size))) ?_, zt b6 b7 iZ⟩; simp only [qa5, q, n, r, p, s, A, B, v, ↓reduceIte, Int.reduceEq, Int.reduceLT, Int.reduceLE, sB]
 refine yx 2 <| yc (rE ac.last 100) (fun D => ?_) fun D => ?_
 ·refine q7 <| yp 4 [] (.q6 (T.cursor.x + 1) .z) ?_; have a7 := hI.scalar (T' := T) j k rfl rfl rfl rfl; have fn : TermAt f t T F := ⟨_, _, _, _, _, _, _, _, _, _, _, _, a7⟩
  have b8 : Ch F w f := j.mono (fun i _ h => h ▸ d); have l1 := m.lt; have cr := a7.cht (Ch.refl (· = t) f); have fo := a7.pk1 a7 cr; refine yo (yQ (qbM fo u.tb hL  ((T.cursor.x + 1)) ((qi ac.params 0)) (by constructor <;> omega) (by constructor <;> omega)) ?_); rintro ct ⟨fp, fq⟩; obtain ⟨cu, fr⟩ := TermAt.next fn cr fq fp; have cv : Lim W H (qaV T ((T.cursor.x + 1)) ((qi ac.params 0))) := (qaN hL ((T.cursor.x + 1)) ((qi ac.params 0)))
  generalize fs : (qaV T ((T.cursor.x + 1)) ((qi ac.params 0))) = T292 at cu cv; have ft := cv; have l2 := ft.all; obtain ⟨fu, l3, l4, l5, l6, l7, l8, l9, la, lb, lc, ld, ax⟩ := cu; obtain ⟨lf, lg⟩ := ax.g1.head; have lh : Df t fu := fun e => ax.t1 (e ▸ ax.g1.inF); refine yE (nB (qM ?_)); have b9 := Ch.on fr (Ch.refl (· = t) ct) d; have fv := ax.pk2 (Ch.refl (· = t) ct) a7 b9; subst fs; refine ⟨rfl, TermAt.eq' (fv.mono (qr b8.size) (hI.moreOk (Nat.le_trans b8.size b9.size))) ?_, zt b8 b9 iZ⟩; simp only [qa5, q, n, r, p, s, A, B, v, D, ↓reduceIte, Int.reduceEq, Int.reduceLT, Int.reduceLE, sB]
 refine ys <| yx 2 <| yc (rE ac.last 72) (fun E => ?_) fun E => ?_
 ·refine yk <| yc (rE ac.last 72) (fun C => ?_) fun C => ?_
  ·refine q7 <| yp 2 [] (.a (m.cs 0 6) .z) <| yo (yQ (qeS Q ac rfl 1) fun bb ay => ?_); have cw := zt j ay eZ; have fw := k.ch ay id; have fx := qz ay u (fun _ h => h.elim); have fy := m.ch ay id; refine yq 4 ?_; have a8 := hI.scalar (T' := T) cw fw rfl rfl rfl rfl; have fz : TermAt bb t T F := ⟨_, _, _, _, _, _, _, _, _, _, _, _, a8⟩
   have bd : Ch F w bb := cw.mono (fun i _ h => h ▸ d); have li := fy.lt; have cx := a8.cht (Ch.refl (· = t) bb); have fA := a8.pk1 a8 cx; refine yo (yQ (qbM fA fx.tb hL  ((qi ac.params 1)) ((qi ac.params 0)) (by constructor <;> omega) (by constructor <;> omega)) ?_); rintro cy ⟨fB, fC⟩; obtain ⟨cz, fD⟩ := TermAt.next fz cx fC fB; have cA : Lim W H (qaV T ((qi ac.params 1)) ((qi ac.params 0))) := (qaN hL ((qi ac.params 1)) ((qi ac.params 0)))
   generalize fE : (qaV T ((qi ac.params 1)) ((qi ac.params 0))) = T323 at cz cA; have fF := cA; have lj := fF.all; obtain ⟨fG, lk, ll, lm, ln, lo, lp, lq, lr, ls, lu, lv, az⟩ := cz; obtain ⟨lw, lx⟩ := az.g1.head; have ly : Df t fG := fun e => az.t1 (e ▸ az.g1.inF); refine yE (nB (qM ?_)); have bf := Ch.on fD (Ch.refl (· = t) cy) d; have fH := az.pk2 (Ch.refl (· = t) cy) a8 bf; subst fE; refine ⟨rfl, TermAt.eq' (fH.mono (qr bd.size) (hI.moreOk (Nat.le_trans bd.size bf.size))) ?_, zt bd bf iZ⟩; simp only [qa5, q, n, r, p, s, A, B, v, D, E, C, ↓reduceIte, Int.reduceEq, Int.reduceLT, Int.reduceLE, sB]
  exfalso; omega
 refine q7 <| yz 2 <| yc (rE ac.last 102) (fun C => ?_) fun C => ?_
 ·refine q7 <| yp 2 [] (.a (m.cs 0 6) .z) <| yo (yQ (qeS Q ac rfl 1) fun bg aA => ?_); have cB := zt j aA eZ; have fI := k.ch aA id; have fJ := qz aA u (fun _ h => h.elim); have fK := m.ch aA id; refine yq 4 ?_; have a9 := hI.scalar (T' := T) cB fI rfl rfl rfl rfl; have fL : TermAt bg t T F := ⟨_, _, _, _, _, _, _, _, _, _, _, _, a9⟩
  have bh : Ch F w bg := cB.mono (fun i _ h => h ▸ d); have lz := fK.lt; have cC := a9.cht (Ch.refl (· = t) bg); have fM := a9.pk1 a9 cC; refine yo (yQ (qbM fM fJ.tb hL  ((qi ac.params 1)) ((qi ac.params 0)) (by constructor <;> omega) (by constructor <;> omega)) ?_); rintro cD ⟨fN, fO⟩; obtain ⟨cE, fP⟩ := TermAt.next fL cC fO fN; have cF : Lim W H (qaV T ((qi ac.params 1)) ((qi ac.params 0))) := (qaN hL ((qi ac.params 1)) ((qi ac.params 0)))
  generalize fQ : (qaV T ((qi ac.params 1)) ((qi ac.params 0))) = T353 at cE cF; have fR := cF; have lA := fR.all; obtain ⟨fS, lB, lC, lD, lE, lF, lG, lH, lI, lJ, lK, lL, aB⟩ := cE; obtain ⟨lM, lN⟩ := aB.g1.head; have lO : Df t fS := fun e => aB.t1 (e ▸ aB.g1.inF); refine yE (nB (qM ?_)); have bi := Ch.on fP (Ch.refl (· = t) cD) d; have fT := aB.pk2 (Ch.refl (· = t) cD) a9 bi; subst fQ; refine ⟨rfl, TermAt.eq' (fT.mono (qr bh.size) (hI.moreOk (Nat.le_trans bh.size bi.size))) ?_, zt bh bi iZ⟩; simp only [qa5, q, n, r, p, s, A, B, v, D, E, C, ↓reduceIte, Int.reduceEq, Int.reduceLT, Int.reduceLE, sB]
 refine yx 2 <| yc (rE ac.last 109) (fun I => ?_) fun I => ?_
 ·refine yD [8, 12] fun lP lQ aC => ?_; have fU := zt j aC eZ; have cG := k.ch aC id; have fV := Q.ch aC iZ; have fW := m.ch aC id; refine yd (uL 0 8) [] (.a (cG.cs 5 5) (.l (fW.c 4) .z)) <| yK 8 (yQ (qiA fV T.cursor.sty (by omega)) fun lR cH => ?_); have fX := zt fU cH eZ; have fY := cG.ch cH id; refine q9 <| yd (uL 9 3) [] .z <| yK 12 (yS fY fun lS fZ g0 => ?_); have cI := zt fX g0 (fun i hi (h : i = t) => h); refine q9 <| yDe (nB (qM ?_)); have g2 := hI.scalar (T' := ({ T with cursor := (Cur.mk T.cursor.x T.cursor.y T.cursor.late (qbJ T.cursor.sty ac.params)) } : TS)) cI (Blk.to fZ (by kernel_rfl)) rfl rfl rfl rfl; have cJ := hI.cht cI; have g3 := g2.pk1 hI cJ; refine ⟨rfl, TermAt.eq' g3 ?_, cJ⟩; simp only [qa5, q, n, r, p, s, A, B, v, D, E, C, I, ↓reduceIte, Int.reduceEq, Int.reduceLT, Int.reduceLE, sB]
 refine yx 2 <| yc (rE ac.last 114) (fun K => ?_) fun K => ?_
 ·rcases ao with _ | ab
  ·have g4 : ac.params = [] := by have := hV.1.1 rfl; simpa using this
   have lT : an = 0 := by have := hV.2.1; rw [g4] at this; exact this.symm
   have M : ac.params.length = an := hV.2.1; refine ysr <| yp 8 [] (.l (k.c 0) (.l (U.c 1) .z)) <| ye <| ys <| ysr <| yp 5 [] (.l (m.c 4) .z) <| yw [144] (rL 1 ((an : Nat) : Int)) (fun J => ?_) fun J => ?_
   ·exfalso; omega
   refine yz 11 <| ycf <| yk <| yx 3 <| yc (rL (qi ac.params 0) T.grid.h) (fun G => ?_) fun G => ?_
   ·refine ysr <| yp 7 [] (.q6 ((qi ac.params 0) - 1) .z) <| yo (yS k fun lU g5 bj => ?_); have g6 := zt j bj (fun i hi (h : i = t) => h); have g7 := qz bj u (fun b (h : b = t) => h ▸ hI.hi t d); have g8 := m.ch bj (fun (h : L = t) => by have := hI.blk.lt; omega); refine yq 10 <| yo (yS g5 fun aD cK bk => ?_); have cL := zt g6 bk (fun i hi (h : i = t) => h); have g9 := qz bk g7 (fun b (h : b = t) => h ▸ hI.hi t d); have ga := g8.ch bk (fun (h : L = t) => by have := hI.blk.lt; omega); refine ye <| q7 <| yq 1 ?_; have aa := hI.scalar (T' := ({ T with top := ((qi ac.params 0) - 1), bot := T.grid.h } : TS)) cL (Blk.to cK (by kernel_rfl)) rfl rfl rfl rfl; have gb : TermAt aD t ({ T with top := ((qi ac.params 0) - 1), bot := T.grid.h } : TS) F := ⟨_, _, _, _, _, _, _, _, _, _, _, _, aa⟩
    have bl : Ch F w aD := cL.mono (fun i _ h => h ▸ d); have lV := ga.lt; have cM : Lim W H ({ T with top := ((qi ac.params 0) - 1), bot := T.grid.h } : TS) := { hL with tb := ⟨(show (0 : Int) ≤ ((qi ac.params 0) - 1) by omega), (show (((qi ac.params 0) - 1) : Int) < T.grid.h by omega), (show (T.grid.h : Int) ≤ H by omega)⟩ }
    have gc := aa.scalar (T' := ({ T with top := ((qi ac.params 0) - 1), bot := T.grid.h } : TS)) (Ch.refl (· = t) aD) (Blk.to cK (by kernel_rfl)) rfl rfl rfl rfl; have cN := aa.cht (Ch.refl (· = t) aD); have gd := gc.pk1 aa cN; refine yo (yQ (qbM gd g9.tb cM  (1) (1) (by constructor <;> omega) (by constructor <;> omega)) ?_); rintro cO ⟨gf, gg⟩; obtain ⟨cP, gh⟩ := TermAt.next gb cN gg gf; have cQ : Lim W H (qaV ({ T with top := ((qi ac.params 0) - 1), bot := T.grid.h } : TS) (1) (1)) := (qaN cM (1) (1))
    generalize gi : (qaV ({ T with top := ((qi ac.params 0) - 1), bot := T.grid.h } : TS) (1) (1)) = T428 at cP cQ; have gj := cQ; have lW := gj.all; obtain ⟨gk, lX, lY, lZ, m0, m1, m2, m3, m4, m5, m6, m7, aE⟩ := cP; obtain ⟨m8, m9⟩ := aE.g1.head; have ma : Df t gk := fun e => aE.t1 (e ▸ aE.g1.inF); refine yE (nB (qM ?_)); have bm := Ch.on gh (Ch.refl (· = t) cO) d; have gl := aE.pk2 (Ch.refl (· = t) cO) aa bm; subst gi; refine ⟨rfl, TermAt.eq' (gl.mono (qr bl.size) (hI.moreOk (Nat.le_trans bl.size bm.size))) ?_, zt bl bm iZ⟩; simp only [qa5, q, n, r, p, s, A, B, v, D, E, C, I, K, J, G, M, ↓reduceIte, Int.reduceEq, Int.reduceLT, Int.reduceLE, sB]
   refine qp (nB (qM ?_)); have gm := hI.scalar (T' := T) j k rfl rfl rfl rfl; have cR := hI.cht j; have gn := gm.pk1 hI cR; refine ⟨rfl, TermAt.eq' gn ?_, cR⟩; simp only [qa5, q, n, r, p, s, A, B, v, D, E, C, I, K, J, G, M, ↓reduceIte, Int.reduceEq, Int.reduceLT, Int.reduceLE, sB]
  have M : ac.params.length = an := hV.2.1; have mb := qak hVb (by decide) 1; refine ysr <| yp 8 [] (.l (k.c 0) (.l (U.c 1) .z)) <| ye <| ys <| ysr <| yp 5 [] (.l (m.c 4) .z) <| yw [144] (rL 1 ((an : Nat) : Int)) (fun J => ?_) fun J => ?_
  ·refine yp 11 [] (.l (m.c 4) (.i 1 (an) (.l (o := 1) (qgp Q.1 1 (by omega)) .z))) <| ye <| yc (rL 0 (ac.params.getD 1 0)) (fun G => ?_) fun G => ?_
   ·refine yD [] fun mc md R => ?_; have bo := zt j R eZ; have bp := k.ch R id; have gp := U.ch R id; have gq := qz R u (fun _ h => h.elim); have gr := Q.ch R iZ; have cS := m.ch R id; refine yd (uL 0 13) [] (.l (cS.c 4) (.i 1 (an) (.l (o := 1) (qgp gr.1 1 (by omega)) (.l (bp.c 0) (.l (gp.c 1) .z))))) <| yDe (nS ?_); refine yx 3 <| yc (rL (qi ac.params 0) (min ((ac.params.getD 1 0) : Int) T.grid.h)) (fun N => ?_) fun N => ?_
    ·refine ysr <| yp 7 [] (.q6 ((qi ac.params 0) - 1) .z) <| yo (yS bp fun mf gs bq => ?_); have gu := zt bo bq (fun i hi (h : i = t) => h); have gw := qz bq gq (fun b (h : b = t) => h ▸ hI.hi t d); have gx := cS.ch bq (fun (h : L = t) => by have := hI.blk.lt; omega); refine yq 10 <| yo (yS gs fun aF cT br => ?_); have cU := zt gu br (fun i hi (h : i = t) => h); have gy := qz br gw (fun b (h : b = t) => h ▸ hI.hi t d); have gz := gx.ch br (fun (h : L = t) => by have := hI.blk.lt; omega); refine ye <| q7 <| yq 1 ?_; have ad := hI.scalar (T' := ({ T with top := ((qi ac.params 0) - 1), bot := (min ((ac.params.getD 1 0) : Int) T.grid.h) } : TS)) cU (Blk.to cT (by kernel_rfl)) rfl rfl rfl rfl; have gA : TermAt aF t ({ T with top := ((qi ac.params 0) - 1), bot := (min ((ac.params.getD 1 0) : Int) T.grid.h) } : TS) F := ⟨_, _, _, _, _, _, _, _, _, _, _, _, ad⟩
     have bs : Ch F w aF := cU.mono (fun i _ h => h ▸ d); have mg := gz.lt; have cV : Lim W H ({ T with top := ((qi ac.params 0) - 1), bot := (min ((ac.params.getD 1 0) : Int) T.grid.h) } : TS) := { hL with tb := ⟨(show (0 : Int) ≤ ((qi ac.params 0) - 1) by omega), (show (((qi ac.params 0) - 1) : Int) < (min ((ac.params.getD 1 0) : Int) T.grid.h) by omega), (show ((min ((ac.params.getD 1 0) : Int) T.grid.h) : Int) ≤ H by omega)⟩ }
     have gB := ad.scalar (T' := ({ T with top := ((qi ac.params 0) - 1), bot := (min ((ac.params.getD 1 0) : Int) T.grid.h) } : TS)) (Ch.refl (· = t) aF) (Blk.to cT (by kernel_rfl)) rfl rfl rfl rfl; have cW := ad.cht (Ch.refl (· = t) aF); have gC := gB.pk1 ad cW; refine yo (yQ (qbM gC gy.tb cV  (1) (1) (by constructor <;> omega) (by constructor <;> omega)) ?_); rintro cX ⟨gD, gE⟩; obtain ⟨cY, gF⟩ := TermAt.next gA cW gE gD; have cZ : Lim W H (qaV ({ T with top := ((qi ac.params 0) - 1), bot := (min ((ac.params.getD 1 0) : Int) T.grid.h) } : TS) (1) (1)) := (qaN cV (1) (1))
     generalize gG : (qaV ({ T with top := ((qi ac.params 0) - 1), bot := (min ((ac.params.getD 1 0) : Int) T.grid.h) } : TS) (1) (1)) = T484 at cY cZ; have gH := cZ; have mh := gH.all; obtain ⟨gI, mi, mj, ml, mm, mn, mo, mp, mq, mr, ms, mt, aG⟩ := cY; obtain ⟨mu, mv⟩ := aG.g1.head; have mw : Df t gI := fun e => aG.t1 (e ▸ aG.g1.inF); refine yE (nB (qM ?_)); have bt := Ch.on gF (Ch.refl (· = t) cX) d; have gJ := aG.pk2 (Ch.refl (· = t) cX) ad bt; subst gG; refine ⟨rfl, TermAt.eq' (gJ.mono (qr bs.size) (hI.moreOk (Nat.le_trans bs.size bt.size))) ?_, zt bs bt iZ⟩; simp only [qa5, q, n, r, p, s, A, B, v, D, E, C, I, K, J, G, N, M, ↓reduceIte, Int.reduceEq, Int.reduceLT, Int.reduceLE, sB]
    refine qp (nB (qM ?_)); have gK := hI.scalar (T' := T) bo bp rfl rfl rfl rfl; have d0 := hI.cht bo; have gL := gK.pk1 hI d0; refine ⟨rfl, TermAt.eq' gL ?_, d0⟩; simp only [qa5, q, n, r, p, s, A, B, v, D, E, C, I, K, J, G, N, M, ↓reduceIte, Int.reduceEq, Int.reduceLT, Int.reduceLE, sB]
   refine yk <| yx 3 <| yc (rL (qi ac.params 0) T.grid.h) (fun N => ?_) fun N => ?_
   ·refine ysr <| yp 7 [] (.q6 ((qi ac.params 0) - 1) .z) <| yo (yS k fun mx gM bu => ?_); have gN := zt j bu (fun i hi (h : i = t) => h); have gO := qz bu u (fun b (h : b = t) => h ▸ hI.hi t d); have gP := m.ch bu (fun (h : L = t) => by have := hI.blk.lt; omega); refine yq 10 <| yo (yS gM fun aH d1 bv => ?_); have d2 := zt gN bv (fun i hi (h : i = t) => h); have gQ := qz bv gO (fun b (h : b = t) => h ▸ hI.hi t d); have gR := gP.ch bv (fun (h : L = t) => by have := hI.blk.lt; omega); refine ye <| q7 <| yq 1 ?_; have ae := hI.scalar (T' := ({ T with top := ((qi ac.params 0) - 1), bot := T.grid.h } : TS)) d2 (Blk.to d1 (by kernel_rfl)) rfl rfl rfl rfl; have gS : TermAt aH t ({ T with top := ((qi ac.params 0) - 1), bot := T.grid.h } : TS) F := ⟨_, _, _, _, _, _, _, _, _, _, _, _, ae⟩
    have bw : Ch F w aH := d2.mono (fun i _ h => h ▸ d); have mz := gR.lt; have d3 : Lim W H ({ T with top := ((qi ac.params 0) - 1), bot := T.grid.h } : TS) := { hL with tb := ⟨(show (0 : Int) ≤ ((qi ac.params 0) - 1) by omega), (show (((qi ac.params 0) - 1) : Int) < T.grid.h by omega), (show (T.grid.h : Int) ≤ H by omega)⟩ }
    have gT := ae.scalar (T' := ({ T with top := ((qi ac.params 0) - 1), bot := T.grid.h } : TS)) (Ch.refl (· = t) aH) (Blk.to d1 (by kernel_rfl)) rfl rfl rfl rfl; have d4 := ae.cht (Ch.refl (· = t) aH); have gU := gT.pk1 ae d4; refine yo (yQ (qbM gU gQ.tb d3  (1) (1) (by constructor <;> omega) (by constructor <;> omega)) ?_); rintro d5 ⟨gV, gW⟩; obtain ⟨d6, gX⟩ := TermAt.next gS d4 gW gV; have d7 : Lim W H (qaV ({ T with top := ((qi ac.params 0) - 1), bot := T.grid.h } : TS) (1) (1)) := (qaN d3 (1) (1))
    generalize gY : (qaV ({ T with top := ((qi ac.params 0) - 1), bot := T.grid.h } : TS) (1) (1)) = T528 at d6 d7; have gZ := d7; have mA := gZ.all; obtain ⟨h0, mB, mC, mD, mE, mF, mG, mH, mI, mJ, mK, mL, aI⟩ := d6; obtain ⟨mM, mN⟩ := aI.g1.head; have mO : Df t h0 := fun e => aI.t1 (e ▸ aI.g1.inF); refine yE (nB (qM ?_)); have bx := Ch.on gX (Ch.refl (· = t) d5) d; have h1 := aI.pk2 (Ch.refl (· = t) d5) ae bx; subst gY; refine ⟨rfl, TermAt.eq' (h1.mono (qr bw.size) (hI.moreOk (Nat.le_trans bw.size bx.size))) ?_, zt bw bx iZ⟩; simp only [qa5, q, n, r, p, s, A, B, v, D, E, C, I, K, J, G, N, M, ↓reduceIte, Int.reduceEq, Int.reduceLT, Int.reduceLE, sB]
   refine qp (nB (qM ?_)); have h2 := hI.scalar (T' := T) j k rfl rfl rfl rfl; have d8 := hI.cht j; have h3 := h2.pk1 hI d8; refine ⟨rfl, TermAt.eq' h3 ?_, d8⟩; simp only [qa5, q, n, r, p, s, A, B, v, D, E, C, I, K, J, G, N, M, ↓reduceIte, Int.reduceEq, Int.reduceLT, Int.reduceLE, sB]
  refine yz 11 <| ycf <| yk <| yx 3 <| yc (rL (qi ac.params 0) T.grid.h) (fun G => ?_) fun G => ?_
  ·refine ysr <| yp 7 [] (.q6 ((qi ac.params 0) - 1) .z) <| yo (yS k fun mP h4 bz => ?_); have h5 := zt j bz (fun i hi (h : i = t) => h); have h6 := qz bz u (fun b (h : b = t) => h ▸ hI.hi t d); have h7 := m.ch bz (fun (h : L = t) => by have := hI.blk.lt; omega); refine yq 10 <| yo (yS h4 fun aJ d9 bA => ?_); have da := zt h5 bA (fun i hi (h : i = t) => h); have h8 := qz bA h6 (fun b (h : b = t) => h ▸ hI.hi t d); have h9 := h7.ch bA (fun (h : L = t) => by have := hI.blk.lt; omega); refine ye <| q7 <| yq 1 ?_; have af := hI.scalar (T' := ({ T with top := ((qi ac.params 0) - 1), bot := T.grid.h } : TS)) da (Blk.to d9 (by kernel_rfl)) rfl rfl rfl rfl; have ha : TermAt aJ t ({ T with top := ((qi ac.params 0) - 1), bot := T.grid.h } : TS) F := ⟨_, _, _, _, _, _, _, _, _, _, _, _, af⟩
   have bB : Ch F w aJ := da.mono (fun i _ h => h ▸ d); have mQ := h9.lt; have db : Lim W H ({ T with top := ((qi ac.params 0) - 1), bot := T.grid.h } : TS) := { hL with tb := ⟨(show (0 : Int) ≤ ((qi ac.params 0) - 1) by omega), (show (((qi ac.params 0) - 1) : Int) < T.grid.h by omega), (show (T.grid.h : Int) ≤ H by omega)⟩ }
   have hc := af.scalar (T' := ({ T with top := ((qi ac.params 0) - 1), bot := T.grid.h } : TS)) (Ch.refl (· = t) aJ) (Blk.to d9 (by kernel_rfl)) rfl rfl rfl rfl; have dc := af.cht (Ch.refl (· = t) aJ); have hd := hc.pk1 af dc; refine yo (yQ (qbM hd h8.tb db  (1) (1) (by constructor <;> omega) (by constructor <;> omega)) ?_); rintro dd ⟨hf, hg⟩; obtain ⟨de, hh⟩ := TermAt.next ha dc hg hf; have df : Lim W H (qaV ({ T with top := ((qi ac.params 0) - 1), bot := T.grid.h } : TS) (1) (1)) := (qaN db (1) (1))
   generalize hj : (qaV ({ T with top := ((qi ac.params 0) - 1), bot := T.grid.h } : TS) (1) (1)) = T572 at de df; have hk := df; have mR := hk.all; obtain ⟨hl, mS, mT, mU, mV, mW, mX, mY, mZ, n0, n1, n2, aK⟩ := de; obtain ⟨n3, n4⟩ := aK.g1.head; have n5 : Df t hl := fun e => aK.t1 (e ▸ aK.g1.inF); refine yE (nB (qM ?_)); have bC := Ch.on hh (Ch.refl (· = t) dd) d; have hm := aK.pk2 (Ch.refl (· = t) dd) af bC; subst hj; refine ⟨rfl, TermAt.eq' (hm.mono (qr bB.size) (hI.moreOk (Nat.le_trans bB.size bC.size))) ?_, zt bB bC iZ⟩; simp only [qa5, q, n, r, p, s, A, B, v, D, E, C, I, K, J, G, M, ↓reduceIte, Int.reduceEq, Int.reduceLT, Int.reduceLE, sB]
  refine qp (nB (qM ?_)); have hn := hI.scalar (T' := T) j k rfl rfl rfl rfl; have dg := hI.cht j; have ho := hn.pk1 hI dg; refine ⟨rfl, TermAt.eq' ho ?_, dg⟩; simp only [qa5, q, n, r, p, s, A, B, v, D, E, C, I, K, J, G, M, ↓reduceIte, Int.reduceEq, Int.reduceLT, Int.reduceLE, sB]
 refine q7 <| yp 3 [] (.a (m.cs 0 6) .z) ?_; have ag := hI.scalar (T' := T) j k rfl rfl rfl rfl; have hp : TermAt f t T F := ⟨_, _, _, _, _, _, _, _, _, _, _, _, ag⟩
 have ah : Ch F w f := j.mono (fun i _ h => h ▸ d); have n6 := m.lt; have bD := ag.cht (Ch.refl (· = t) f); have hq := ag.pk1 ag bD; have hr := Q.mono (K' := fun b => ¬ more F f f b ∧ b < f.heap.size) (fun b hb => ⟨fun h => h.elim hb.1 (fun h => by have := hb.2; have := zs ah; omega), by have := hb.2; have := zs bD; have := zs ah; omega⟩); refine yo (yQ (edit_at hq u hL  hr hV8 hVb ((qi ac.params 0)) (by omega)) ?_); rintro dh ⟨hs, ht⟩; obtain ⟨di, hu⟩ := TermAt.next hp bD ht hs; have dj : Lim W H (qaJ T ac.last (qi ac.params 0) ac.params) := (qjo hL _ _ _)
 generalize hv : (qaJ T ac.last (qi ac.params 0) ac.params) = T596 at di dj; have hw := dj; have n7 := hw.all; obtain ⟨hx, n8, n9, na, nb, nc, nd, nf, ng, nh, ni, nj, aL⟩ := di; obtain ⟨nk, nl⟩ := aL.g1.head; have nm : Df t hx := fun e => aL.t1 (e ▸ aL.g1.inF); refine yE (nB (qM ?_)); have bE := Ch.on hu (Ch.refl (· = t) dh) d; have hy := aL.pk2 (Ch.refl (· = t) dh) ag bE; subst hv; refine ⟨rfl, TermAt.eq' (hy.mono (qr ah.size) (hI.moreOk (Nat.le_trans ah.size bE.size))) ?_, zt ah bE iZ⟩; simp only [qa5, q, n, r, p, s, A, B, v, D, E, C, I, K, ↓reduceIte, Int.reduceEq, Int.reduceLT, Int.reduceLE, sB]
set_option maxHeartbeats 4000000 in
theorem turn_at {w : World} {t : Nat} {W H : Int} {T : TS} {F : Nat → Prop} (hA0 : TermAt w t T F) (hT : LT w) (hL : Lim W H T) (b : Bool) : Calls Tryz.prog 118 [pX t, .bool b].toArray w fun e w' => e = .returned (.tuple #[]) ∧ TermAt w' t (qgy T b) (more F w w') ∧ Ch F w w' := by
 obtain ⟨g, o, ba, bn, bc, pa, pn, pc, F1, F2, FB, FP, hI⟩ := hA0; have hA0 : TermAt w t T F := ⟨g, o, ba, bn, bc, pa, pn, pc, F1, F2, FB, FP, hI⟩
 have s := hI.inF.1; obtain ⟨gv, aZ⟩ := hI.g1.head; have b0 : Df t g := fun e => hI.t1 (e ▸ hI.g1.inF); obtain ⟨⟨b1, b2⟩, ⟨b3, b4⟩, b5, b6⟩ := hI.g1.ok; have ac := hL; have b7 := ac.all; obtain ⟨b8, ad⟩ := hI.g2.head; have f : Df t o := fun e => hI.t2 (e ▸ hI.g2.inF); refine yA Tryz.func118 rfl <| ys <| ysr <| yp 6 [] (.l (hI.blk.c 95) .z) <| ye <| yc (rY (b == T.alt)) (fun m => ?_) fun m => ?_
 ·refine qd (rS (yR0 ?_)); have N := hI.cht (Ch.refl (· = t) w); have ae := hI.pk1 hI N; refine ⟨rfl, TermAt.eq' ae ?_, N⟩; exact if_pos m
 refine yk <| ysr <| yq 4 <| yo (yS hI.blk fun b9 af O => ?_); have ag := zt (Ch.refl (· = t) w) O (fun i hi (h : i = t) => h); have ah := ad.ch O (fun h => f h.symm); refine ye <| ys <| yD [12, 15] fun bb bd v => ?_; have ai := zt ag v eZ; have aj := ah.ch v id; have A := af.ch v id; refine yd (uL 0 12) [] (.l (A.c 1) (.l (A.c 0) .z)) <| yK 12 (yS A fun bf ak P => ?_); have al := zt ai P (fun i hi (h : i = t) => h); have am := aj.ch P (fun h => f h.symm); refine q9 <| yd [13, 14] [] .z <| yK 15 (yS ak fun bg an Q => ?_); have ao := zt al Q (fun i hi (h : i = t) => h); have ap := am.ch Q (fun h => f h.symm); refine q9 <| yDe (nS ?_); refine ys <| yD [12, 15] fun bh bi B => ?_; have aq := zt ao B eZ; have ar := ap.ch B id; have au := an.ch B id; have C : Blk _ t (TS.vals ({ T with grid := T.other, other := T.grid, alt := b } : TS) o g (.slice ba bn bc) (.slice pa pn pc)) qV := Blk.to au (by kernel_rfl); refine yd (uL 0 12) [] (.a (C.cs 18 8) (.a (C.cs 2 8) .z)) <| yK 12 (yS C fun bj av R => ?_); have ax := zt aq R (fun i hi (h : i = t) => h); have ay := ar.ch R (fun h => f h.symm); refine q9 <| yd [13, 14] [] .z <| yK 15 (yS av fun bk S U => ?_); have D := zt ax U (fun i hi (h : i = t) => h); have az := ay.ch U (fun h => f h.symm); refine q9 <| yDe (nS ?_); refine yx 1 <| yc (rY b) (fun E => ?_) fun E => ?_
 ·refine ysr ?_; have V : Blk _ t (TS.vals ({ T with grid := T.other, other := T.grid, cursor := T.away, away := T.cursor, alt := b } : TS) o g (.slice ba bn bc) (.slice pa pn pc)) qV := Blk.to S (by kernel_rfl); refine yp 7 [] (.a (V.cs 18 8) .z) <| yo (yS V fun bl X Y => ?_); have Z := zt D Y (fun i hi (h : i = t) => h); have aA := az.ch Y (fun h => f h.symm); refine ye <| ysr <| yp 8 [] (.l (X.c 0) (.l (aA.c 1) .z)) <| ye <| q8 ?_; have aB : Lim W H ({ T with grid := T.other, other := T.grid, away := T.cursor, alt := b } : TS) := { hL with aw := ⟨⟨(show (0 : Int) ≤ T.cursor.x by omega), (show (T.cursor.x : Int) < W by omega)⟩, (show (0 : Int) ≤ T.cursor.y by omega), (show (T.cursor.y : Int) < H by omega)⟩, g1 := ⟨hL.g2.1, hL.g2.2⟩, g2 := ⟨hL.g1.1, hL.g1.2⟩ }
  have aC := hI.swap (T' := ({ T with grid := T.other, other := T.grid, away := T.cursor, alt := b } : TS)) Z (Blk.to X (by kernel_rfl)) rfl rfl rfl rfl; have a0 := hI.cht Z; have aD := aC.pk1 hI a0; refine qN [0, 57, 58] (f' := [(0, pX t), (57, iX T.other.h), (58, iX 0)]) <| qw (σ := Nat) (fun k => [(0, pX t), (57, iX T.other.h), (58, iX ((k : Nat) : Int))]) (fun k u => k ≤ T.other.h.toNat ∧ (TermAt u t (qgA ({ T with grid := T.other, other := T.grid, away := T.cursor, alt := b } : TS) k) (more F w u) ∧ Ch F w u)) (fun k => T.other.h.toNat - k) 0 rfl ?_ ?_
  ·exact ⟨Nat.zero_le _, (TermAt.eq' aD rfl), a0⟩
  intro k G aE bm aF; obtain ⟨hk, a1, I⟩ := aE; have aG := qz I hT (fun b hb => hI.hi b hb); have J : Lim W H (qgA ({ T with grid := T.other, other := T.grid, away := T.cursor, alt := b } : TS) k) := (qkn aB k)
  generalize a2 : (qgA ({ T with grid := T.other, other := T.grid, away := T.cursor, alt := b } : TS) k) = d at a1 J; have aH := J; have bo := aH.all; obtain ⟨aI, bp, bq, br, bs, bt, bu, bv, bw, bx, bz, bA, j⟩ := a1; obtain ⟨bB, aJ⟩ := j.g1.head; have bC : Df t aI := fun e => j.t1 (e ▸ j.g1.inF); refine yx 1 <| ys <| yc (rL ((k : Nat) : Int) T.other.h) (fun aK => ?_) fun aK => ?_
  ·refine yk <| ys <| q8 <| yx 2 <| yD [13] fun aL bD n => ?_; have p := zt (Ch.refl (· = t) G) n eZ; have aM := qz n aG (fun _ h => h.elim); have K := j.blk.ch n id; have aN := aJ.ch n id; refine yd (uL 0 13) [] (.l (K.c 0) (.l (K.c 0) (.l (aN.c 0) .z))) ?_; have a3 := j.scalar (T' := d) p K rfl rfl rfl rfl; have L := Ch.on I p s; have bE := a3.pk2 p hI L; have q := a3.mono (F' := more F w aL) (fun b hb => hb.elim .inl (fun h2 => .inr ⟨h2.1, by have := zs p; omega⟩)) (hI.moreOk L.size); refine yK 13 (yQ (qaK _ _ _ (((k : Nat) : Int)) (0) (d.grid.w) qc0 _ aM.tb q.g1) ?_); rintro a4 ⟨aP, M⟩; obtain ⟨a5, aQ⟩ := TermAt.next hA0 L (q.chF M) ⟨_, _, _, _, _, _, _, _, _, _, _, _, q.grid1 M aP (fun _ h => h)⟩; have bF := q.chF M; have a6 : Lim W H ({ d with grid := (qT d.grid (((k : Nat) : Int)) (0) (d.grid.w) qc0) } : TS) := J.grid (qad _ _ _ _ _); generalize aR : ({ d with grid := (qT d.grid (((k : Nat) : Int)) (0) (d.grid.w) qc0) } : TS) = T115 at a5 a6; have aS := a6; have bG := aS.all; obtain ⟨aT, bH, bI, bJ, bK, bL, bM, bN, bO, bP, bQ, bR, r⟩ := a5; obtain ⟨bS, bT⟩ := r.g1.head; have bU : Df t aT := fun e => r.t1 (e ▸ r.g1.inF); refine q9 <| yDe (nB (nS ?_)); refine q7 <| yp 2 [] (.q6 (((k : Nat) : Int) + 1) .z) ?_; have a7 := Ch.on aQ (Ch.refl (· = t) a4) s; have aU := r.pk2 (Ch.refl (· = t) a4) hI a7; refine yE (fun a ha => aF (k + 1) _ ⟨(by omega), (TermAt.eq' aU (by subst aR; subst a2; rfl)), a7⟩ (by show T.other.h.toNat - (k + 1) < T.other.h.toNat - k; omega) a (ha.kp [0, 57, 58]))
  have aV : k = T.other.h.toNat := by omega
  refine qk (eS (qf (qe (qM ?_)))); have a8 := Ch.on I (Ch.refl (· = t) G) s; have aW := j.pk2 (Ch.refl (· = t) G) hI a8; subst a2; subst aV; refine ⟨rfl, TermAt.eq' aW ?_, a8⟩; exact (if_neg (by rw [m]; decide)).trans (if_pos E)
 refine qp (qM ?_); have aX := hI.swap (T' := ({ T with grid := T.other, other := T.grid, cursor := T.away, away := T.cursor, alt := b } : TS)) D (Blk.to S (by kernel_rfl)) rfl rfl rfl rfl; have a9 := hI.cht D; have aY := aX.pk1 hI a9; refine ⟨rfl, TermAt.eq' aY ?_, a9⟩; exact (if_neg (by rw [m]; decide)).trans (if_neg (by rw [E]; decide))
set_option maxHeartbeats 4000000 in
theorem qm8 {w : World} {t : Nat} {W H : Int} {T : TS} {F : Nat → Prop} (hA0 : TermAt w t T F) (hT : LT w) (hL : Lim W H T) (n : Int) (b : Bool) : Calls Tryz.prog 102 [pX t, iX n, .bool b].toArray w fun e w' => e = .returned (.tuple #[]) ∧ TermAt w' t (qay T n b) (more F w w') ∧ Ch F w w' := by
 obtain ⟨g, o, ba, bn, bc, pa, pn, pc, U, V, FB, FP, hI⟩ := hA0; have hA0 : TermAt w t T F := ⟨g, o, ba, bn, bc, pa, pn, pc, U, V, FB, FP, hI⟩
 have m := hI.inF.1; obtain ⟨gv, ax⟩ := hI.g1.head; have ay : Df t g := fun e => hI.t1 (e ▸ hI.g1.inF); obtain ⟨⟨az, aA⟩, ⟨aB, aC⟩, aD, aE⟩ := hI.g1.ok; have X := hL; have aF := X.all; refine yA Tryz.func102 rfl <| yx 1 <| q8 <| yx 2 <| yc (rE n 6) (fun d => ?_) fun d => ?_
 ·refine ysr <| yq 4 <| yo (yS hI.blk fun aG Y r => ?_); have s := zt (Ch.refl (· = t) w) r (fun i hi (h : i = t) => h); have Z := qz r hT (fun b (h : b = t) => h ▸ hI.hi t m); refine ye <| q7 <| yq 1 ?_; have u : Lim W H ({ T with origin := b } : TS) := { hL with  }
  have a0 := hI.scalar (T' := ({ T with origin := b } : TS)) s (Blk.to Y (by kernel_rfl)) rfl rfl rfl rfl; have v := hI.cht s; have a1 := a0.pk1 hI v; refine yo (yQ (qbM a1 Z.tb u  (1) (1) (by constructor <;> omega) (by constructor <;> omega)) ?_); rintro A ⟨a2, a3⟩; obtain ⟨B, a4⟩ := TermAt.next hA0 v a3 a2; have C : Lim W H (qaV ({ T with origin := b } : TS) (1) (1)) := (qaN u (1) (1))
  generalize a5 : (qaV ({ T with origin := b } : TS) (1) (1)) = T29 at B C; have a6 := C; have aH := a6.all; obtain ⟨a7, aI, aJ, aK, aL, aM, aN, aO, aP, aQ, aR, aS, j⟩ := B; obtain ⟨aT, aU⟩ := j.g1.head; have aV : Df t a7 := fun e => j.t1 (e ▸ j.g1.inF); refine yE (nB (qM ?_)); have D := Ch.on a4 (Ch.refl (· = t) A) m; have a8 := j.pk2 (Ch.refl (· = t) A) hI D; subst a5; refine ⟨rfl, TermAt.eq' a8 ?_, D⟩; simp only [qay, d, ↓reduceIte, Int.reduceEq, Int.reduceLT, Int.reduceLE, sB]
 refine yx 2 <| yc (rE n 7) (fun f => ?_) fun f => ?_
 ·refine ysr <| yq 4 <| yo (yS hI.blk fun aW p a9 => ?_); have E := zt (Ch.refl (· = t) w) a9 (fun i hi (h : i = t) => h); refine ye <| q7 <| yp 7 [] (.l (p.c 4) .z) <| yw [27] (rY T.cursor.late) (fun a => ?_) fun a => ?_
  ·refine yq 12 <| yo (yS p fun aX aa ab => ?_); have G := zt E ab (fun i hi (h : i = t) => h); refine yE (nB (qM ?_)); have ac := hI.scalar (T' := ({ T with cursor := (Cur.mk T.cursor.x T.cursor.y b T.cursor.sty), wrap := b } : TS)) G (Blk.to aa (by kernel_rfl)) rfl rfl rfl rfl; have I := hI.cht G; have ad := ac.pk1 hI I; refine ⟨rfl, TermAt.eq' ad ?_, I⟩; simp only [qay, d, f, a, ↓reduceIte, Int.reduceEq, Int.reduceLT, Int.reduceLE, sB]
  refine yq 12 <| yo (yS p fun aY ae af => ?_); have J := zt E af (fun i hi (h : i = t) => h); refine yE (nB (qM ?_)); have ag := hI.scalar (T' := ({ T with cursor := (Cur.mk T.cursor.x T.cursor.y false T.cursor.sty), wrap := b } : TS)) J (Blk.to ae (by kernel_rfl)) rfl rfl rfl rfl; have K := hI.cht J; have ah := ag.pk1 hI K; refine ⟨rfl, TermAt.eq' ah ?_, K⟩; simp only [qay, d, f, a, ↓reduceIte, Int.reduceEq, Int.reduceLT, Int.reduceLE, sB]
 refine yx 2 <| yc (rE n 25) (fun a => ?_) fun a => ?_
 ·refine q7 <| yq 5 <| yo (yS hI.blk fun aZ ai aj => ?_); have L := zt (Ch.refl (· = t) w) aj (fun i hi (h : i = t) => h); refine yE (nB (qM ?_)); have ak := hI.scalar (T' := ({ T with hidden := (!b) } : TS)) L (Blk.to ai (by kernel_rfl)) rfl rfl rfl rfl; have M := hI.cht L; have al := ak.pk1 hI M; refine ⟨rfl, TermAt.eq' al ?_, M⟩; simp only [qay, d, f, a, ↓reduceIte, Int.reduceEq, Int.reduceLT, Int.reduceLE, sB]
 refine yx 2 <| yc (rE n 1049) (fun q => ?_) fun q => ?_
 ·refine q7 <| yq 2 ?_; have N := hI.cht (Ch.refl (· = t) w); have am := hI.pk1 hI N; refine yo (yQ (turn_at am hT hL  b) ?_); rintro O ⟨an, ao⟩; obtain ⟨P, ap⟩ := TermAt.next hA0 N ao an; have Q : Lim W H (qgy T b) := (qgB hL _)
  generalize aq : (qgy T b) = T84 at P Q; have ar := Q; have b0 := ar.all; obtain ⟨au, b1, b2, b3, b4, b5, b6, b7, b8, b9, bb, bd, k⟩ := P; obtain ⟨bf, bg⟩ := k.g1.head; have bh : Df t au := fun e => k.t1 (e ▸ k.g1.inF); refine yE (nB (qM ?_)); have R := Ch.on ap (Ch.refl (· = t) O) m; have av := k.pk2 (Ch.refl (· = t) O) hI R; subst aq; refine ⟨rfl, TermAt.eq' av ?_, R⟩; simp only [qay, d, f, a, q, ↓reduceIte, Int.reduceEq, Int.reduceLT, Int.reduceLE, sB]
 refine qp (nB (qM ?_)); have S := hI.cht (Ch.refl (· = t) w); have aw := hI.pk1 hI S; refine ⟨rfl, TermAt.eq' aw ?_, S⟩; simp only [qay, d, f, a, q, ↓reduceIte, Int.reduceEq, Int.reduceLT, Int.reduceLE, sB]
theorem qfP (l : List Int) (T : TS) (b : Bool) {k : Nat} (h : k < l.length) : (l.take (k + 1)).foldl (fun T n => qay T n b) T = qay ((l.take k).foldl (fun T n => qay T n b) T) (l.getD k 0) b := by
 rw [List.take_succ_eq_append_getElem h, List.foldl_append]; simp [List.getD, List.getElem?_eq_getElem h]
set_option maxHeartbeats 4000000 in
theorem csi_at {w : World} {t : Nat} {W H : Int} {T : TS} {F : Nat → Prop} (hA0 : TermAt w t T F) (hT : LT w) (hL : Lim W H T) {ao : Option Nat} {an cc : Nat} {ac : Ac} (hV : IntsAt w .i64 ao an cc ac.params (fun b => ¬ F b ∧ b < w.heap.size)) (hV8 : an ≤ 8) (hVb : ∀ x ∈ ac.params, 0 ≤ x ∧ x ≤ 9999) : Calls Tryz.prog 82 [pX t, .agg #[iX ac.kind, rX ac.rune, uX ac.last, .string ac.marks, .slice (ao.map at0) an cc, .string ac.text]].toArray w fun e w' => e = .returned (.tuple #[]) ∧ TermAt w' t (qii T ac) (more F w w') ∧ Ch F w w' := by
 obtain ⟨g, o, ba, bn, bc, pa, pn, pc, F1, F2, FB, FP, hI⟩ := hA0; have hA0 : TermAt w t T F := ⟨g, o, ba, bn, bc, pa, pn, pc, F1, F2, FB, FP, hI⟩
 have f := hI.inF.1; obtain ⟨gv, c4⟩ := hI.g1.head; have c5 : Df t g := fun e => hI.t1 (e ▸ hI.g1.inF); obtain ⟨⟨c6, c7⟩, ⟨c8, c9⟩, ca, cb⟩ := hI.g1.ok; have aQ := hL; have cd := aQ.all; have ae : ac.params.length = an := hV.2.1; refine yA Tryz.func82 rfl <| ysr <| yo (yN [iX ac.kind, rX ac.rune, uX ac.last, .string ac.marks, .slice (ao.map at0) an cc, .string ac.text] 115 fun d p aR ce j M => ?_); have cf : w.heap.size ≤ p := by rw [aR]; exact zs (Ch.refl (· = t) w)
 have m := zt (Ch.refl (· = t) w) M eZ; have v := hI.blk.ch M id; have Z := qz M hT (fun _ h => h.elim); have a0 := hV.ch M iZ; refine ye <| q8 <| ysr <| yp 4 [] (.l (j.c 3) .z) <| ye <| yc (rY ((ac.marks).toList == (ByteArray.empty).toList)) (fun q => ?_) fun q => ?_
 ·refine q7 <| yp 2 [] (.a (j.cs 0 6) .z) ?_; have C := hI.scalar (T' := T) m v rfl rfl rfl rfl; have aS : TermAt d t T F := ⟨_, _, _, _, _, _, _, _, _, _, _, _, C⟩
  have D : Ch F w d := m.mono (fun i _ h => h ▸ f); have cg := j.lt; have a1 := C.cht (Ch.refl (· = t) d); have aT := C.pk1 C a1; have aU := a0.mono (K' := fun b => ¬ more F d d b ∧ b < d.heap.size) (fun b hb => ⟨fun h => h.elim hb.1 (fun h => by have := hb.2; have := zs D; omega), by have := hb.2; have := zs a1; have := zs D; omega⟩); refine yo (yQ (plain_at aT Z hL  aU hV8 hVb) ?_); rintro af ⟨aV, aW⟩; obtain ⟨ag, aX⟩ := TermAt.next aS a1 aW aV; have ah : Lim W H (qa5 T ac.last ac.params) := (qhE hL _ _)
  generalize aY : (qa5 T ac.last ac.params) = T40 at ag ah; have aZ := ah; have ci := aZ.all; obtain ⟨b0, cj, ck, cl, cm, cn, co, cp, cq, cr, ct, cu, N⟩ := ag; obtain ⟨cv, cw⟩ := N.g1.head; have cx : Df t b0 := fun e => N.t1 (e ▸ N.g1.inF); refine yE (nB (qM ?_)); have a2 := Ch.on aX (Ch.refl (· = t) af) f; have b1 := N.pk2 (Ch.refl (· = t) af) C a2; subst aY; refine ⟨rfl, TermAt.eq' (b1.mono (qr D.size) (hI.moreOk (Nat.le_trans D.size a2.size))) ?_, zt D a2 iZ⟩; simp only [qii, q, ↓reduceIte, Int.reduceEq, Int.reduceLT, Int.reduceLE, sB]
 refine ysr <| yp 4 [] (.l (j.c 3) .z) <| yw [17] (rY ((ac.marks).toList == ((⟨#[63]⟩ : ByteArray)).toList)) (fun y => ?_) fun y => ?_
 ·refine yp 8 [] (.l (j.c 2) .z) <| yw [21] (rE ac.last 104) (fun B => ?_) fun B => ?_
  ·refine yz 14 <| yct <| ysr <| yp 4 [] (.l (j.c 4) .z) <| ye <| q8 ?_; rcases ao with _ | ab
   ·have a3 : ac.params = [] := by have := hV.1.1 rfl; simpa using this
    have b2 : an = 0 := by have := hV.2.1; rw [a3] at this; exact this.symm
    have E := hI.scalar (T' := T) m v rfl rfl rfl rfl; have cy : TermAt d t T F := ⟨_, _, _, _, _, _, _, _, _, _, _, _, E⟩
    have a4 : Ch F w d := m.mono (fun i _ h => h ▸ f); have cz := j.lt; have ai := E.cht (Ch.refl (· = t) d); have b3 := E.pk1 E ai; refine qN [0, 3, 28, 29, 30] (f' := [(0, pX t), (3, pX p), (28, .slice none an cc), (29, iX ((an : Nat) : Int)), (30, iX 0)]) <| qw (σ := Nat) (fun k => [(0, pX t), (3, pX p), (28, .slice none an cc), (29, iX ((an : Nat) : Int)), (30, iX ((k : Nat) : Int))]) (fun k u => k ≤ an ∧ (TermAt u t ((ac.params.take k).foldl (fun T n => qay T n ((ac.last : Int) == 104)) T) (more F d u) ∧ Ch F d u)) (fun k => an - k) 0 rfl ?_ ?_
    ·exact ⟨Nat.zero_le _, (TermAt.eq' b3 rfl), ai⟩
    intro k aj b4 cA cB; obtain ⟨hk, ak, b5⟩ := b4; have al : Lim W H ((ac.params.take k).foldl (fun T n => qay T n ((ac.last : Int) == 104)) T) := (qcC hL _ _)
    generalize b6 : ((ac.params.take k).foldl (fun T n => qay T n ((ac.last : Int) == 104)) T) = T64 at ak al; have b7 := al; have cC := b7.all; obtain ⟨b8, cD, cE, cF, cG, cH, cI, cJ, cK, cL, cM, cN, O⟩ := ak; obtain ⟨cO, cP⟩ := O.g1.head; have cQ : Df t b8 := fun e => O.t1 (e ▸ O.g1.inF); refine yx 1 <| ys <| yc (rL ((k : Nat) : Int) ((an : Nat) : Int)) (fun b9 => ?_) fun b9 => ?_
    ·exfalso; omega
    have A : k = ac.params.length := by omega
    refine qk (eS (qf (qe (nB (qM ?_))))); have a5 := Ch.on b5 (Ch.refl (· = t) aj) f; have bb := O.pk2 (Ch.refl (· = t) aj) E a5; subst b6; subst A; refine ⟨rfl, TermAt.eq' (bb.mono (qr a4.size) (hI.moreOk (Nat.le_trans a4.size a5.size))) ?_, zt a4 a5 iZ⟩; simp only [qii, List.take_length, q, y, B, ↓reduceIte, Int.reduceEq, Bool.false_eq_true, and_true, true_and, or_true, true_or, or_false, false_or]
   have ae : ac.params.length = an := hV.2.1; have r := hI.scalar (T' := T) m v rfl rfl rfl rfl; have bd : TermAt d t T F := ⟨_, _, _, _, _, _, _, _, _, _, _, _, r⟩
   have a6 : Ch F w d := m.mono (fun i _ h => h ▸ f); have cR := j.lt; have am := r.cht (Ch.refl (· = t) d); have bf := r.pk1 r am; refine qN [0, 3, 28, 29, 30] (f' := [(0, pX t), (3, pX p), (28, .slice (some ⟨ab, 0, none⟩) an cc), (29, iX ((an : Nat) : Int)), (30, iX 0)]) <| qw (σ := Nat) (fun k => [(0, pX t), (3, pX p), (28, .slice (some ⟨ab, 0, none⟩) an cc), (29, iX ((an : Nat) : Int)), (30, iX ((k : Nat) : Int))]) (fun k u => k ≤ an ∧ (TermAt u t ((ac.params.take k).foldl (fun T n => qay T n ((ac.last : Int) == 104)) T) (more F d u) ∧ Ch F d u)) (fun k => an - k) 0 rfl ?_ ?_
   ·exact ⟨Nat.zero_le _, (TermAt.eq' bf rfl), am⟩
   intro k P bg cS bh; obtain ⟨hk, ap, G⟩ := bg; have bi := qz G Z (fun b hb => r.hi b hb); have bj := a0.ch G (fun b hb h => hb.1 h); have bk := j.ch G (fun h => by have := hI.lt _ h; omega); have Q : Lim W H ((ac.params.take k).foldl (fun T n => qay T n ((ac.last : Int) == 104)) T) := (qcC hL _ _)
   generalize aq : ((ac.params.take k).foldl (fun T n => qay T n ((ac.last : Int) == 104)) T) = ar at ap Q; have bl := Q; have cT := bl.all; obtain ⟨bm, cU, cV, cW, cX, cY, cZ, d0, d1, d2, d3, d4, I⟩ := ap; obtain ⟨d5, d6⟩ := I.g1.head; have d7 : Df t bm := fun e => I.t1 (e ▸ I.g1.inF); refine yx 1 <| ys <| yc (rL ((k : Nat) : Int) ((an : Nat) : Int)) (fun bo => ?_) fun bo => ?_
   ·refine yk <| ys <| q8 <| ysr <| yp 3 [] (.i ((k : Nat) : Int) (an) (.l (o := (0 + (((k : Nat) : Int)).toNat * 1)) (qbj bj.1 k (by omega)) .z)) <| ye <| q7 <| yp 5 [] (.l (bk.c 2) .z) ?_; have au := Ch.on G (Ch.refl (· = t) P) f; have bp := I.pk2 (Ch.refl (· = t) P) r au; refine yo (yQ (qm8 bp bi Q  ((ac.params.getD k 0)) ((ac.last : Int) == 104)) ?_); rintro av ⟨bq, br⟩; obtain ⟨aw, bs⟩ := TermAt.next bd au br bq; have ax : Lim W H (qay ar ((ac.params.getD k 0)) ((ac.last : Int) == 104)) := (qgC Q _ _)
    generalize bt : (qay ar ((ac.params.getD k 0)) ((ac.last : Int) == 104)) = T102 at aw ax; have bu := ax; have d8 := bu.all; obtain ⟨bv, d9, da, db, dc, dd, de, df, dg, dh, di, dj, R⟩ := aw; obtain ⟨dk, dl⟩ := R.g1.head; have dm : Df t bv := fun e => R.t1 (e ▸ R.g1.inF); refine yE (nB (nS ?_)); refine q7 <| yp 2 [] (.q6 (((k : Nat) : Int) + 1) .z) ?_; have ay := Ch.on bs (Ch.refl (· = t) av) f; have bw := R.pk2 (Ch.refl (· = t) av) r ay; refine yE (fun a ha => bh (k + 1) _ ⟨(by omega), (TermAt.eq' bw (by subst bt; subst aq; exact qfP _ _ _ (by omega))), ay⟩ (by show an - (k + 1) < an - k; omega) a (ha.kp [0, 3, 28, 29, 30]))
   have A : k = ac.params.length := by omega
   refine qk (eS (qf (qe (nB (qM ?_))))); have a7 := Ch.on G (Ch.refl (· = t) P) f; have bx := I.pk2 (Ch.refl (· = t) P) r a7; subst aq; subst A; refine ⟨rfl, TermAt.eq' (bx.mono (qr a6.size) (hI.moreOk (Nat.le_trans a6.size a7.size))) ?_, zt a6 a7 iZ⟩; simp only [qii, List.take_length, q, y, B, ↓reduceIte, Int.reduceEq, Bool.false_eq_true, and_true, true_and, or_true, true_or, or_false, false_or]
  refine yp 14 [] (.l (j.c 2) .z) <| ye <| yc (rE ac.last 108) (fun S => ?_) fun S => ?_
  ·refine ysr <| yp 4 [] (.l (j.c 4) .z) <| ye <| q8 ?_; rcases ao with _ | ab
   ·have a3 : ac.params = [] := by have := hV.1.1 rfl; simpa using this
    have b2 : an = 0 := by have := hV.2.1; rw [a3] at this; exact this.symm
    have J := hI.scalar (T' := T) m v rfl rfl rfl rfl; have dn : TermAt d t T F := ⟨_, _, _, _, _, _, _, _, _, _, _, _, J⟩
    have a8 : Ch F w d := m.mono (fun i _ h => h ▸ f); have dp := j.lt; have az := J.cht (Ch.refl (· = t) d); have bz := J.pk1 J az; refine qN [0, 3, 28, 29, 30] (f' := [(0, pX t), (3, pX p), (28, .slice none an cc), (29, iX ((an : Nat) : Int)), (30, iX 0)]) <| qw (σ := Nat) (fun k => [(0, pX t), (3, pX p), (28, .slice none an cc), (29, iX ((an : Nat) : Int)), (30, iX ((k : Nat) : Int))]) (fun k u => k ≤ an ∧ (TermAt u t ((ac.params.take k).foldl (fun T n => qay T n ((ac.last : Int) == 104)) T) (more F d u) ∧ Ch F d u)) (fun k => an - k) 0 rfl ?_ ?_
    ·exact ⟨Nat.zero_le _, (TermAt.eq' bz rfl), az⟩
    intro k aA bA dq dr; obtain ⟨hk, aB, bB⟩ := bA; have aC : Lim W H ((ac.params.take k).foldl (fun T n => qay T n ((ac.last : Int) == 104)) T) := (qcC hL _ _)
    generalize bC : ((ac.params.take k).foldl (fun T n => qay T n ((ac.last : Int) == 104)) T) = T127 at aB aC; have bD := aC; have ds := bD.all; obtain ⟨bE, dt, du, dv, dw, dx, dy, dz, dA, dB, dC, dD, U⟩ := aB; obtain ⟨dE, dF⟩ := U.g1.head; have dG : Df t bE := fun e => U.t1 (e ▸ U.g1.inF); refine yx 1 <| ys <| yc (rL ((k : Nat) : Int) ((an : Nat) : Int)) (fun bF => ?_) fun bF => ?_
    ·exfalso; omega
    have A : k = ac.params.length := by omega
    refine qk (eS (qf (qe (nB (qM ?_))))); have a9 := Ch.on bB (Ch.refl (· = t) aA) f; have bG := U.pk2 (Ch.refl (· = t) aA) J a9; subst bC; subst A; refine ⟨rfl, TermAt.eq' (bG.mono (qr a8.size) (hI.moreOk (Nat.le_trans a8.size a9.size))) ?_, zt a8 a9 iZ⟩; simp only [qii, List.take_length, q, y, B, S, ↓reduceIte, Int.reduceEq, Bool.false_eq_true, and_true, true_and, or_true, true_or, or_false, false_or]
   have ae : ac.params.length = an := hV.2.1; have s := hI.scalar (T' := T) m v rfl rfl rfl rfl; have bH : TermAt d t T F := ⟨_, _, _, _, _, _, _, _, _, _, _, _, s⟩
   have aa : Ch F w d := m.mono (fun i _ h => h ▸ f); have dH := j.lt; have aD := s.cht (Ch.refl (· = t) d); have bI := s.pk1 s aD; refine qN [0, 3, 28, 29, 30] (f' := [(0, pX t), (3, pX p), (28, .slice (some ⟨ab, 0, none⟩) an cc), (29, iX ((an : Nat) : Int)), (30, iX 0)]) <| qw (σ := Nat) (fun k => [(0, pX t), (3, pX p), (28, .slice (some ⟨ab, 0, none⟩) an cc), (29, iX ((an : Nat) : Int)), (30, iX ((k : Nat) : Int))]) (fun k u => k ≤ an ∧ (TermAt u t ((ac.params.take k).foldl (fun T n => qay T n ((ac.last : Int) == 104)) T) (more F d u) ∧ Ch F d u)) (fun k => an - k) 0 rfl ?_ ?_
   ·exact ⟨Nat.zero_le _, (TermAt.eq' bI rfl), aD⟩
   intro k V bJ dI bK; obtain ⟨hk, aE, K⟩ := bJ; have bL := qz K Z (fun b hb => s.hi b hb); have bM := a0.ch K (fun b hb h => hb.1 h); have bN := j.ch K (fun h => by have := hI.lt _ h; omega); have X : Lim W H ((ac.params.take k).foldl (fun T n => qay T n ((ac.last : Int) == 104)) T) := (qcC hL _ _)
   generalize aF : ((ac.params.take k).foldl (fun T n => qay T n ((ac.last : Int) == 104)) T) = aG at aE X; have bO := X; have dJ := bO.all; obtain ⟨bP, dK, dL, dM, dN, dO, dP, dQ, dR, dS, dT, dU, L⟩ := aE; obtain ⟨dV, dW⟩ := L.g1.head; have dX : Df t bP := fun e => L.t1 (e ▸ L.g1.inF); refine yx 1 <| ys <| yc (rL ((k : Nat) : Int) ((an : Nat) : Int)) (fun bQ => ?_) fun bQ => ?_
   ·refine yk <| ys <| q8 <| ysr <| yp 3 [] (.i ((k : Nat) : Int) (an) (.l (o := (0 + (((k : Nat) : Int)).toNat * 1)) (qbj bM.1 k (by omega)) .z)) <| ye <| q7 <| yp 5 [] (.l (bN.c 2) .z) ?_; have aH := Ch.on K (Ch.refl (· = t) V) f; have bR := L.pk2 (Ch.refl (· = t) V) s aH; refine yo (yQ (qm8 bR bL X  ((ac.params.getD k 0)) ((ac.last : Int) == 104)) ?_); rintro aI ⟨bS, bT⟩; obtain ⟨aJ, bU⟩ := TermAt.next bH aH bT bS; have aK : Lim W H (qay aG ((ac.params.getD k 0)) ((ac.last : Int) == 104)) := (qgC X _ _)
    generalize bV : (qay aG ((ac.params.getD k 0)) ((ac.last : Int) == 104)) = T165 at aJ aK; have bW := aK; have dY := bW.all; obtain ⟨bX, dZ, e0, e1, e2, e3, e4, e5, e6, e7, e8, e9, Y⟩ := aJ; obtain ⟨ea, eb⟩ := Y.g1.head; have ec : Df t bX := fun e => Y.t1 (e ▸ Y.g1.inF); refine yE (nB (nS ?_)); refine q7 <| yp 2 [] (.q6 (((k : Nat) : Int) + 1) .z) ?_; have aL := Ch.on bU (Ch.refl (· = t) aI) f; have bY := Y.pk2 (Ch.refl (· = t) aI) s aL; refine yE (fun a ha => bK (k + 1) _ ⟨(by omega), (TermAt.eq' bY (by subst bV; subst aF; exact qfP _ _ _ (by omega))), aL⟩ (by show an - (k + 1) < an - k; omega) a (ha.kp [0, 3, 28, 29, 30]))
   have A : k = ac.params.length := by omega
   refine qk (eS (qf (qe (nB (qM ?_))))); have ad := Ch.on K (Ch.refl (· = t) V) f; have bZ := L.pk2 (Ch.refl (· = t) V) s ad; subst aF; subst A; refine ⟨rfl, TermAt.eq' (bZ.mono (qr aa.size) (hI.moreOk (Nat.le_trans aa.size ad.size))) ?_, zt aa ad iZ⟩; simp only [qii, List.take_length, q, y, B, S, ↓reduceIte, Int.reduceEq, Bool.false_eq_true, and_true, true_and, or_true, true_or, or_false, false_or]
  refine qp (nB (qM ?_)); have c0 := hI.scalar (T' := T) m v rfl rfl rfl rfl; have aM := hI.cht m; have c1 := c0.pk1 hI aM; refine ⟨rfl, TermAt.eq' c1 ?_, aM⟩; simp only [qii, q, y, B, S, ↓reduceIte, Int.reduceEq, Int.reduceLT, Int.reduceLE, sB]
 refine yz 14 <| ycf <| qp (nB (qM ?_)); have c2 := hI.scalar (T' := T) m v rfl rfl rfl rfl; have aN := hI.cht m; have c3 := c2.pk1 hI aN; refine ⟨rfl, TermAt.eq' c3 ?_, aN⟩; simp only [qii, q, y, ↓reduceIte, Int.reduceEq, Int.reduceLT, Int.reduceLE, sB]
def TS.valsG (t : TS) (v0 v1 bk ps : Value) : List Value := v0 :: v1 :: (t.vals 0 0 bk ps).drop 2
theorem valsG_eq (t : TS) (g o : Nat) (bk ps : Value) : t.valsG (.pointer (some ⟨g, 0, none⟩)) (.pointer (some ⟨o, 0, none⟩)) bk ps = t.vals g o bk ps := by kernel_rfl
def qef (T : TS) (G : Gr) (b : Int) (k : Nat) : TS :=
 {grid := G, other := G, cursor := cur0, saved := cur0, away := cur0, top := 0, bot := b, tabs := qgz k, wrap := true, origin := false, insert := false, hidden := false, draw0 := false, draw1 := false, shift := false, alt := false, title := ByteArray.empty, back := [], parser := T.parser, reply := T.reply }
def qjp (T : TS) (G : Gr) : TS :=
 {grid := G, other := G, cursor := cur0, saved := cur0, away := cur0, top := 0, bot := 0, tabs := fun _ => false, wrap := true, origin := false, insert := false, hidden := false, draw0 := false, draw1 := false, shift := false, alt := false, title := ByteArray.empty, back := [], parser := T.parser, reply := T.reply }
theorem tabs0_0 : qgz 0 = fun _ => false := by
 funext i
 unfold qgz
 exact decide_eq_false (by omega)
theorem qkq (k : Nat) : qgz (k + 1) = fun i => if i = (8 + 8 * ((k : Nat) : Int)).toNat then true else qgz k i := by
 funext i
 unfold qgz
 by_cases h : i = (8 + 8 * ((k : Nat) : Int)).toNat
 ·rw [if_pos h]; exact decide_eq_true (by omega)
 ·rw [if_neg h]
  by_cases h2 : i % 8 = 0 ∧ 8 ≤ i ∧ i < 8 + 8 * k
  ·rw [decide_eq_true h2]; exact decide_eq_true (by omega)
  ·rw [decide_eq_false h2]; exact decide_eq_false (by omega)
theorem qkr (T : TS) (p1 p2 b : Int) (k : Nat) (hr : T.reply.size ≤ 400) (hb : b = qj p2) : Lim (qj p1) (qj p2) (qef T (qh5 p1 p2) b k) := by
 subst hb
 exact (qcD T p1 p2 hr).flags rfl rfl rfl rfl rfl rfl rfl rfl rfl
def PsAt (w : World) (t : Nat) (pa : Option Addr) (pn pc : Nat) (l : List Int) (FP : Nat → Prop) : Prop :=
 (Rd w pa (l.map (Value.int .i64)) ∧ l.length = pn ∧ (pa = none → pc = 0) ∧ ∀ ad, pa = some ad → FP ad.block) ∧ (∃ po : Option Nat, pa = po.map at0) ∧ ∀ b, FP b → b < w.heap.size ∧ gTop ≤ b ∧ b ≠ t
theorem start_in {w w1 w2 : World} {t g o : Nat} {pa : Option Addr} {pn pc : Nat} {T T0 : TS} {F1 F2 FP F : Nat → Prop} {G : Gr} (hP : PsAt w t pa pn pc T.parser.params FP) (ht : t < w.heap.size) (ht7 : gTop ≤ t) (hp : T0.parser.params = T.parser.params) (hk : T0.back = []) (hg : T0.grid = G) (ho : T0.other = G)
  (c1 : Ch (fun j => j = t) w w1) (s1 : ∀ b, F1 b → w.heap.size ≤ b ∧ b < w2.heap.size) (s2 : ∀ b, F2 b → w2.heap.size ≤ b) (c12 : w.heap.size ≤ w2.heap.size)
  (h1 : GridAt w1 g G F1) (h2 : GridAt w1 o G F2) (hb : Blk w1 t (T0.vals g o (.slice none 0 0) (.slice pa pn pc)) qV) (hF : F = fun b => b = t ∨ FP b ∨ (w.heap.size ≤ b ∧ b < w1.heap.size)) :
  TermIn w1 t g o none 0 0 pa pn pc T0 F F1 F2 (fun _ => False) FP := by
 obtain ⟨hP, hz, hf⟩ := hP
 subst hF
 exact
 {blk := hb
  g1 := by rw [hg]; exact h1
  g2 := by rw [ho]; exact h2
  bk := ⟨[], ⟨Rd.nil _ _, rfl, (fun x hx => by cases hx), (fun x hx => by cases hx), (fun ad e => by cases e), (fun b hb => hb.elim), fun b hb => hb.elim⟩, hk.symm⟩
  bcap := ⟨Nat.le_refl _, fun _ => rfl⟩
  ps := by rw [hp]; exact ⟨hP.1.ch c1 fun ad e e2 => (hf _ (hP.2.2.2 ad e)).2.2 e2, hP.2⟩
  pz := hz
  bz := .inl rfl
  t1 := fun h => by have := (s1 t h).1; omega
  t2 := fun h => by have := s2 t h; omega
  tB := fun h => h
  tP := fun h => (hf t h).2.2 rfl
  a12 := fun b x y => by have := s1 b x; have := s2 b y; omega
  a1B := fun b _ h => h
  a2B := fun b _ h => h
  a1P := fun b x y => by have := s1 b x; have := hf b y; omega
  a2P := fun b x y => by have := s2 b x; have := hf b y; omega
  inF := ⟨.inl rfl, fun b h => .inr (.inr ⟨(s1 b h).1, h1.lt b h⟩), fun b h => .inr (.inr ⟨by have := s2 b h; omega, h2.lt b h⟩), fun b h => h.elim, fun b h => .inr (.inl h)⟩
  lt := fun b h => h.elim (fun h => h ▸ hb.lt) fun h => h.elim (fun h => by have := hf b h; have := c1.size; omega) fun h => h.2
  hi := fun b h => h.elim (fun h => h ▸ ht7) fun h => h.elim (fun h => (hf b h).2.1) fun h => by omega }
set_option maxHeartbeats 4000000 in
theorem qhG {w : World} {t : Nat} {v0 v1 bk : Value} {pa : Option Addr} {pn pc : Nat} {T : TS} {FP : Nat → Prop} (hB0 : Blk w t (T.valsG v0 v1 bk (.slice pa pn pc)) qV) (hP : PsAt w t pa pn pc T.parser.params FP) (ht7 : gTop ≤ t) (hT : LT w) (hr : T.reply.size ≤ 400) (p1 p2 : Int) : Calls Tryz.prog 48 [pX t, iX p1, iX p2].toArray w fun e w' =>
 e = .returned (.tuple #[]) ∧ TermAt w' t (qa7 T p1 p2) (fun b => b = t ∨ FP b ∨ (w.heap.size ≤ b ∧ b < w'.heap.size)) ∧ Ch (fun b => b = t ∨ FP b) w w' := by
 have ht := hB0.lt; have aC : 1 ≤ qj p1 ∧ qj p1 ≤ 60 := by unfold qj; omega
 have aD : 1 ≤ qj p2 ∧ qj p2 ≤ 60 := by unfold qj; omega
 refine yA Tryz.func48 rfl <| ys <| yDC [17] fun aE aF s => ?_; have v := zt (Ch.refl (· = t) w) s eZ; have x := hB0.ch s id; have J := qz s hT (fun _ h => h.elim); refine ydC [0, 1, 2, 4, 5, 7, 8, 9, 10, 11, 12, 13, 14] [] (fun u hu => (.a (qE hu (x.cs 98 9) id) (.l (qg hu (x.c 107) id) .z))) <| yH 3 (yC (qlI p1 p2 _ J.tb (by have := ht; have := zs v; omega)) ?_); rintro _ K ⟨m, y, rfl, L, a1, o⟩; refine ⟨_, rfl, ?_⟩; have M : ∀ b, y b → w.heap.size ≤ b := fun b hb => Nat.le_trans (zs v) (a1 b hb); have p := zt v o eZ; have a2 := x.ch o id; have a3 := qz o J (fun _ h => h.elim); refine qU o ?_; have a4 := L.lt; have a5 := zs p; refine yH 6 (yC (qlI p1 p2 _ a3.tb (by have := ht; have := zs p; omega)) ?_); rintro _ aG ⟨A, N, rfl, a6, O, q⟩; refine ⟨_, rfl, ?_⟩; have a7 : ∀ b, N b → w.heap.size ≤ b := fun b hb => Nat.le_trans (zs p) (O b hb); have a8 := zt p q eZ; have a9 := a2.ch q id; have aa := L.ch q iZ; refine qU q <| ydC [15, 16] [] (fun u hu => .z) <| yK 17 (qa1 0 [pX m, pX A, iX 0, iX 0, .bool false, .bool false, .bool false, .bool false, iX 0, iX 0, iX 0, iX 0, .bool false, .bool false, .bool false, .bool false, iX 0, iX 0, iX 0, iX 0, .bool false, .bool false, .bool false, .bool false, iX 0, iX 0, iX 0, iX 0, .bool false, .bool false, .bool false, .bool false, .bool false, .bool false, .bool false, .bool false, .bool false, .bool false, .bool false, .bool false, .bool false, .bool false, .bool false, .bool false, .bool false, .bool false, .bool false, .bool false, .bool false, .bool false, .bool false, .bool false, .bool false, .bool false, .bool false, .bool false, .bool false, .bool false, .bool false, .bool false, .bool false, .bool false, .bool false, .bool false, .bool false, .bool false, .bool false, .bool false, .bool false, .bool false, .bool false, .bool false, .bool false, .bool false, .bool false, .bool false, .bool false, .bool false, .bool false, .bool false, .bool false, .bool false, .bool false, .bool false, .bool false, .bool false, .bool false, .bool false, .bool true, .bool false, .bool false, .bool false, .bool false, .bool false, .bool false, .bool false, oX, nX, iX T.parser.state, uX T.parser.utf.b0, uX T.parser.utf.b1, uX T.parser.utf.b2, iX T.parser.utf.n, .string T.parser.marks, .slice pa pn pc, .string T.parser.text, iX T.parser.within, .string T.reply] none (by kernel_rfl) a9 (qb5 (by kernel_rfl)) ?_)
 intro d g B; replace g : Blk d t (TS.vals (qjp T (qh5 p1 p2)) m A (nX) (.slice pa pn pc)) qV := Blk.to g (by kernel_rfl); have P := zt a8 B (fun i hi (h : i = t) => h); have ab := aa.ch B (fun b hb (h : b = t) => by have := M b hb; omega); have ac := a6.ch B (fun b hb (h : b = t) => by have := a7 b hb; omega); obtain ⟨F, C⟩ : ∃ F : Nat → Prop, F = fun b => b = t ∨ FP b ∨ (w.heap.size ≤ b ∧ b < d.heap.size) := ⟨_, rfl⟩
 have ad : ∀ b, y b → w.heap.size ≤ b ∧ b < K.heap.size := fun b hb => ⟨M b hb, a4 b hb⟩
 have hI : TermIn d t m A none 0 0 pa pn pc (qjp T (qh5 p1 p2)) F y N (fun _ => False) FP := start_in (T := T) (w2 := K) hP ht ht7 rfl rfl rfl rfl P ad O a5 ab ac g C; have Q : F t := hI.inF.1; have aH : TermAt d t (qjp T (qh5 p1 p2)) F := ⟨_, _, _, _, _, _, _, _, _, _, _, _, hI⟩
 have D := P; have aI := hI.blk.lt; obtain ⟨W, hW⟩ : ∃ W, W = qj p1 := ⟨_, rfl⟩
 obtain ⟨H, hH⟩ : ∃ H, H = qj p2 := ⟨_, rfl⟩
 obtain ⟨aJ, ae⟩ := hI.g1.head; have aK : Df t m := fun e => hI.t1 (e ▸ hI.g1.inF); refine q9 <| yDe (nS ?_); refine ysr <| yp 10 [] (.l (g.c 0) (.l (ae.c 1) .z)) <| yo (yS g fun aL af ag => ?_); have R := zt (Ch.refl (· = t) d) ag (fun i hi (h : i = t) => h); refine ye <| yx 1 <| q8 ?_; have ah := hI.scalar (T' := ({ (qjp T (qh5 p1 p2)) with bot := (qh5 p1 p2).h } : TS)) R (Blk.to af (by kernel_rfl)) rfl rfl rfl rfl; have S := hI.cht R; have ai := ah.pk1 hI S; refine qN [0, 6] (f' := [(0, pX t), (6, iX 8)]) <| qw (σ := Nat) (fun k => [(0, pX t), (6, iX (8 + 8 * ((k : Nat) : Int)))]) (fun k u => k ≤ 7 ∧ (TermAt u t (qef T (qh5 p1 p2) H k) (more F d u) ∧ Ch F d u)) (fun k => 7 - k) 0 rfl ?_ ?_
 ·exact ⟨(by omega), (TermAt.eq' ai (by subst hH; show qef T (qh5 p1 p2) (qj p2) 0 = _; unfold qef; rw [tabs0_0]; rfl)), S⟩
 intro k E aj aM ak; obtain ⟨hk, U, V⟩ := aj; have X : Lim W H (qef T (qh5 p1 p2) H k) := (hW ▸ hH ▸ qkr T p1 p2 (qj p2) k hr rfl)
 generalize Y : (qef T (qh5 p1 p2) H k) = j at U X; have al := X; have aN := al.all; obtain ⟨Z, am, an, ao, ap, aq, ar, au, aO, aP, aQ, aR, f⟩ := U; obtain ⟨aS, aT⟩ := f.g1.head; have aU : Df t Z := fun e => f.t1 (e ▸ f.g1.inF); refine ys <| yx 2 <| yc (rL (8 + 8 * ((k : Nat) : Int)) 60) (fun av => ?_) fun av => ?_
 ·refine yk <| ys <| q8 <| q7 <| yp 5 [] (.i (8 + 8 * ((k : Nat) : Int)) (60) .z) <| yo (qa1 (28 + ((8 + 8 * ((k : Nat) : Int)) : Int).toNat * 1) [.bool true] none (by kernel_rfl) f.blk (by rw [qbi]; simp only [List.length_cons, List.length_nil]; omega) ?_); intro aw G ax; replace G : Blk aw t (TS.vals ({ j with tabs := (fun i => if i = ((8 + 8 * ((k : Nat) : Int)) : Int).toNat then true else j.tabs i) } : TS) Z am (.slice an ao ap) (.slice aq ar au)) qV := Blk.to G (qew j _ _ _ _ _ (by omega) _); have I := zt (Ch.refl (· = t) E) ax (fun i hi (h : i = t) => h); refine yE (nB (nS ?_)); refine q7 <| yp 3 [] (.q6 ((8 + 8 * ((k : Nat) : Int)) + 8) .z) ?_; have ay := f.scalar (T' := ({ j with tabs := (fun i => if i = ((8 + 8 * ((k : Nat) : Int)) : Int).toNat then true else j.tabs i) } : TS)) I G rfl rfl rfl rfl; have a0 := Ch.on V I Q; have az := ay.pk2 I hI a0; refine yE (fun a ha => ak (k + 1) _ ⟨(by omega), (TermAt.eq' az (by subst Y; show qef T (qh5 p1 p2) H (k + 1) = _; unfold qef; rw [qkq])), a0⟩ (by show 7 - (k + 1) < 7 - k; omega) a (by rw [show (8 + 8 * ((k + 1 : Nat) : Int)) = (8 + 8 * ((k : Nat) : Int)) + 8 by omega]; exact ha.kp [0, 6]))
 have aA : k = 7 := by omega
 refine qk (eS (qf (qe (qM ?_)))); have r := Ch.on V (Ch.refl (· = t) E) Q; have aB := f.pk2 (Ch.refl (· = t) E) hI r; subst Y; subst aA hH hW; refine ⟨rfl, TermAt.mono aB (fun b hb => ?_) (fun b hb => ?_), ?_⟩
 ·rcases hb with hb | hb
  ·rw [C] at hb; exact hb.imp id fun h => h.imp id fun h => ⟨h.1, by have := zs r; omega⟩
  exact .inr (.inr ⟨by have := zs D; omega, hb.2⟩)
 ·have hz := zs r; have aV := zs D; rcases hb with rfl | hb | hb
  ·exact ⟨by omega, ht7⟩
  ·have := hP.2.2 b hb; exact ⟨by omega, this.2.1⟩
  exact ⟨hb.2, by omega⟩
 refine zt (D.mono fun i _ h => .inl h) r fun i hi h => ?_; rw [C] at h; exact h.imp id fun h => h.elim id fun h => by omega
theorem str_eq {s u : ByteArray} (h : (s.toList == u.toList) = true) : s = u := by
 have h1 := eq_of_beq h
 rw [Go.ByteArray.toList_eq, Go.ByteArray.toList_eq] at h1
 obtain ⟨⟨a⟩⟩ := s
 obtain ⟨⟨b⟩⟩ := u
 have : a = b := h1
 rw [this]
theorem mark40 {s : ByteArray} (h : (s.toList == (⟨#[40]⟩ : ByteArray).toList) = true) : s.size = 1 ∧ bt s 0 = 40 := by
 rw [str_eq h]; exact ⟨rfl, rfl⟩
theorem mark41 {s : ByteArray} (h : (s.toList == (⟨#[41]⟩ : ByteArray).toList) = true) : s.size = 1 ∧ bt s 0 = 41 := by
 rw [str_eq h]; exact ⟨rfl, rfl⟩
theorem start_at {w : World} {t : Nat} {W H : Int} {T : TS} {F : Nat → Prop} (hA : TermAt w t T F) (hT : LT w) (hL : Lim W H T) (p1 p2 : Int) :
  Calls Tryz.prog 48 [.pointer (some ⟨t, 0, none⟩), .int .i64 p1, .int .i64 p2].toArray w fun e w' => e = .returned (.tuple #[]) ∧ TermAt w' t (qa7 T p1 p2) (more F w w') ∧ Ch F w w' := by
 obtain ⟨g, o, ba, bn, bc, pa, pn, pc, F1, F2, FB, FP, hI⟩ := hA
 have hB : Blk w t (T.valsG (.pointer (some ⟨g, 0, none⟩)) (.pointer (some ⟨o, 0, none⟩)) (.slice ba bn bc) (.slice pa pn pc)) qV := by rw [valsG_eq]; exact hI.blk
 have hF : ∀ b, (b = t ∨ FP b) → F b := fun b h => h.elim (fun h => h ▸ hI.inF.1) (hI.inF.2.2.2.2 b)
 refine (qhG hB ⟨hI.ps, hI.pz, fun b hb => ⟨hI.lt b (hF b (.inr hb)), hI.hi b (hF b (.inr hb)), fun e => hI.tP (e ▸ hb)⟩⟩ (hI.hi t hI.inF.1) hT hL.rp p1 p2).mono fun e w' ⟨he, hA', hc⟩ => ⟨he, hA'.mono (fun b hb => ?_) (hI.moreOk hc.size), hc.mono fun b _ h => hF b h⟩
 rcases hb with hb | hb | hb
 ·exact .inl (hF b (.inl hb))
 ·exact .inl (hF b (.inr hb))
 ·exact .inr hb
theorem qks {W H : Int} {T : TS} (h : Lim W H T) : Lim W H (qa7 T T.grid.w T.grid.h) := by
 have := qcD T T.grid.w T.grid.h h.rp
 rw [h.g1.1, h.g1.2, qcY h.wb, qcY h.hb] at this
 rw [h.g1.1, h.g1.2]; exact this
theorem up_lim {w : World} {t : Nat} {W H : Int} {T : TS} {F : Nat → Prop} (hA : TermAt w t T F) (hT : qa4 w) (hL : Lim W H T) : Calls Tryz.prog 100 [pX t].toArray w fun e w' => e = .returned (.tuple #[]) ∧ TermAt w' t (upT T) (more F w w') ∧ Ch F w w' :=
  up_at hA hT (by have := hL.cu; have := hL.hb; omega)
set_option maxHeartbeats 4000000 in
theorem esc_at {w : World} {t : Nat} {W H : Int} {T : TS} {F : Nat → Prop} (hA0 : TermAt w t T F) (hT : LT w) (hL : Lim W H T) {ao : Option Nat} {an cc : Nat} {ac : Ac} (hV : IntsAt w .i64 ao an cc ac.params (fun b => ¬ F b ∧ b < w.heap.size)) (hV8 : an ≤ 8) (hVb : ∀ x ∈ ac.params, 0 ≤ x ∧ x ≤ 9999) : Calls Tryz.prog 81 [pX t, .agg #[iX ac.kind, rX ac.rune, uX ac.last, .string ac.marks, .slice (ao.map at0) an cc, .string ac.text]].toArray w fun e w' => e = .returned (.tuple #[]) ∧ TermAt w' t (qey T ac) (more F w w') ∧ Ch F w w' := by
 obtain ⟨g, o, ba, bn, bc, pa, pn, pc, F1, F2, FB, FP, hI⟩ := hA0; have hA0 : TermAt w t T F := ⟨g, o, ba, bn, bc, pa, pn, pc, F1, F2, FB, FP, hI⟩
 have s := hI.inF.1; obtain ⟨gv, bb⟩ := hI.g1.head; have cZ : Df t g := fun e => hI.t1 (e ▸ hI.g1.inF); obtain ⟨⟨d0, d1⟩, ⟨d2, d3⟩, d4, d5⟩ := hI.g1.ok; have bd := hL; have d6 := bd.all; refine yA Tryz.func81 rfl <| ysr <| yo (yN [iX ac.kind, rX ac.rune, uX ac.last, .string ac.marks, .slice (ao.map at0) an cc, .string ac.text] 115 fun u bf bg d7 m P => ?_); have d8 : w.heap.size ≤ bf := by rw [bg]; exact zs (Ch.refl (· = t) w)
 have d := zt (Ch.refl (· = t) w) P eZ; have k := hI.blk.ch P id; have bh := bb.ch P id; have E := qz P hT (fun _ h => h.elim); refine ye <| ys <| ysr <| yp 4 [] (.l (m.c 3) .z) <| yw [7] (rY ((ac.marks).toList == ((⟨#[40]⟩ : ByteArray)).toList)) (fun Q => ?_) fun Q => ?_
 ·have n := Q; obtain ⟨bi, bj⟩ := mark40 Q; refine yz 8 <| yct <| ys <| ysr <| yp 4 [] (.l (m.c 2) .z) <| yw [15] (rE ac.last 48) (fun j => ?_) fun j => ?_
  ·refine yz 8 <| yct <| yD [11] fun d9 da a2 => ?_; have bk := zt d a2 eZ; have bl := k.ch a2 id; have am := m.ch a2 id; refine yd (uL 0 11) [4] (.l (am.c 3) (.i 0 ((ac.marks).size) (.p (q := InR .u8 ((bt ac.marks 0) - 40)) (in8 (by omega) (by omega)) (.l (am.c 2) (.i ((bt ac.marks 0) - 40) (2) .z))))) ?_; have hz : (((bt ac.marks 0) - 40) : Int).toNat = 0 := by omega
   refine yK 11 (qa1 (92 + (((bt ac.marks 0) - 40) : Int).toNat * 1) [.bool ((ac.last : Int) == 48)] none (by kernel_rfl) bl (by rw [qbi]; simp only [List.length_cons, List.length_nil]; omega) ?_); intro bm R bo; rw [hz] at R; replace R : Blk bm t (TS.vals ({ T with draw0 := ((ac.last : Int) == 48) } : TS) g o (.slice ba bn bc) (.slice pa pn pc)) qV := Blk.to R (by kernel_rfl); have ap := zt bk bo (fun i hi (h : i = t) => h); refine q9 <| yDe (nS ?_); refine qd (rS (yR0 ?_)); have bp := hI.scalar (T' := ({ T with draw0 := ((ac.last : Int) == 48) } : TS)) ap R rfl rfl rfl rfl; have aq := hI.cht ap; have bq := bp.pk1 hI aq; refine ⟨rfl, TermAt.eq' bq ?_, aq⟩; simp only [qey, qaL, n, j, ↓reduceIte, Int.reduceEq, Int.reduceLT, Int.reduceLE, sB]
  refine yp 8 [] (.l (m.c 2) .z) <| ye <| yc (rE ac.last 66) (fun f => ?_) fun f => ?_
  ·refine yD [11] fun db dc a3 => ?_; have br := zt d a3 eZ; have bs := k.ch a3 id; have ar := m.ch a3 id; refine yd (uL 0 11) [4] (.l (ar.c 3) (.i 0 ((ac.marks).size) (.p (q := InR .u8 ((bt ac.marks 0) - 40)) (in8 (by omega) (by omega)) (.l (ar.c 2) (.i ((bt ac.marks 0) - 40) (2) .z))))) ?_; have hz : (((bt ac.marks 0) - 40) : Int).toNat = 0 := by omega
   refine yK 11 (qa1 (92 + (((bt ac.marks 0) - 40) : Int).toNat * 1) [.bool ((ac.last : Int) == 48)] none (by kernel_rfl) bs (by rw [qbi]; simp only [List.length_cons, List.length_nil]; omega) ?_); intro bu S bv; rw [hz] at S; replace S : Blk bu t (TS.vals ({ T with draw0 := ((ac.last : Int) == 48) } : TS) g o (.slice ba bn bc) (.slice pa pn pc)) qV := Blk.to S (by kernel_rfl); have au := zt br bv (fun i hi (h : i = t) => h); refine q9 <| yDe (nS ?_); refine qd (rS (yR0 ?_)); have bw := hI.scalar (T' := ({ T with draw0 := ((ac.last : Int) == 48) } : TS)) au S rfl rfl rfl rfl; have av := hI.cht au; have bx := bw.pk1 hI av; refine ⟨rfl, TermAt.eq' bx ?_, av⟩; simp only [qey, qaL, n, j, f, ↓reduceIte, Int.reduceEq, Int.reduceLT, Int.reduceLE, sB]
  refine yk <| qd (rS (yR0 ?_)); have bz := hI.scalar (T' := T) d k rfl rfl rfl rfl; have aw := hI.cht d; have bA := bz.pk1 hI aw; refine ⟨rfl, TermAt.eq' bA ?_, aw⟩; simp only [qey, qaL, n, j, f, ↓reduceIte, Int.reduceEq, Int.reduceLT, Int.reduceLE, sB]
 have n := Q; refine yp 8 [] (.l (m.c 3) .z) <| ye <| yc (rY ((ac.marks).toList == ((⟨#[41]⟩ : ByteArray)).toList)) (fun U => ?_) fun U => ?_
 ·have j := U; obtain ⟨bi, bj⟩ := mark41 U; refine ys <| ysr <| yp 4 [] (.l (m.c 2) .z) <| yw [15] (rE ac.last 48) (fun f => ?_) fun f => ?_
  ·refine yz 8 <| yct <| yD [11] fun dd de a4 => ?_; have bB := zt d a4 eZ; have bC := k.ch a4 id; have ax := m.ch a4 id; refine yd (uL 0 11) [4] (.l (ax.c 3) (.i 0 ((ac.marks).size) (.p (q := InR .u8 ((bt ac.marks 0) - 40)) (in8 (by omega) (by omega)) (.l (ax.c 2) (.i ((bt ac.marks 0) - 40) (2) .z))))) ?_; have hz : (((bt ac.marks 0) - 40) : Int).toNat = 1 := by omega
   refine yK 11 (qa1 (92 + (((bt ac.marks 0) - 40) : Int).toNat * 1) [.bool ((ac.last : Int) == 48)] none (by kernel_rfl) bC (by rw [qbi]; simp only [List.length_cons, List.length_nil]; omega) ?_); intro bD V bE; rw [hz] at V; replace V : Blk bD t (TS.vals ({ T with draw1 := ((ac.last : Int) == 48) } : TS) g o (.slice ba bn bc) (.slice pa pn pc)) qV := Blk.to V (by kernel_rfl); have ay := zt bB bE (fun i hi (h : i = t) => h); refine q9 <| yDe (nS ?_); refine qd (rS (yR0 ?_)); have bF := hI.scalar (T' := ({ T with draw1 := ((ac.last : Int) == 48) } : TS)) ay V rfl rfl rfl rfl; have az := hI.cht ay; have bG := bF.pk1 hI az; refine ⟨rfl, TermAt.eq' bG ?_, az⟩; simp only [qey, qaL, n, j, f, ↓reduceIte, Int.reduceEq, Int.reduceLT, Int.reduceLE, sB]
  refine yp 8 [] (.l (m.c 2) .z) <| ye <| yc (rE ac.last 66) (fun r => ?_) fun r => ?_
  ·refine yD [11] fun df dg a5 => ?_; have bH := zt d a5 eZ; have bI := k.ch a5 id; have aA := m.ch a5 id; refine yd (uL 0 11) [4] (.l (aA.c 3) (.i 0 ((ac.marks).size) (.p (q := InR .u8 ((bt ac.marks 0) - 40)) (in8 (by omega) (by omega)) (.l (aA.c 2) (.i ((bt ac.marks 0) - 40) (2) .z))))) ?_; have hz : (((bt ac.marks 0) - 40) : Int).toNat = 1 := by omega
   refine yK 11 (qa1 (92 + (((bt ac.marks 0) - 40) : Int).toNat * 1) [.bool ((ac.last : Int) == 48)] none (by kernel_rfl) bI (by rw [qbi]; simp only [List.length_cons, List.length_nil]; omega) ?_); intro bJ X bK; rw [hz] at X; replace X : Blk bJ t (TS.vals ({ T with draw1 := ((ac.last : Int) == 48) } : TS) g o (.slice ba bn bc) (.slice pa pn pc)) qV := Blk.to X (by kernel_rfl); have aB := zt bH bK (fun i hi (h : i = t) => h); refine q9 <| yDe (nS ?_); refine qd (rS (yR0 ?_)); have bL := hI.scalar (T' := ({ T with draw1 := ((ac.last : Int) == 48) } : TS)) aB X rfl rfl rfl rfl; have aC := hI.cht aB; have bM := bL.pk1 hI aC; refine ⟨rfl, TermAt.eq' bM ?_, aC⟩; simp only [qey, qaL, n, j, f, r, ↓reduceIte, Int.reduceEq, Int.reduceLT, Int.reduceLE, sB]
  refine yk <| qd (rS (yR0 ?_)); have bN := hI.scalar (T' := T) d k rfl rfl rfl rfl; have aD := hI.cht d; have bO := bN.pk1 hI aD; refine ⟨rfl, TermAt.eq' bO ?_, aD⟩; simp only [qey, qaL, n, j, f, r, ↓reduceIte, Int.reduceEq, Int.reduceLT, Int.reduceLE, sB]
 have j := U; refine yk <| ys <| ysr <| yp 3 [] (.l (m.c 3) .z) <| ye <| yc (rN (rY ((ac.marks).toList == (ByteArray.empty).toList))) (fun f => ?_) fun f => ?_
 ·refine qd (rS (yR0 ?_)); have bP := hI.scalar (T' := T) d k rfl rfl rfl rfl; have aE := hI.cht d; have bQ := bP.pk1 hI aE; refine ⟨rfl, TermAt.eq' bQ ?_, aE⟩; simp only [qey, qaL, n, j, f, ↓reduceIte, Int.reduceEq, Int.reduceLT, Int.reduceLE, sB]
 refine yk <| ysr <| yp 2 [] (.l (m.c 2) .z) <| ye <| q8 <| yx 2 <| yc (rE ac.last 55) (fun r => ?_) fun r => ?_
 ·refine q7 <| yp 7 [] (.a (k.cs 2 8) .z) <| yo (yS k fun dh bR bS => ?_); have aF := zt d bS (fun i hi (h : i = t) => h); refine yE (nB (qM ?_)); have bT := hI.scalar (T' := ({ T with saved := T.cursor } : TS)) aF (Blk.to bR (by kernel_rfl)) rfl rfl rfl rfl; have aG := hI.cht aF; have bU := bT.pk1 hI aG; refine ⟨rfl, TermAt.eq' bU ?_, aG⟩; simp only [qey, qaL, n, j, f, r, ↓reduceIte, Int.reduceEq, Int.reduceLT, Int.reduceLE, sB]
 refine yx 2 <| yc (rE ac.last 56) (fun v => ?_) fun v => ?_
 ·refine q7 <| yp 7 [] (.a (k.cs 10 8) .z) <| yo (yS k fun di bV bW => ?_); have aH := zt d bW (fun i hi (h : i = t) => h); refine yE (nB (qM ?_)); have bX := hI.scalar (T' := ({ T with cursor := T.saved } : TS)) aH (Blk.to bV (by kernel_rfl)) rfl rfl rfl rfl; have aI := hI.cht aH; have bY := bX.pk1 hI aI; refine ⟨rfl, TermAt.eq' bY ?_, aI⟩; simp only [qey, qaL, n, j, f, r, v, ↓reduceIte, Int.reduceEq, Int.reduceLT, Int.reduceLE, sB]
 refine yx 2 <| yc (rE ac.last 68) (fun A => ?_) fun A => ?_
 ·refine ysr <| yq 1 ?_; have G := hI.scalar (T' := T) d k rfl rfl rfl rfl; have bZ : TermAt u t T F := ⟨_, _, _, _, _, _, _, _, _, _, _, _, G⟩
  have a6 : Ch F w u := d.mono (fun i _ h => h ▸ s); have dj := m.lt; have aJ := G.cht (Ch.refl (· = t) u); have c0 := G.pk1 G aJ; refine yo (yQ (qck c0 E.tb hL  ) ?_); rintro c1 ⟨c2, c3⟩; obtain ⟨aK, c4⟩ := TermAt.next bZ aJ c3 c2; have aL : Lim W H (qaC T) := (qaO hL)
  generalize c5 : (qaC T) = T165 at aK aL; have c6 := aL; have dk := c6.all; obtain ⟨c7, dl, dm, dn, dp, dq, dr, ds, dt, du, dv, dw, I⟩ := aK; obtain ⟨dx, dy⟩ := I.g1.head; have dz : Df t c7 := fun e => I.t1 (e ▸ I.g1.inF); refine ye <| q7 <| yq 4 <| yo (yS I.blk fun dA c8 c9 => ?_); have a7 := zt (Ch.refl (· = t) c1) c9 (fun i hi (h : i = t) => h); refine yE (nB (qM ?_)); have ca := I.scalar (T' := ({ T165 with cursor := (Cur.mk T165.cursor.x T165.cursor.y false T165.cursor.sty) } : TS)) a7 (Blk.to c8 (by kernel_rfl)) rfl rfl rfl rfl; have a8 := Ch.on c4 a7 s; have cb := ca.pk2 a7 G a8; subst c5; refine ⟨rfl, TermAt.eq' (cb.mono (qr a6.size) (hI.moreOk (Nat.le_trans a6.size a8.size))) ?_, zt a6 a8 iZ⟩; simp only [qey, qaL, n, j, f, r, v, A, ↓reduceIte, Int.reduceEq, Int.reduceLT, Int.reduceLE, sB]
 refine yx 2 <| yc (rE ac.last 69) (fun C => ?_) fun C => ?_
 ·refine ysr <| yq 1 ?_; have B := hI.scalar (T' := T) d k rfl rfl rfl rfl; have aM : TermAt u t T F := ⟨_, _, _, _, _, _, _, _, _, _, _, _, B⟩
  have a9 : Ch F w u := d.mono (fun i _ h => h ▸ s); have dB := m.lt; have aa := B.cht (Ch.refl (· = t) u); have cd := B.pk1 B aa; refine yo (yQ (qck cd E.tb hL  ) ?_); rintro aN ⟨ce, aO⟩; obtain ⟨aP, cf⟩ := TermAt.next aM aa aO ce; have cg := qz aO E (fun b hb => (B.moreOk aa.size b hb).2); have Y : Lim W H (qaC T) := (qaO hL)
  generalize ci : (qaC T) = D at aP Y; have cj := Y; have dC := cj.all; obtain ⟨ck, dD, dE, dF, dG, dH, dI, dJ, dK, dL, dM, dN, J⟩ := aP; obtain ⟨dO, dP⟩ := J.g1.head; have dQ : Df t ck := fun e => J.t1 (e ▸ J.g1.inF); refine ye <| q7 <| yp 6 [] (.l (J.blk.c 3) .z) ?_; have aQ := Ch.on cf (Ch.refl (· = t) aN) s; have cl := J.pk2 (Ch.refl (· = t) aN) B aQ; refine yo (yQ (qai cl cg.tb Y  (0) (D.cursor.y)) ?_); rintro aR ⟨cm, cn⟩; obtain ⟨aS, co⟩ := TermAt.next aM aQ cn cm; have aT : Lim W H (qa8 D (0) (D.cursor.y)) := (qR Y (0) (D.cursor.y))
  generalize cp : (qa8 D (0) (D.cursor.y)) = T210 at aS aT; have cq := aT; have dR := cq.all; obtain ⟨cr, dS, dT, dU, dV, dW, dX, dY, dZ, e0, e1, e2, Z⟩ := aS; obtain ⟨e3, e4⟩ := Z.g1.head; have e5 : Df t cr := fun e => Z.t1 (e ▸ Z.g1.inF); refine yE (nB (qM ?_)); have ab := Ch.on co (Ch.refl (· = t) aR) s; have ct := Z.pk2 (Ch.refl (· = t) aR) B ab; subst cp; subst ci; refine ⟨rfl, TermAt.eq' (ct.mono (qr a9.size) (hI.moreOk (Nat.le_trans a9.size ab.size))) ?_, zt a9 ab iZ⟩; simp only [qey, qaL, n, j, f, r, v, A, C, ↓reduceIte, Int.reduceEq, Int.reduceLT, Int.reduceLE, sB]
 refine yx 2 <| yc (rE ac.last 77) (fun K => ?_) fun K => ?_
 ·refine ysr <| yq 1 ?_; have L := hI.scalar (T' := T) d k rfl rfl rfl rfl; have cu : TermAt u t T F := ⟨_, _, _, _, _, _, _, _, _, _, _, _, L⟩
  have ad : Ch F w u := d.mono (fun i _ h => h ▸ s); have e6 := m.lt; have aU := L.cht (Ch.refl (· = t) u); have cv := L.pk1 L aU; refine yo (yQ (up_lim cv E.tb hL  ) ?_); rintro cw ⟨cx, cy⟩; obtain ⟨aV, cz⟩ := TermAt.next cu aU cy cx; have aW : Lim W H (upT T) := (lim_up hL)
  generalize cA : (upT T) = T231 at aV aW; have cB := aW; have e7 := cB.all; obtain ⟨cC, e8, e9, ea, eb, ec, ed, ee, ef, eg, eh, ei, M⟩ := aV; obtain ⟨ej, ek⟩ := M.g1.head; have el : Df t cC := fun e => M.t1 (e ▸ M.g1.inF); refine ye <| q7 <| yq 4 <| yo (yS M.blk fun em cD cE => ?_); have ae := zt (Ch.refl (· = t) cw) cE (fun i hi (h : i = t) => h); refine yE (nB (qM ?_)); have cF := M.scalar (T' := ({ T231 with cursor := (Cur.mk T231.cursor.x T231.cursor.y false T231.cursor.sty) } : TS)) ae (Blk.to cD (by kernel_rfl)) rfl rfl rfl rfl; have af := Ch.on cz ae s; have cG := cF.pk2 ae L af; subst cA; refine ⟨rfl, TermAt.eq' (cG.mono (qr ad.size) (hI.moreOk (Nat.le_trans ad.size af.size))) ?_, zt ad af iZ⟩; simp only [qey, qaL, n, j, f, r, v, A, C, K, ↓reduceIte, Int.reduceEq, Int.reduceLT, Int.reduceLE, sB]
 refine yx 2 <| yc (rE ac.last 72) (fun a0 => ?_) fun a0 => ?_
 ·refine yD [9] fun en eo aX => ?_; have cH := zt d aX eZ; have aY := k.ch aX id; refine yd (uL 0 9) [] (.l (aY.c 2) (.i T.cursor.x (60) .z)) <| yK 9 (qa1 (28 + (T.cursor.x : Int).toNat * 1) [.bool true] none (by kernel_rfl) aY (by rw [qbi]; simp only [List.length_cons, List.length_nil]; omega) ?_); intro cI ag cJ; replace ag : Blk cI t (TS.vals ({ T with tabs := (fun i => if i = (T.cursor.x : Int).toNat then true else T.tabs i) } : TS) g o (.slice ba bn bc) (.slice pa pn pc)) qV := Blk.to ag (qew T _ _ _ _ _ (by omega) _); have aZ := zt cH cJ (fun i hi (h : i = t) => h); refine q9 <| yDe (nB (qM ?_)); have cK := hI.scalar (T' := ({ T with tabs := (fun i => if i = (T.cursor.x : Int).toNat then true else T.tabs i) } : TS)) aZ ag rfl rfl rfl rfl; have b0 := hI.cht aZ; have cL := cK.pk1 hI b0; refine ⟨rfl, TermAt.eq' cL ?_, b0⟩; simp only [qey, qaL, n, j, f, r, v, A, C, K, a0, ↓reduceIte, Int.reduceEq, Int.reduceLT, Int.reduceLE, sB]
 refine yx 2 <| yc (rE ac.last 99) (fun ah => ?_) fun ah => ?_
 ·refine yD [15] fun ai ep N => ?_; have b1 := zt d N eZ; have aj := k.ch N id; have b2 := bh.ch N id; have cM := qz N E (fun _ h => h.elim); have cN := m.ch N id; refine yd (uL 0 15) [] (.l (aj.c 0) (.l (b2.c 0) (.l (aj.c 0) (.l (b2.c 1) .z)))) ?_; have O := hI.scalar (T' := T) b1 aj rfl rfl rfl rfl; have cO : TermAt ai t T F := ⟨_, _, _, _, _, _, _, _, _, _, _, _, O⟩
  have ak : Ch F w ai := b1.mono (fun i _ h => h ▸ s); have er := cN.lt; have b3 := O.cht (Ch.refl (· = t) ai); have cP := O.pk1 O b3; refine yK 15 (yQ (start_at cP cM hL  (T.grid.w) (T.grid.h)) ?_); rintro b4 ⟨cQ, cR⟩; obtain ⟨b5, cS⟩ := TermAt.next cO b3 cR cQ; have b6 : Lim W H (qa7 T (T.grid.w) (T.grid.h)) := (qks hL)
  generalize cT : (qa7 T (T.grid.w) (T.grid.h)) = T294 at b5 b6; have cU := b6; have es := cU.all; obtain ⟨cV, et, eu, ev, ew, ex, ey, ez, eA, eB, eC, eD, a1⟩ := b5; obtain ⟨eE, eF⟩ := a1.g1.head; have eG : Df t cV := fun e => a1.t1 (e ▸ a1.g1.inF); refine q9 <| yDe (nB (qM ?_)); have al := Ch.on cS (Ch.refl (· = t) b4) s; have cW := a1.pk2 (Ch.refl (· = t) b4) O al; subst cT; refine ⟨rfl, TermAt.eq' (cW.mono (qr ak.size) (hI.moreOk (Nat.le_trans ak.size al.size))) ?_, zt ak al iZ⟩; simp only [qey, qaL, n, j, f, r, v, A, C, K, a0, ah, ↓reduceIte, Int.reduceEq, Int.reduceLT, Int.reduceLE, sB]
 refine qp (nB (qM ?_)); have cX := hI.scalar (T' := T) d k rfl rfl rfl rfl; have b7 := hI.cht d; have cY := cX.pk1 hI b7; refine ⟨rfl, TermAt.eq' cY ?_, b7⟩; simp only [qey, qaL, n, j, f, r, v, A, C, K, a0, ah, ↓reduceIte, Int.reduceEq, Int.reduceLT, Int.reduceLE, sB]
set_option maxHeartbeats 4000000 in
theorem act_at {w : World} {t : Nat} {W H : Int} {T : TS} {F : Nat → Prop} (hA0 : TermAt w t T F) (hT : LT w) (hL : Lim W H T) {ao : Option Nat} {an cc : Nat} {ac : Ac} (hV : IntsAt w .i64 ao an cc ac.params (fun b => ¬ F b ∧ b < w.heap.size)) (hV8 : an ≤ 8) (hVb : ∀ x ∈ ac.params, 0 ≤ x ∧ x ≤ 9999) (hat : ac.text.size ≤ 1000) : Calls Tryz.prog 59 [pX t, .agg #[iX ac.kind, rX ac.rune, uX ac.last, .string ac.marks, .slice (ao.map at0) an cc, .string ac.text]].toArray w fun e w' => e = .returned (.tuple #[]) ∧ TermAt w' t (qdh T ac) (more F w w') ∧ Ch F w w' := by
 obtain ⟨g, o, ba, bn, bc, pa, pn, pc, F1, F2, FB, FP, hI⟩ := hA0; have hA0 : TermAt w t T F := ⟨g, o, ba, bn, bc, pa, pn, pc, F1, F2, FB, FP, hI⟩
 have q := hI.inF.1; obtain ⟨gv, bp⟩ := hI.g1.head; have bq : Df t g := fun e => hI.t1 (e ▸ hI.g1.inF); obtain ⟨⟨br, bs⟩, ⟨bt, bu⟩, bv, bw⟩ := hI.g1.ok; have aq := hL; have bx := aq.all; refine yA Tryz.func59 rfl <| ysr <| yo (yN [iX ac.kind, rX ac.rune, uX ac.last, .string ac.marks, .slice (ao.map at0) an cc, .string ac.text] 115 fun d ar au bz k G => ?_); have bA : w.heap.size ≤ ar := by rw [au]; exact zs (Ch.refl (· = t) w)
 have f := zt (Ch.refl (· = t) w) G eZ; have n := hI.blk.ch G id; have I := qz G hT (fun _ h => h.elim); have Z := hV.ch G iZ; refine ye <| ysr <| yp 2 [] (.l (k.c 0) .z) <| ye <| q8 <| yx 2 <| yc (rE ac.kind 0) (fun m => ?_) fun m => ?_
 ·refine q7 <| yp 3 [] (.l (k.c 1) .z) ?_; have v := hI.scalar (T' := T) f n rfl rfl rfl rfl; have av : TermAt d t T F := ⟨_, _, _, _, _, _, _, _, _, _, _, _, v⟩
  have O : Ch F w d := f.mono (fun i _ h => h ▸ q); have bB := k.lt; have a0 := v.cht (Ch.refl (· = t) d); have aw := v.pk1 v a0; refine yo (yQ (print_at aw I.tb hL  (ac.rune)) ?_); rintro a1 ⟨ax, ay⟩; obtain ⟨a2, az⟩ := TermAt.next av a0 ay ax; have a3 : Lim W H (qcA T (ac.rune)) := (qeM hL _)
  generalize aA : (qcA T (ac.rune)) = T39 at a2 a3; have aB := a3; have bC := aB.all; obtain ⟨aC, bD, bE, bF, bG, bH, bI, bJ, bK, bL, bM, bN, J⟩ := a2; obtain ⟨bO, bP⟩ := J.g1.head; have bQ : Df t aC := fun e => J.t1 (e ▸ J.g1.inF); refine yE (nB (qM ?_)); have P := Ch.on az (Ch.refl (· = t) a1) q; have aD := J.pk2 (Ch.refl (· = t) a1) v P; subst aA; refine ⟨rfl, TermAt.eq' (aD.mono (qr O.size) (hI.moreOk (Nat.le_trans O.size P.size))) ?_, zt O P iZ⟩; simp only [qdh, qjn, m, ↓reduceIte, Int.reduceEq, Int.reduceLT, Int.reduceLE, sB]
 refine yx 2 <| yc (rE ac.kind 1) (fun p => ?_) fun p => ?_
 ·refine q7 <| yp 3 [] (.l (k.c 2) .z) ?_; have y := hI.scalar (T' := T) f n rfl rfl rfl rfl; have aE : TermAt d t T F := ⟨_, _, _, _, _, _, _, _, _, _, _, _, y⟩
  have Q : Ch F w d := f.mono (fun i _ h => h ▸ q); have bR := k.lt; have a4 := y.cht (Ch.refl (· = t) d); have aF := y.pk1 y a4; refine yo (yQ (exec_at aF I.tb hL  (ac.last)) ?_); rintro a5 ⟨aG, aH⟩; obtain ⟨a6, aI⟩ := TermAt.next aE a4 aH aG; have a7 : Lim W H (qcl T (ac.last)) := (qgt hL _)
  generalize aJ : (qcl T (ac.last)) = T60 at a6 a7; have aK := a7; have bS := aK.all; obtain ⟨aL, bT, bU, bV, bW, bX, bY, bZ, c0, c1, c2, c3, K⟩ := a6; obtain ⟨c4, c5⟩ := K.g1.head; have c6 : Df t aL := fun e => K.t1 (e ▸ K.g1.inF); refine yE (nB (qM ?_)); have R := Ch.on aI (Ch.refl (· = t) a5) q; have aM := K.pk2 (Ch.refl (· = t) a5) y R; subst aJ; refine ⟨rfl, TermAt.eq' (aM.mono (qr Q.size) (hI.moreOk (Nat.le_trans Q.size R.size))) ?_, zt Q R iZ⟩; simp only [qdh, qjn, m, p, ↓reduceIte, Int.reduceEq, Int.reduceLT, Int.reduceLE, sB]
 refine yx 2 <| yc (rE ac.kind 2) (fun r => ?_) fun r => ?_
 ·refine q7 <| yp 2 [] (.a (k.cs 0 6) .z) ?_; have A := hI.scalar (T' := T) f n rfl rfl rfl rfl; have aN : TermAt d t T F := ⟨_, _, _, _, _, _, _, _, _, _, _, _, A⟩
  have B : Ch F w d := f.mono (fun i _ h => h ▸ q); have c7 := k.lt; have S := A.cht (Ch.refl (· = t) d); have aO := A.pk1 A S; have aP := Z.mono (K' := fun b => ¬ more F d d b ∧ b < d.heap.size) (fun b hb => ⟨fun h => h.elim hb.1 (fun h => by have := hb.2; have := zs B; omega), by have := hb.2; have := zs S; have := zs B; omega⟩); refine yo (yQ (esc_at aO I hL  aP hV8 hVb) ?_); rintro a8 ⟨aQ, aR⟩; obtain ⟨a9, aS⟩ := TermAt.next aN S aR aQ; have aa : Lim W H (qey T ac) := (qm4 hL _)
  generalize aT : (qey T ac) = T82 at a9 aa; have aU := aa; have c8 := aU.all; obtain ⟨aV, c9, ca, cb, cd, ce, cf, cg, ci, cj, ck, cl, L⟩ := a9; obtain ⟨cm, cn⟩ := L.g1.head; have co : Df t aV := fun e => L.t1 (e ▸ L.g1.inF); refine yE (nB (qM ?_)); have U := Ch.on aS (Ch.refl (· = t) a8) q; have aW := L.pk2 (Ch.refl (· = t) a8) A U; subst aT; refine ⟨rfl, TermAt.eq' (aW.mono (qr B.size) (hI.moreOk (Nat.le_trans B.size U.size))) ?_, zt B U iZ⟩; simp only [qdh, qjn, m, p, r, ↓reduceIte, Int.reduceEq, Int.reduceLT, Int.reduceLE, sB]
 refine yx 2 <| yc (rE ac.kind 3) (fun s => ?_) fun s => ?_
 ·refine q7 <| yp 2 [] (.a (k.cs 0 6) .z) ?_; have C := hI.scalar (T' := T) f n rfl rfl rfl rfl; have aX : TermAt d t T F := ⟨_, _, _, _, _, _, _, _, _, _, _, _, C⟩
  have D : Ch F w d := f.mono (fun i _ h => h ▸ q); have cp := k.lt; have V := C.cht (Ch.refl (· = t) d); have aY := C.pk1 C V; have aZ := Z.mono (K' := fun b => ¬ more F d d b ∧ b < d.heap.size) (fun b hb => ⟨fun h => h.elim hb.1 (fun h => by have := hb.2; have := zs D; omega), by have := hb.2; have := zs V; have := zs D; omega⟩); refine yo (yQ (csi_at aY I hL  aZ hV8 hVb) ?_); rintro ab ⟨b0, b1⟩; obtain ⟨ad, b2⟩ := TermAt.next aX V b1 b0; have ae : Lim W H (qii T ac) := (qm3 hL _)
  generalize b3 : (qii T ac) = T104 at ad ae; have b4 := ae; have cq := b4.all; obtain ⟨b5, cr, ct, cu, cv, cw, cx, cy, cz, cA, cB, cC, M⟩ := ad; obtain ⟨cD, cE⟩ := M.g1.head; have cF : Df t b5 := fun e => M.t1 (e ▸ M.g1.inF); refine yE (nB (qM ?_)); have X := Ch.on b2 (Ch.refl (· = t) ab) q; have b6 := M.pk2 (Ch.refl (· = t) ab) C X; subst b3; refine ⟨rfl, TermAt.eq' (b6.mono (qr D.size) (hI.moreOk (Nat.le_trans D.size X.size))) ?_, zt D X iZ⟩; simp only [qdh, qjn, m, p, r, s, ↓reduceIte, Int.reduceEq, Int.reduceLT, Int.reduceLE, sB]
 refine yx 2 <| yc (rE ac.kind 4) (fun u => ?_) fun u => ?_
 ·refine ysr <| yp 5 [] (.l (k.c 5) .z) <| yw [34] (rM 2 ((ac.text).size : Int)) (fun E => ?_) fun E => ?_
  ·refine yp 10 [] (.l (k.c 5) (.j 2 ((ac.text).size) .z)) <| yw [39] (rY ((((ac.text).extract 0 (2 : Int).toNat)).toList == ((⟨#[48, 59]⟩ : ByteArray)).toList)) (fun N => ?_) fun N => ?_
   ·refine yz 16 <| yct <| q7 <| yp 6 [] (.l (k.c 5) (.j 2 ((ac.text).size) .z)) <| yo (yS n fun cG b7 b8 => ?_); have af := zt f b8 (fun i hi (h : i = t) => h); refine yE (nB (qM ?_)); have b9 := hI.scalar (T' := ({ T with title := ((ac.text).extract (2 : Int).toNat (ac.text).size) } : TS)) af (Blk.to b7 (by kernel_rfl)) rfl rfl rfl rfl; have ag := hI.cht af; have bb := b9.pk1 hI ag; refine ⟨rfl, TermAt.eq' bb ?_, ag⟩; simp only [qdh, qjn, m, p, r, s, u, E, N, ↓reduceIte, Int.reduceEq, Int.reduceLT, Int.reduceLE, sB]
   refine yp 16 [] (.l (k.c 5) (.j 2 ((ac.text).size) .z)) <| ye <| yc (rY ((((ac.text).extract 0 (2 : Int).toNat)).toList == ((⟨#[50, 59]⟩ : ByteArray)).toList)) (fun Y => ?_) fun Y => ?_
   ·refine q7 <| yp 6 [] (.l (k.c 5) (.j 2 ((ac.text).size) .z)) <| yo (yS n fun cH bd bf => ?_); have ah := zt f bf (fun i hi (h : i = t) => h); refine yE (nB (qM ?_)); have bg := hI.scalar (T' := ({ T with title := ((ac.text).extract (2 : Int).toNat (ac.text).size) } : TS)) ah (Blk.to bd (by kernel_rfl)) rfl rfl rfl rfl; have ai := hI.cht ah; have bh := bg.pk1 hI ai; refine ⟨rfl, TermAt.eq' bh ?_, ai⟩; simp only [qdh, qjn, m, p, r, s, u, E, N, Y, ↓reduceIte, Int.reduceEq, Int.reduceLT, Int.reduceLE, sB]
   refine qp (nB (qM ?_)); have bi := hI.scalar (T' := T) f n rfl rfl rfl rfl; have aj := hI.cht f; have bj := bi.pk1 hI aj; refine ⟨rfl, TermAt.eq' bj ?_, aj⟩; simp only [qdh, qjn, m, p, r, s, u, E, N, Y, ↓reduceIte, Int.reduceEq, Int.reduceLT, Int.reduceLE, sB]
  refine yz 16 <| ycf <| qp (nB (qM ?_)); have bk := hI.scalar (T' := T) f n rfl rfl rfl rfl; have ak := hI.cht f; have bl := bk.pk1 hI ak; refine ⟨rfl, TermAt.eq' bl ?_, ak⟩; simp only [qdh, qjn, m, p, r, s, u, E, ↓reduceIte, Int.reduceEq, Int.reduceLT, Int.reduceLE, sB]
 refine qp (nB (qM ?_)); have bm := hI.scalar (T' := T) f n rfl rfl rfl rfl; have al := hI.cht f; have bo := bm.pk1 hI al; refine ⟨rfl, TermAt.eq' bo ?_, al⟩; simp only [qdh, qjn, m, p, r, s, u, ↓reduceIte, Int.reduceEq, Int.reduceLT, Int.reduceLE, sB]
def qhH (T : TS) (c : Int) : TS := (qaR T.parser c).2.foldl qdh { T with parser := (qaR T.parser c).1 }
def qcF (T : TS) (s : ByteArray) : Nat → TS
 | 0 => T
 | k + 1 => qhH (qcF T s k) (bt s ((k : Nat) : Int))
def qjq (T : TS) (s : ByteArray) : TS := qcF T s s.size
structure AcOk (a : Ac) : Prop where
 n : a.params.length ≤ 8
 b : ∀ x ∈ a.params, 0 ≤ x ∧ x ≤ 9999
 t : a.text.size ≤ 40
theorem qdx {k r l : Int} {m u : ByteArray} (h : u.size ≤ 40) : AcOk ⟨k, r, l, m, [], u⟩ := ⟨by simp, (fun x hx => by cases hx), h⟩
theorem qb3 (s : Int) : (atP s).lim := ⟨qiz, (by decide : (0 : Nat) ≤ 2), (by decide : (0 : Nat) ≤ 40), (by decide : (0 : Nat) ≤ 8), fun x hx => by cases hx⟩
def qgE (r : PS × List Ac) : Prop := r.1.lim ∧ ∀ a ∈ r.2, AcOk a
theorem qa6 {p : PS} (h : p.lim) : qgE (p, []) := ⟨h, fun a ha => by cases ha⟩
theorem qdy {p : PS} {a : Ac} (h : p.lim) (ha : AcOk a) : qgE (p, [a]) := ⟨h, fun b hb => by obtain rfl := List.mem_singleton.1 hb; exact ha⟩
theorem qdz (l : List Int) : ∀ a ∈ l.map acP, AcOk a := fun a ha => by
 obtain ⟨r, _, rfl⟩ := List.mem_map.1 ha
 exact qdx (by decide)
theorem qjr {l m : List Ac} (h : ∀ a ∈ l, AcOk a) (h' : ∀ a ∈ m, AcOk a) : ∀ a ∈ l ++ m, AcOk a := fun a ha => (List.mem_append.1 ha).elim (h a) (h' a)
theorem qu {P : PS × List Ac → Prop} {c : Prop} [Decidable c] {a b : PS × List Ac} (h1 : c → P a) (h2 : ¬ c → P b) : P (if c then a else b) := by
 by_cases h : c
 ·rw [if_pos h]; exact h1 h
 ·rw [if_neg h]; exact h2 h
theorem qfQ {p : PS} (h : p.lim) (s : Int) : qgE (qv p s) := qdy (qb3 0) (qdx h.t)
theorem qkt {p : PS} (h : p.lim) (c : Int) : qgE (qt p c) := by
 unfold qt
 refine qu (fun _ => qa6 ?_) fun _ => qu (fun _ => qa6 (qb3 3)) fun _ => qu (fun _ => qa6 (qb3 5)) fun _ => qu (fun _ => qa6 (qb3 6)) fun _ => qdy (qb3 0) (qdx (by decide))
 split
 ·exact ⟨h.u, by show (p.marks ++ qq [c]).size ≤ 2; rw [ByteArray.size_append, qax]; omega, h.t, h.n, h.b⟩
 ·exact ⟨h.u, h.m, h.t, h.n, h.b⟩
theorem qku {p : PS} (h : p.lim) (c : Int) : qgE (qJ p c) := by
 unfold qJ
 refine qu (fun _ => qa6 ⟨h.u, h.m, h.t, h.n, h.b⟩) fun _ => qu (fun _ => qfQ h 5) fun _ => qu (fun _ => qa6 (qb3 0)) fun _ => qu (fun h3 => qa6 ⟨h.u, h.m, ?_, h.n, h.b⟩) fun _ => qa6 h
 show (p.text ++ qq [c]).size ≤ 40
 rw [ByteArray.size_append, qax]; omega
theorem someL_bd {l : List Int} (h : ∀ x ∈ l, 0 ≤ x ∧ x ≤ 9999) : ∀ x ∈ qaI l, 0 ≤ x ∧ x ≤ 9999 := fun x hx => by
 unfold qaI at hx
 split at hx
 ·simp at hx; omega
 ·exact h x hx
theorem fed_csi {p : PS} (h : p.lim) (c : Int) : qgE (qb8 p c) := by
 have h1 := qeN p.params
 have h2 := someL_bd h.b
 have h3 := qjm h.b
 have h4 := h.n
 unfold qb8
 refine qu (fun hc => qa6 ⟨h.u, h.m, h.t, ?_, ?_⟩) fun _ => qu (fun _ => qa6 ?_) fun _ => qu (fun _ => qu (fun _ => qa6 (qb3 0)) fun _ => qdy (qb3 0) ⟨h.n, h.b, (by decide : (0 : Nat) ≤ 40)⟩) fun _ => qu (fun _ => qa6 ⟨h.u, h.m, h.t, h.n, h.b⟩) fun h5 => qa6 ⟨h.u, ?_, h.t, h.n, h.b⟩
 ·show (qdW _ _).length ≤ 8
  unfold qdW; rw [List.length_set]; omega
 ·intro x hx
  have hx' : x ∈ (qaI p.params).set ((qaI p.params).length - 1) (min (10 * qeO (qaI p.params) + (c - 48)) 9999) := hx
  rcases List.mem_or_eq_of_mem_set hx' with hx | rfl
  ·exact h2 x hx
  ·omega
 ·split
  ·refine ⟨h.u, h.m, h.t, ?_, ?_⟩
   ·show (qaI p.params ++ [0]).length ≤ 8
    rw [List.length_append]; simp only [List.length_cons, List.length_nil]; omega
   ·intro x hx
    rcases List.mem_append.1 hx with hx | hx
    ·exact h2 x hx
    ·simp at hx; omega
  ·exact ⟨h.u, h.m, h.t, by show (qaI p.params).length ≤ 8; omega, h2⟩
 ·show (p.marks ++ qq [c]).size ≤ 2
  have := h.m
  rw [ByteArray.size_append, qax]; omega
theorem qjs {u : US} (h : u.ok) {c : Int} (hc : 0 ≤ c ∧ c ≤ 255) : (qcs u c).1.ok := by
 have hb : ∀ x ∈ u.pend ++ [c], 0 ≤ x ∧ x ≤ 255 := fun x hx => (List.mem_append.1 hx).elim (h.pend x) (fun h => by simp at h; omega)
 exact qlU (fun x hx => qcB hb 4 x (List.mem_of_mem_take hx)) (by rw [List.length_take]; omega)
theorem qkv {p : PS} (h : p.lim) {c : Int} (hc : 0 ≤ c ∧ c ≤ 255) : qgE (qK p c) := by
 unfold qK
 refine qu (fun _ => qu (fun _ => ⟨qb3 1, qdz _⟩) fun _ => qu (fun _ => ⟨⟨qiz, h.m, h.t, h.n, h.b⟩, qjr (qdz _) fun a ha => by obtain rfl := List.mem_singleton.1 ha; exact qdx (by decide)⟩) fun _ => ⟨⟨qjs qiz hc, h.m, h.t, h.n, h.b⟩, qjr (qdz _) (qdz _)⟩) fun _ => ⟨⟨qjs h.u hc, h.m, h.t, h.n, h.b⟩, qdz _⟩
theorem qhI {p : PS} (h : p.lim) {c : Int} (hc : 0 ≤ c ∧ c ≤ 255) : qgE (qan p c) := by
 unfold qan
 exact qu (fun _ => qkv h hc) fun _ => qu (fun _ => qku h c) fun _ => qu (fun _ => qa6 (qb3 0)) fun _ => qu (fun _ => qa6 (qb3 1)) fun _ => qu (fun _ => qdy h (qdx (by decide))) fun _ => qu (fun _ => qa6 h) fun _ => qu (fun _ => fed_csi h c) fun _ => qkt h c
theorem qgF {p : PS} (h : p.lim) {c : Int} (hc : 0 ≤ c ∧ c ≤ 255) : qgE (qaR p c) := by
 unfold qaR
 exact qu (fun _ => qu (fun _ => qfQ h _) fun _ => qhI (qb3 1) hc) fun _ => qhI h hc
theorem fed_len {p : PS} (h : p.lim) (c : Int) : (qaR p c).2.length ≤ 8 := by
 have hf : (qaF p.utf).length ≤ 3 := by unfold qaF; rw [List.length_replicate]; have := h.u.n; omega
 have hu := qdv h.u c
 have h0 := qdv qiz c
 have l1 : ∀ (q : PS) (s : Int), (qv q s).2.length ≤ 8 := fun _ _ => by simp [qv]
 have l2 : ∀ q : PS, (qt q c).2.length ≤ 8 := fun q => by
  unfold qt
  exact qu (P := fun r => r.2.length ≤ 8) (fun _ => by simp) fun _ => qu (P := fun r => r.2.length ≤ 8) (fun _ => by simp) fun _ => qu (P := fun r => r.2.length ≤ 8) (fun _ => by simp) fun _ => qu (P := fun r => r.2.length ≤ 8) (fun _ => by simp) fun _ => by simp
 have l3 : ∀ q : PS, (qJ q c).2.length ≤ 8 := fun q => by
  unfold qJ
  exact qu (P := fun r => r.2.length ≤ 8) (fun _ => by simp) fun _ => qu (P := fun r => r.2.length ≤ 8) (fun _ => l1 _ _) fun _ => qu (P := fun r => r.2.length ≤ 8) (fun _ => by simp) fun _ => qu (P := fun r => r.2.length ≤ 8) (fun _ => by simp) fun _ => by simp
 have l4 : ∀ q : PS, (qb8 q c).2.length ≤ 8 := fun q => by
  unfold qb8
  exact qu (P := fun r => r.2.length ≤ 8) (fun _ => by simp) fun _ => qu (P := fun r => r.2.length ≤ 8) (fun _ => by simp) fun _ => qu (P := fun r => r.2.length ≤ 8) (fun _ => qu (P := fun r => r.2.length ≤ 8) (fun _ => by simp) fun _ => by simp) fun _ => qu (P := fun r => r.2.length ≤ 8) (fun _ => by simp) fun _ => by simp
 have l5 : (qK p c).2.length ≤ 8 := by
  unfold qK
  exact qu (P := fun r => r.2.length ≤ 8) (fun _ => qu (P := fun r => r.2.length ≤ 8) (fun _ => by simp; omega) fun _ => qu (P := fun r => r.2.length ≤ 8) (fun _ => by simp; omega) fun _ => by simp; omega) fun _ => by simp; omega
 have l6 : ∀ q : PS, (qK q c).2.length ≤ 8 → (qan q c).2.length ≤ 8 := fun q hq => by
  unfold qan
  exact qu (P := fun r => r.2.length ≤ 8) (fun _ => hq) fun _ => qu (P := fun r => r.2.length ≤ 8) (fun _ => l3 _) fun _ => qu (P := fun r => r.2.length ≤ 8) (fun _ => by simp) fun _ => qu (P := fun r => r.2.length ≤ 8) (fun _ => by simp) fun _ => qu (P := fun r => r.2.length ≤ 8) (fun _ => by simp) fun _ => qu (P := fun r => r.2.length ≤ 8) (fun _ => by simp) fun _ => qu (P := fun r => r.2.length ≤ 8) (fun _ => l4 _) fun _ => l2 _
 have l7 : (qK (atP 1) c).2.length ≤ 8 := by
  have hz : (qaF (atP 1).utf).length ≤ 3 := by simp [qaF, atP]
  have hv : (qcs (atP 1).utf c).2.length ≤ 4 := h0
  unfold qK
  exact qu (P := fun r => r.2.length ≤ 8) (fun _ => qu (P := fun r => r.2.length ≤ 8) (fun _ => by simp; omega) fun _ => qu (P := fun r => r.2.length ≤ 8) (fun _ => by simp; omega) fun _ => by simp; omega) fun _ => by simp; omega
 unfold qaR
 exact qu (P := fun r => r.2.length ≤ 8) (fun _ => qu (P := fun r => r.2.length ≤ 8) (fun _ => l1 _ _) fun _ => l6 _ l7) fun _ => l6 _ l5
theorem TermIn.newPs {w w' : World} {t g o : Nat} {ba : Option Addr} {bn bc : Nat} {pa : Option Addr} {pn pc : Nat} {T : TS} {F F1 F2 FB FP K : Nat → Prop} (h : TermIn w t g o ba bn bc pa pn pc T F F1 F2 FB FP) (hc : Ch (fun j => j = t) w w') {p' : PS} {po : Option Nat} {pn' pc' : Nat}
  (hb : Blk w' t (({ T with parser := p' } : TS).vals g o (.slice ba bn bc) (.slice (po.map at0) pn' pc')) qV) (hp : IntsAt w' .i64 po pn' pc' p'.params K) (hK : ∀ b, po = some b → FP b ∨ (¬ F b ∧ gTop ≤ b)) :
  TermIn w' t g o ba bn bc (po.map at0) pn' pc' ({ T with parser := p' } : TS) (fun b => F b ∨ po = some b) F1 F2 FB (fun b => FP b ∨ po = some b) := by
 obtain ⟨rows, hL, hl⟩ := h.bk
 have key : ∀ (X : Nat → Prop), (∀ b, X b → F b) → (∀ b, X b → ¬ FP b) → ∀ b, X b → ¬ (FP b ∨ po = some b) := fun X h1 h2 b hx hy => hy.elim (h2 b hx) fun e => (hK b e).elim (h2 b hx) fun h3 => h3.1 (h1 b hx)
 exact
 {blk := hb
  g1 := h.g1.ch hc fun b hb e => h.t1 (e ▸ hb)
  g2 := h.g2.ch hc fun b hb e => h.t2 (e ▸ hb)
  bk := ⟨rows, hL.ch hc fun b hb e => h.tB (e ▸ hb), hl⟩
  bcap := h.bcap
  ps := ⟨hp.1, hp.2.1, (fun e => hp.2.2.1 (by cases po <;> simp_all)), fun ad e => by
   cases po with
   | none => cases e
   | some b => cases e; exact .inr rfl⟩
  pz := ⟨po, rfl⟩
  bz := h.bz
  t1 := h.t1, t2 := h.t2, tB := h.tB
  tP := key (fun b => b = t) (fun b e => e ▸ h.inF.1) (fun b e => e ▸ h.tP) t rfl
  a12 := h.a12, a1B := h.a1B, a2B := h.a2B
  a1P := key F1 h.inF.2.1 h.a1P
  a2P := key F2 h.inF.2.2.1 h.a2P
  inF := ⟨.inl h.inF.1, fun b hb => .inl (h.inF.2.1 b hb), fun b hb => .inl (h.inF.2.2.1 b hb), fun b hb => .inl (h.inF.2.2.2.1 b hb), fun b hb => hb.imp (h.inF.2.2.2.2 b) id⟩
  lt := fun b hb => hb.elim (fun hb => Nat.lt_of_lt_of_le (h.lt b hb) hc.size) fun e => (hp.2.2.2 b e).2
  hi := fun b hb => hb.elim (h.hi b) fun e => (hK b e).elim (fun hb => h.hi b (h.inF.2.2.2.2 b hb)) fun h3 => h3.2 }
theorem TermIn.ints {w : World} {t g o : Nat} {ba : Option Addr} {bn bc : Nat} {pa : Option Addr} {pn pc : Nat} {T : TS} {F F1 F2 FB FP : Nat → Prop} (h : TermIn w t g o ba bn bc pa pn pc T F F1 F2 FB FP) :
  ∃ po : Option Nat, pa = po.map at0 ∧ IntsAt w .i64 po pn pc T.parser.params (fun b => po = some b) ∧ ∀ b, po = some b → FP b := by
 obtain ⟨po, rfl⟩ := h.pz
 have hf : ∀ b, po = some b → FP b := fun b e => by subst e; exact h.ps.2.2.2 _ rfl
 refine ⟨po, rfl, ⟨h.ps.1, h.ps.2.1, fun e => h.ps.2.2.1 (by rw [e]; rfl), fun b e => ⟨e, h.lt b (h.inF.2.2.2.2 b (hf b e))⟩⟩, hf⟩
theorem ActsAt.at {w : World} {b n c : Nat} {l : List Ac} {K : Nat → Prop} (h : ActsAt w (some b) n c l K) {j : Nat} (hj : j < n) : ∃ ac ao an cc, l[j]? = some ac ∧ IntsAt w .i64 ao an cc ac.params K ∧
  w.cell? ⟨b, (0 + ((j : Nat) : Int).toNat * 6), none⟩ = some (.int .i64 ac.kind) ∧ w.cell? ⟨b, (0 + ((j : Nat) : Int).toNat * 6) + 1, none⟩ = some (.int .i32 ac.rune) ∧ w.cell? ⟨b, (0 + ((j : Nat) : Int).toNat * 6) + 2, none⟩ = some (.int .u8 ac.last) ∧
  w.cell? ⟨b, (0 + ((j : Nat) : Int).toNat * 6) + 3, none⟩ = some (.string ac.marks) ∧ w.cell? ⟨b, (0 + ((j : Nat) : Int).toNat * 6) + 4, none⟩ = some (.slice (ao.map at0) an cc) ∧ w.cell? ⟨b, (0 + ((j : Nat) : Int).toNat * 6) + 5, none⟩ = some (.string ac.text) := by
 obtain ⟨vss, h1, h2, h3⟩ := h.ex
 have hl := h.len
 have hj1 : j < l.length := by omega
 have hj2 : j < vss.length := by omega
 obtain ⟨ao, an, cc, e, hv⟩ := h3 j hj1 hj2
 have h6 : ∀ v ∈ vss, v.length = 6 := fun v hv => by
  obtain ⟨i, hi, rfl⟩ := List.getElem_of_mem hv
  exact (h3 i (by omega) hi).len
 have key : ∀ k, k < 6 → ∀ v, (l[j].vals (.slice (ao.map at0) an cc))[k]? = some v → w.cell? ⟨b, 0 + (j * 6 + k), none⟩ = some v := fun k hk v hv => qbs h1.rd _ _ (by rw [qkg h6 hj2 hk, e]; exact hv)
 refine ⟨l[j], ao, an, cc, List.getElem?_eq_getElem hj1, hv, ?_⟩
 rw [Int.toNat_natCast, Nat.zero_add]
 have k0 := key 0 (by decide) _ rfl
 have k1 := key 1 (by decide) _ rfl
 have k2 := key 2 (by decide) _ rfl
 have k3 := key 3 (by decide) _ rfl
 have k4 := key 4 (by decide) _ rfl
 have k5 := key 5 (by decide) _ rfl
 simp only [Nat.zero_add, Nat.add_zero] at k0 k1 k2 k3 k4 k5
 exact ⟨k0, k1, k2, k3, k4, k5⟩
theorem qm9 {l : List Ac} {j : Nat} {ac : Ac} (h : l[j]? = some ac) (T : TS) : (l.take (j + 1)).foldl qdh T = qdh ((l.take j).foldl qdh T) ac := by
 obtain ⟨hj, rfl⟩ := List.getElem?_eq_some_iff.1 h
 rw [List.take_succ_eq_append_getElem hj, List.foldl_append]
 rfl
theorem qma {F F2 : Nat → Prop} {w u v : World} (h : ∀ b, F2 b → more F w u b) (h1 : w.heap.size ≤ u.heap.size) (h2 : u.heap.size ≤ v.heap.size) : ∀ b, more F2 u v b → more F w v b := fun b hb => hb.elim (fun hb => (h b hb).imp id fun h => ⟨h.1, by omega⟩) fun hb => .inr ⟨by omega, hb.2⟩
theorem ch_in {F F2 : Nat → Prop} {w u v : World} (hc : Ch F w u) (h : ∀ b, F2 b → more F w u b) (hc2 : Ch F2 u v) : Ch F w v := hc.trans hc2 fun i hi h2 => (h i h2).elim id fun h => by omega
theorem qgG {W H : Int} {T : TS} (h : Lim W H T) (l : List Ac) : Lim W H (l.foldl qdh T) := by
 induction l generalizing T with
 | nil => exact h
 | cons a l ih => exact ih (qm5 h a)
theorem qdY {W H : Int} {T : TS} (h : Lim W H T) (p : PS) : Lim W H { T with parser := p } := h.flags rfl rfl rfl rfl rfl rfl rfl rfl rfl
theorem lim_feed {W H : Int} {T : TS} (h : Lim W H T) (c : Int) : Lim W H (qhH T c) := qgG (qdY h _) _
theorem qhJ {W H : Int} {T : TS} (h : Lim W H T) (s : ByteArray) (k : Nat) : Lim W H (qcF T s k) := by
 induction k with
 | zero => exact h
 | succ k ih => exact lim_feed ih _
theorem qF {c : Prop} [Decidable c] {a b : TS} {p : PS} (h1 : a.parser = p) (h2 : b.parser = p) : (if c then a else b).parser = p := by
 split <;> assumption
theorem qhK (T : TS) (n : Int) : (qar T n).parser = T.parser := qF rfl rfl
theorem qgH (T : TS) (x y : Int) : (qaV T x y).parser = T.parser := qF rfl rfl
theorem qdb (T : TS) : (qaC T).parser = T.parser := qF (qhK T 1) (qF rfl rfl)
theorem upT_p (T : TS) : (upT T).parser = T.parser := qF rfl (qF rfl rfl)
theorem printT_p (T : TS) (r : Int) : (qcA T r).parser = T.parser := by
 have hA : ∀ T, (qbm T).parser = T.parser := fun T => qF (qdb _) rfl
 have hB : ∀ T n, (qb7 T n).parser = T.parser := fun T n => qF (qF (qdb _) rfl) rfl
 have hC : ∀ T n, (qbw T n).parser = T.parser := fun T n => qF rfl rfl
 have hE : ∀ T n, (qeL T n).parser = T.parser := fun T n => qF rfl rfl
 unfold qcA
 rw [hE]
 exact (hC _ _).trans ((hB _ _).trans (hA _))
theorem execT_p (T : TS) (c : Int) : (qcl T c).parser = T.parser :=
 qF rfl (qF rfl (qF (qdb T) (qF (qdb T) (qF (qdb T) (qF rfl (qF rfl (qF rfl rfl)))))))
theorem escT_p (T : TS) (a : Ac) : (qey T a).parser = T.parser :=
 qF (qF rfl rfl) (qF (qF rfl rfl) (qF rfl (qF rfl (qF rfl (qF (qdb T) (qF (qdb T) (qF (upT_p T) (qF rfl (qF rfl rfl)))))))))
theorem qgI (T : TS) (s : ByteArray) : (qbx T s).parser = T.parser := qF rfl rfl
theorem tellT_p (T : TS) (c k : Int) : (qbA T c k).parser = T.parser := qF rfl (qF rfl (qF rfl (qF (qgI _ _) (qF (qgI _ _) (qF (qgI _ _) rfl)))))
theorem eraseN_p (T : TS) (k x y : Int) (s : Sty) (a : Int) (j : Nat) : (qdw T k x y s a j).parser = T.parser := by
 induction j with
 | zero => rfl
 | succ j ih => exact (qF rfl (qF rfl (qF rfl rfl)) : (qaG (qdw T k x y s a j) k x y s (a + (j : Int))).parser = _).trans ih
theorem qgJ (T : TS) (k a b : Int) : (qb0 T k a b).parser = T.parser := eraseN_p _ _ _ _ _ _ _
theorem editT_p (T : TS) (c n : Int) (l : List Int) : (qaJ T c n l).parser = T.parser :=
 qF rfl (qF rfl (qF rfl (qF (qgJ _ _ _ _) (qF (qF (qgJ _ _ _ _) (qgJ _ _ _ _)) (qF (qF rfl rfl) (qF (qF rfl rfl) (qF (qhK _ _) (qF rfl (tellT_p _ _ _)))))))))
theorem plainT_p (T : TS) (c : Int) (l : List Int) : (qa5 T c l).parser = T.parser :=
 qF rfl (qF rfl (qF rfl (qF rfl (qF rfl (qF (qgH _ _ _) (qF (qgH _ _ _) (qF rfl (qF (qF (qgH _ _ _) rfl) (editT_p _ _ _ _)))))))))
theorem turnT_p (T : TS) (b : Bool) : (qgy T b).parser = T.parser := qF rfl (qF rfl rfl)
theorem modeT_p (T : TS) (n : Int) (b : Bool) : (qay T n b).parser = T.parser := qF (qgH _ _ _) (qF rfl (qF rfl (qF (turnT_p _ _) rfl)))
theorem modes_p (T : TS) (l : List Int) (b : Bool) : (l.foldl (fun T n => qay T n b) T).parser = T.parser := by
 induction l generalizing T with
 | nil => rfl
 | cons n l ih => exact (ih _).trans (modeT_p _ _ _)
theorem csiT_p (T : TS) (a : Ac) : (qii T a).parser = T.parser := qF (plainT_p _ _ _) (qF (modes_p _ _ _) rfl)
theorem actT_p (T : TS) (a : Ac) : (qdh T a).parser = T.parser := qF (printT_p _ _) (qF (execT_p _ _) (qF (escT_p _ _) (qF (csiT_p _ _) (qF (qF rfl rfl) rfl))))
theorem acts_p (T : TS) (l : List Ac) : (l.foldl qdh T).parser = T.parser := by
 induction l generalizing T with
 | nil => rfl
 | cons a l ih => exact (ih _).trans (actT_p _ _)
theorem qmb (T : TS) (c : Int) : (qhH T c).parser = (qaR T.parser c).1 := acts_p _ _
theorem qd0 {T : TS} (h : T.parser.lim) (s : ByteArray) (k : Nat) : (qcF T s k).parser.lim := by
 induction k with
 | zero => exact h
 | succ k ih => exact (qmb _ _) ▸ (qgF ih (qci s _)).1
def zeroT : TS := { grid := ⟨0, 0, []⟩, other := ⟨0, 0, []⟩, cursor := cur0, saved := cur0, away := cur0, top := 0, bot := 0, tabs := fun _ => false, wrap := false, origin := false, insert := false, hidden := false, draw0 := false, draw1 := false, shift := false, alt := false, title := ByteArray.empty, back := [], parser := ⟨0, ⟨0, 0, 0, 0⟩, ByteArray.empty, [], ByteArray.empty, 0⟩, reply := ByteArray.empty }
set_option maxHeartbeats 4000000 in
theorem qgK (p1 p2 : Int) (w : World) (hT : LT w) (h7 : gTop ≤ w.heap.size) : Calls Tryz.prog 19 [iX p1, iX p2].toArray w fun e w' => ∃ t, e = .returned (pX t) ∧ TermAt w' t (qa7 zeroT p1 p2) (fun b => w.heap.size ≤ b ∧ b < w'.heap.size) ∧ Ch (fun _ => False) w w' := by
 refine yA Tryz.func19 rfl <| yx 1 <| ysr <| yq 1 <| yo (yN [.pointer none, .pointer none, iX 0, iX 0, .bool false, .bool false, .bool false, .bool false, iX 0, iX 0, iX 0, iX 0, .bool false, .bool false, .bool false, .bool false, iX 0, iX 0, iX 0, iX 0, .bool false, .bool false, .bool false, .bool false, iX 0, iX 0, iX 0, iX 0, .bool false, .bool false, .bool false, .bool false, .bool false, .bool false, .bool false, .bool false, .bool false, .bool false, .bool false, .bool false, .bool false, .bool false, .bool false, .bool false, .bool false, .bool false, .bool false, .bool false, .bool false, .bool false, .bool false, .bool false, .bool false, .bool false, .bool false, .bool false, .bool false, .bool false, .bool false, .bool false, .bool false, .bool false, .bool false, .bool false, .bool false, .bool false, .bool false, .bool false, .bool false, .bool false, .bool false, .bool false, .bool false, .bool false, .bool false, .bool false, .bool false, .bool false, .bool false, .bool false, .bool false, .bool false, .bool false, .bool false, .bool false, .bool false, .bool false, .bool false, .bool false, .bool false, .bool false, .bool false, .bool false, .bool false, .bool false, .bool false, oX, nX, iX 0, uX 0, uX 0, uX 0, iX 0, oX, nX, oX, iX 0, oX] 57 fun d a j p k l => ?_); have q := zn j (zm w); have c := zu (zm w) l iZ; refine yz 3 <| ysr <| yq 3 ?_; have f : Blk d a (zeroT.valsG (.pointer none) (.pointer none) (nX) (nX)) qV := Blk.to k (by kernel_rfl); have r := zs c
 have m : PsAt d a none 0 0 zeroT.parser.params (fun _ => False) := ⟨⟨Rd.nil _ _, rfl, fun _ => rfl, fun ad e => by cases e⟩, ⟨none, rfl⟩, fun b h => h.elim⟩
 have n := qz (Up.ch c) hT (fun _ h => h.elim); refine yo (yQ (qhG f m (by omega) n (by decide) p1 p2) ?_); rintro s ⟨o, g⟩; refine ye <| yx 2 <| qd (yR1 (pX a) ?_); refine ⟨a, rfl, TermAt.mono o (fun b hb => ?_) (fun b hb => ⟨hb.2, by omega⟩), zt (Up.ch c) g (fun i hi h => ?_)⟩
 ·have hz := zs g; rcases hb with rfl | hb | hb
  ·exact ⟨by omega, by have := f.lt; omega⟩
  ·exact hb.elim
  exact ⟨by omega, hb.2⟩
 rcases h with rfl | h
 ·omega
 exact h
theorem qmc {X : PS × List Ac} {w : World} {po : Option Nat} {pn pc : Nat} {p : PS} {c : Int} (hX : qaR p c = X) (hP : IntsAt w .i64 po pn pc p.params (fun b => po = some b)) (hcB : 0 ≤ c ∧ c ≤ 255) (hU : qbS w) (hp : p.lim) (hn8 : pn ≤ 8) : Calls Tryz.prog 58 [.agg #[iX p.state, uX p.utf.b0, uX p.utf.b1, uX p.utf.b2, iX p.utf.n, .string p.marks, .slice (po.map at0) pn pc, .string p.text, iX p.within], uX c].toArray w fun e w' => Fed w w' e po X.1 X.2 := by
 subst hX; exact feed_any hP c hcB hU hp hn8
set_option maxHeartbeats 4000000 in
theorem write_at {w : World} {t : Nat} {W H : Int} {T : TS} {F : Nat → Prop} (hA0 : TermAt w t T F) (hT : LT w) (hL : Lim W H T) (hp : T.parser.lim) (s : ByteArray) (hs : s.size ≤ 1000000) : Calls Tryz.prog 43 [pX t, .string s].toArray w fun e w' => e = .returned (.tuple #[]) ∧ TermAt w' t (qjq T s) (more F w w') ∧ Ch F w w' := by
 obtain ⟨g, o, ba, bn, bc, pa, pn, pc, F1, r, FB, FP, hI⟩ := hA0; have hA0 : TermAt w t T F := ⟨g, o, ba, bn, bc, pa, pn, pc, F1, r, FB, FP, hI⟩
 have l := hI.inF.1; obtain ⟨gv, cA⟩ := hI.g1.head; have cB : Df t g := fun e => hI.t1 (e ▸ hI.g1.inF); obtain ⟨⟨cC, cD⟩, ⟨cE, cF⟩, cG, cH⟩ := hI.g1.ok; have bf := hL; have cI := bf.all; refine yA Tryz.func43 rfl <| yx 3 <| q8 ?_; have az := hI.cht (Ch.refl (· = t) w); have bg := hI.pk1 hI az; refine qN [0, 1, 9, 10] (f' := [(0, pX t), (1, .string s), (9, iX ((s).size : Int)), (10, iX 0)]) <| qw (σ := Nat) (fun k => [(0, pX t), (1, .string s), (9, iX ((s).size : Int)), (10, iX ((k : Nat) : Int))]) (fun k u => k ≤ s.size ∧ (TermAt u t (qcF T s k) (more F w u) ∧ Ch F w u)) (fun k => s.size - k) 0 rfl ?_ ?_
 ·exact ⟨Nat.zero_le _, (TermAt.eq' bg rfl), az⟩
 intro k ah bh cJ aA; obtain ⟨hk, aB, ai⟩ := bh; have bi := qz ai hT (fun b hb => hI.hi b hb); have aj : Lim W H (qcF T s k) := (qhJ hL s k)
 generalize U : (qcF T s k) = y at aB aj; have bj := aj; have cK := bj.all; obtain ⟨ak, bk, bl, bm, bo, cL, cM, cN, cO, cP, cQ, cR, C⟩ := aB; obtain ⟨cS, cT⟩ := C.g1.head; have cU : Df t ak := fun e => C.t1 (e ▸ C.g1.inF); obtain ⟨bp, bq, br, V⟩ := C.ints; subst bq; refine yx 1 <| ys <| yc (rL ((k : Nat) : Int) ((s).size : Int)) (fun bs => ?_) fun bs => ?_
 ·refine yk <| ys <| q8 <| yx 2 <| yx 1 <| ys <| yD [8, 14] fun D cV Y => ?_; have N := zt (Ch.refl (· = t) ah) Y eZ; have aC := qz Y bi (fun _ h => h.elim); have Z := C.blk.ch Y id; have aD := br.ch Y iZ; refine yd (uL 0 8) [] (.a (Z.cs 98 9) (.i ((k : Nat) : Int) ((s).size) .z)) ?_; have cW := C.scalar (T' := y) N Z rfl rfl rfl rfl; have aE := C.scalar (T' := y) N Z rfl rfl rfl rfl; have O := Ch.on ai N l; have cX := aE.pk2 N hI O; have bu := aE.mono (F' := more F w D) (fun b hb => hb.elim .inl (fun x => .inr ⟨x.1, by have := zs N; omega⟩)) (hI.moreOk O.size); obtain ⟨d, a0⟩ : ∃ X, qaR y.parser (bt s ((k : Nat) : Int)) = X := ⟨_, rfl⟩
  have a1 : (y.parser).lim := (U ▸ qd0 hp s k)
  have aF := qgF a1 (qci s ((k : Nat) : Int)); have bv := fed_len a1 (bt s ((k : Nat) : Int)); rw [a0] at aF bv; refine yK 8 (yC ((qmc a0 (p := y.parser) aD (qci s _) aC.ut a1 (by have := a1.n; have := aD.2.1; omega))) ?_); rintro _ al ⟨E, aG, aH, bw, c, a2, rfl, aI, bx, P⟩; refine ⟨_, rfl, ?_⟩; have cY := zs P; have bz := qz P aC (fun _ h => h.elim); have bA := Z.ch P id; refine q9 <| yd (uL 9 5) [] .z ?_; have a3 := bu.same P iZ; refine yK 14 (qa1 98 [iX d.1.state, uX d.1.utf.b0, uX d.1.utf.b1, uX d.1.utf.b2, iX d.1.utf.n, .string d.1.marks, .slice (E.map at0) aG aH, .string d.1.text, iX d.1.within] none (by kernel_rfl) bA (qb5 (by kernel_rfl)) ?_); intro q am A; replace am : Blk q t (TS.vals ({ y with parser := d.1 } : TS) ak bk (.slice bl bm bo) (.slice (E.map at0) aG aH)) qV := Blk.to am (by kernel_rfl); have ap : ∀ b, E = some b → bp = some b ∨ (D.heap.size ≤ b ∧ b < al.heap.size) := fun b e => (aI.2.2.2 b e).1; have G : ∀ b, more F w D b → b < D.heap.size ∧ gTop ≤ b := hI.moreOk O.size; have cZ : ∀ b, E = some b → ¬ b = t := fun b e h => (ap b e).elim (fun x => a3.tP (h ▸ V b x)) (fun x => by have := (G t (.inl l)).1; omega); have bB := aI.ch A (fun b hb (h : b = t) => hb.elim (fun x => a3.tP (h ▸ V b x)) (fun x => by have := (G t (.inl l)).1; omega)); have f := a3.newPs A (p' := d.1) am bB (fun b e => (ap b e).imp (fun h => V b h) (fun h => ⟨fun x => by have := (G b x).1; omega, by have := (G t (.inl l)).2; have := (G t (.inl l)).1; omega⟩))
  obtain ⟨r, aq⟩ : ∃ F' : Nat → Prop, F' = fun b => more F w D b ∨ E = some b := ⟨_, rfl⟩
  rw [← aq] at f; have a4 : ∀ b, r b → more F w q b := fun b hb => by
   rw [aq] at hb; rcases hb with hb | hb
   ·exact hb.imp id fun h => ⟨h.1, by have := zs A; omega⟩
   rcases ap b hb with h | h
   ·exact (a3.inF.2.2.2.2 b (V b h)).imp id fun h => ⟨h.1, by have := zs A; omega⟩
   exact .inr ⟨by have := zs O; omega, by have := zs A; omega⟩
  have J : Ch F w q := zt (zt O P eZ) A (fun i _ h => h ▸ l); have ar : ∀ b, ((D.heap.size ≤ b ∧ b < al.heap.size) ∧ E ≠ some b) → b < q.heap.size := fun b hb => by have := zs A; omega
  have aJ : ∀ b, ((D.heap.size ≤ b ∧ b < al.heap.size) ∧ E ≠ some b) → ¬ r b := fun b hb h => by
   rw [aq] at h; rcases h with h | h
   ·have := (G b h).1; omega
   exact hb.2 h
  have bC := qz A bz (fun b (h : b = t) => h ▸ hI.hi t l); have a5 := bx.ch A (fun b hb (h : b = t) => by have := (G t (.inl l)).1; omega); have Q : r t := f.inF.1; have aK : TermAt q t ({ y with parser := d.1 } : TS) r := ⟨_, _, _, _, _, _, _, _, _, _, _, _, f⟩
  have au : Lim W H ({ y with parser := d.1 } : TS) := qdY aj _; generalize aL : ({ y with parser := d.1 } : TS) = T68 at f aK au; obtain ⟨d0, d1⟩ := f.g1.head; have d2 : Df t ak := fun e => f.t1 (e ▸ f.g1.inF); refine q9 <| yd [15] [] .z <| yDe (nS ?_); refine yx 3 <| q8 ?_; rcases bw with _ | ab
  ·have av : d.2.length = c := a5.len; have d3 : c = 0 := by
    obtain ⟨d4, h1, x, h3⟩ := a5.ex; exact (h1.2.2.2.1 rfl).1
   have aM := f.cht (Ch.refl (· = t) q); have bE := f.pk1 f aM; refine qN [0, 1, 9, 10, 27, 28, 29] (f' := [(0, pX t), (1, .string s), (9, iX ((s).size : Int)), (10, iX ((k : Nat) : Int)), (27, .slice none c a2), (28, iX ((c : Nat) : Int)), (29, iX 0)]) <| qw (σ := Nat) (fun j => [(0, pX t), (1, .string s), (9, iX ((s).size : Int)), (10, iX ((k : Nat) : Int)), (27, .slice none c a2), (28, iX ((c : Nat) : Int)), (29, iX ((j : Nat) : Int))]) (fun j v => j ≤ c ∧ (TermAt v t ((d.2.take j).foldl qdh T68) (more r q v) ∧ Ch r q v)) (fun j => c - j) 0 rfl ?_ ?_
   ·exact ⟨Nat.zero_le _, (TermAt.eq' bE rfl), aM⟩
   intro j a6 bF d6 d7; obtain ⟨hj, aN, bG⟩ := bF; have aw : Lim W H ((d.2.take j).foldl qdh T68) := (qgG au _)
   generalize bH : ((d.2.take j).foldl qdh T68) = T83 at aN aw; have bI := aw; have d8 := bI.all; obtain ⟨bJ, d9, da, db, dc, dd, de, df, dg, dh, di, dj, a7⟩ := aN; obtain ⟨dk, dl⟩ := a7.g1.head; have dm : Df t bJ := fun e => a7.t1 (e ▸ a7.g1.inF); refine yx 1 <| ys <| yc (rL ((j : Nat) : Int) ((c : Nat) : Int)) (fun bK => ?_) fun bK => ?_
   ·exfalso; omega
   have ax : j = c := by omega
   have a8 := Ch.on bG (Ch.refl (· = t) a6) Q; have bL := a7.pk2 (Ch.refl (· = t) a6) f a8; have aO := bL.mono (qma a4 (zs J) (zs a8)) (hI.moreOk (Nat.le_trans (zs J) (zs a8))); have bM := ch_in J a4 a8; have aP : Lim W H T83 := aw; generalize bN : T83 = T92 at aO aP; have bO := aP; have dn := bO.all; obtain ⟨bP, dp, dq, dr, ds, dt, du, dv, dw, dx, dy, dz, a9⟩ := aO; obtain ⟨dA, dB⟩ := a9.g1.head; have dC : Df t bP := fun e => a9.t1 (e ▸ a9.g1.inF); refine qk (eS (qf (qe (nB (nS ?_))))); refine q7 <| yp 2 [] (.q6 (((k : Nat) : Int) + 1) .z) ?_; have aQ := Ch.on bM (Ch.refl (· = t) a6) l; have bQ := a9.pk2 (Ch.refl (· = t) a6) hI aQ; refine yE (fun a ha => aA (k + 1) _ ⟨(by omega), (TermAt.eq' bQ (by subst bN; subst bH; subst aL; subst U; show qhH _ _ = _; unfold qhH; rw [a0, ax, ← av, List.take_length])), aQ⟩ (by show s.size - (k + 1) < s.size - k; omega) a (ha.kp [0, 1, 9, 10]))
  have av : d.2.length = c := a5.len; have aR := f.cht (Ch.refl (· = t) q); have bR := f.pk1 f aR; refine qN [0, 1, 9, 10, 27, 28, 29] (f' := [(0, pX t), (1, .string s), (9, iX ((s).size : Int)), (10, iX ((k : Nat) : Int)), (27, .slice (some ⟨ab, 0, none⟩) c a2), (28, iX ((c : Nat) : Int)), (29, iX 0)]) <| qw (σ := Nat) (fun j => [(0, pX t), (1, .string s), (9, iX ((s).size : Int)), (10, iX ((k : Nat) : Int)), (27, .slice (some ⟨ab, 0, none⟩) c a2), (28, iX ((c : Nat) : Int)), (29, iX ((j : Nat) : Int))]) (fun j v => j ≤ c ∧ (TermAt v t ((d.2.take j).foldl qdh T68) (more r q v) ∧ Ch r q v)) (fun j => c - j) 0 rfl ?_ ?_
  ·exact ⟨Nat.zero_le _, (TermAt.eq' bR rfl), aR⟩
  intro j I bS dD bT; obtain ⟨hj, aS, K⟩ := bS; have bU := qz K bC (fun b hb => f.hi b hb); have bV := a5.ch K (fun b hb h => aJ b hb h); have R : Lim W H ((d.2.take j).foldl qdh T68) := (qgG au _)
  generalize aT : ((d.2.take j).foldl qdh T68) = L at aS R; have bW := R; have dE := bW.all; obtain ⟨bX, dF, dG, dH, dI, dJ, dK, dL, dM, dN, dO, dP, B⟩ := aS; obtain ⟨dQ, dR⟩ := B.g1.head; have dS : Df t bX := fun e => B.t1 (e ▸ B.g1.inF); refine yx 1 <| ys <| yc (rL ((j : Nat) : Int) ((c : Nat) : Int)) (fun bY => ?_) fun bY => ?_
  ·obtain ⟨ac, ao, an, cc, aU, bZ, c0, c1, c2, c3, c4, c5⟩ := bV.at (j := j) (by omega); have ay := aF.2 ac (List.mem_of_getElem? aU); refine yk <| ys <| q8 <| ysr <| yp 2 [] (.i ((j : Nat) : Int) (c) (.m c0 (.m c1 (.m c2 (.m c3 (.m c4 (.m c5 (.e .z)))))))) <| yo (yN [iX 0, rX 0, uX 0, oX, nX, oX] 115 fun dT S c6 dU c7 aa => ?_); have dV : I.heap.size ≤ S := by rw [c6]; exact zs (Ch.refl (· = t) I)
   have c8 := zt (Ch.refl (· = t) I) aa eZ; have c9 := qz aa bU (fun _ h => h.elim); have ca := B.blk.ch aa id; have cb := bZ.ch aa iZ; refine yo (yT [iX ac.kind, rX ac.rune, uX ac.last, .string ac.marks, .slice (ao.map at0) an cc, .string ac.text] c7 fun aV cd ad => ?_); have M := zt c8 ad (fun i hi (h : i = S) => by omega); have ce := qz ad c9 (fun b (h : b = S) => by have := hI.hi t l; have := B.blk.lt; omega); have aW := ca.ch ad (fun (h : t = S) => by have := B.blk.lt; omega); have cf := cb.ch ad (fun b hb (h : b = S) => by have := ar b hb; have := zs K; omega); refine ye <| q7 <| yp 2 [] (.a (cd.cs 0 6) .z) ?_; have cg := B.scalar (T' := L) M aW rfl rfl rfl rfl; have aX := Ch.on K M Q; have dW := cg.pk2 M f aX; have aY := cf.mono (K' := fun b => ¬ more r q aV b ∧ b < aV.heap.size) (fun b hb => ⟨fun h => h.elim (aJ b hb) (fun h => by have := ar b hb; omega), by have := ar b hb; have := zs aX; omega⟩); have ci := B.scalar (T' := L) M aW rfl rfl rfl rfl; have aZ := Ch.on K M Q; have cj := ci.pk2 M f aZ; refine yo (yQ (act_at cj ce R  aY (by have := ay.n; have := aY.2.1; omega) ay.b (by have := ay.t; omega)) ?_); rintro b3 ⟨ck, cl⟩; obtain ⟨b4, cm⟩ := TermAt.next aK aZ cl ck; have b5 : Lim W H (qdh L ac) := (qm5 R ac)
   generalize cn : (qdh L ac) = T150 at b4 b5; have co := b5; have dX := co.all; obtain ⟨cp, dY, dZ, e0, e1, e2, e3, e4, e5, e6, e7, e8, ae⟩ := b4; obtain ⟨e9, ea⟩ := ae.g1.head; have eb : Df t cp := fun e => ae.t1 (e ▸ ae.g1.inF); refine yE (nB (nS ?_)); refine q7 <| yp 2 [] (.q6 (((j : Nat) : Int) + 1) .z) ?_; have b6 := Ch.on cm (Ch.refl (· = t) b3) Q; have cq := ae.pk2 (Ch.refl (· = t) b3) f b6; refine yE (fun a ha => bT (j + 1) _ ⟨(by omega), (TermAt.eq' cq (by subst cn; subst aT; exact qm9 aU _)), b6⟩ (by show c - (j + 1) < c - j; omega) a (ha.kp [0, 1, 9, 10, 27, 28, 29]))
  have ax : j = c := by omega
  have af := Ch.on K (Ch.refl (· = t) I) Q; have cr := B.pk2 (Ch.refl (· = t) I) f af; have b7 := cr.mono (qma a4 (zs J) (zs af)) (hI.moreOk (Nat.le_trans (zs J) (zs af))); have ct := ch_in J a4 af; have b8 : Lim W H L := R; generalize cu : L = T160 at b7 b8; have cv := b8; have ec := cv.all; obtain ⟨cw, ed, ee, ef, eg, eh, ei, ej, ek, el, em, en, ag⟩ := b7; obtain ⟨eo, ep⟩ := ag.g1.head; have er : Df t cw := fun e => ag.t1 (e ▸ ag.g1.inF); refine qk (eS (qf (qe (nB (nS ?_))))); refine q7 <| yp 2 [] (.q6 (((k : Nat) : Int) + 1) .z) ?_; have b9 := Ch.on ct (Ch.refl (· = t) I) l; have cx := ag.pk2 (Ch.refl (· = t) I) hI b9; refine yE (fun a ha => aA (k + 1) _ ⟨(by omega), (TermAt.eq' cx (by subst cu; subst aT; subst aL; subst U; show qhH _ _ = _; unfold qhH; rw [a0, ax, ← av, List.take_length])), b9⟩ (by show s.size - (k + 1) < s.size - k; omega) a (ha.kp [0, 1, 9, 10]))
 have cy : k = s.size := by omega
 refine qk (eS (qf (qe (qM ?_)))); have bb := Ch.on ai (Ch.refl (· = t) ah) l; have cz := C.pk2 (Ch.refl (· = t) ah) hI bb; subst U; subst cy; exact ⟨rfl, cz, bb⟩
theorem qcc {α : Type} {l m : List α} {k : Nat} (h : l.take k = m.take k) (h1 : k < l.length) (h2 : k < m.length) (he : l[k] = m[k]) : l.take (k + 1) = m.take (k + 1) := by
 rw [List.take_succ_eq_append_getElem h1, List.take_succ_eq_append_getElem h2, h, he]
theorem qkw {α : Type} {l m : List α} {k : Nat} (h1 : k < l.length) (h2 : k < m.length) (he : l[k] ≠ m[k]) : l ≠ m := fun e => he (by subst e; rfl)
theorem qhL {l : List Cel} {k : Nat} (h : k < l.length) : gc l ((k : Nat) : Int) = l[k] := by simp [gc, List.getD, List.getElem?_eq_getElem h]
theorem qcG {l : List Int} {k : Nat} (h : k < l.length) : l.getD k 0 = l[k] := by simp [List.getD, List.getElem?_eq_getElem h]
def eqLB (l m : List Cel) : Bool := decide (l = m)
def eqRB (l m : List (List Cel)) : Bool := decide (l = m)
theorem eqLB_t {l m : List Cel} (h : l = m) : eqLB l m = true := decide_eq_true h
theorem qjt {l m : List Cel} (h : l ≠ m) : eqLB l m = false := decide_eq_false h
theorem qmd {l m : List (List Cel)} (h : l = m) : eqRB l m = true := decide_eq_true h
theorem qju {l m : List (List Cel)} (h : l ≠ m) : eqRB l m = false := decide_eq_false h
def grB (G G' : Gr) : Bool := decide (G.w = G'.w) && (decide (G.h = G'.h) && eqRB G.lines G'.lines)
theorem grB_t {G G' : Gr} (h1 : G.w = G'.w) (h2 : G.h = G'.h) (h3 : G.lines = G'.lines) : grB G G' = true := by simp [grB, h1, h2, qmd h3]
theorem grB_refl (G : Gr) : grB G G = true := grB_t rfl rfl rfl
theorem grB_w {G G' : Gr} (h : G.w ≠ G'.w) : grB G G' = false := by simp [grB, h]
theorem grB_h {G G' : Gr} (h : G.h ≠ G'.h) : grB G G' = false := by simp [grB, h]
theorem grB_l {G G' : Gr} (h : G.lines ≠ G'.lines) : grB G G' = false := by simp [grB, qju h]
theorem qdA {rows : List Row} {L : List (List Cel)} (h : rows.map Row.l = L) {k : Nat} {x : Row} (hx : rows[k]? = some x) : ∃ hk : k < L.length, L[k] = x.l := by
 subst h
 obtain ⟨hk, rfl⟩ := List.getElem?_eq_some_iff.1 hx
 exact ⟨by simpa using hk, by simp⟩
theorem qdB {rows : List Row} {k : Nat} (h : k < rows.length) : ∃ x, rows[k]? = some x := ⟨_, List.getElem?_eq_getElem h⟩
theorem qdC {w : World} {b off : Nat} {rows : List Row} (h : Rd w (some ⟨b, off, none⟩) (rows.map Row.val)) {k : Nat} {x : Row} (hx : rows[k]? = some x) : w.cell? ⟨b, off + ((k : Nat) : Int).toNat * 1, none⟩ = some x.val := by
 rw [Int.toNat_natCast, Nat.mul_one]
 exact qbs h k _ (by rw [List.getElem?_map, hx]; rfl)
theorem qcH (a b : Cel) : (((a.rune : Int) == b.rune) && (((a.sty.bold == b.sty.bold) && ((a.sty.under == b.sty.under) && ((a.sty.turned == b.sty.turned) && (((a.sty.fore : Int) == b.sty.fore) && (((a.sty.back : Int) == b.sty.back) && true))))) && true)) = (a == b) := qlx a b
def tabsB (f g : Nat → Bool) : Bool := (List.range 60).foldr (fun i r => (f i == g i) && r) true
theorem qme {f g : Nat → Bool} : tabsB f g = true ↔ ∀ i, i < 60 → f i = g i := by
 unfold tabsB
 have key : ∀ l : List Nat, l.foldr (fun i r => (f i == g i) && r) true = true ↔ ∀ i ∈ l, f i = g i := fun l => by
  induction l with
  | nil => simp
  | cons a l ih => simp [ih]
 rw [key]
 simp
def qek (l m : List Int) : Bool := decide (l = m)
def psB (p q : PS) : Bool :=
 decide (p.state = q.state) && (decide (p.within = q.within) && ((p.marks.toList == q.marks.toList) && ((p.text.toList == q.text.toList) && (decide (p.utf.n = q.utf.n) && ((((p.utf.b0 : Int) == q.utf.b0) && (((p.utf.b1 : Int) == q.utf.b1) && (((p.utf.b2 : Int) == q.utf.b2) && true))) && qek p.params q.params)))))
theorem qgL {l m : List Int} (h : l = m) : qek l m = true := decide_eq_true h
theorem qeT {l m : List Int} (h : l ≠ m) : qek l m = false := decide_eq_false h
theorem psB_refl (p : PS) : psB p p = true := by simp [psB, qek]
abbrev curB (c d : Cur) : Bool := ((c.x : Int) == d.x) && (((c.y : Int) == d.y) && ((c.late == d.late) && (((c.sty.bold == d.sty.bold) && ((c.sty.under == d.sty.under) && ((c.sty.turned == d.sty.turned) && (((c.sty.fore : Int) == d.sty.fore) && (((c.sty.back : Int) == d.sty.back) && true))))) && true)))
def qas (T U : TS) : Bool :=
 grB T.grid U.grid && (grB T.other U.other && (eqRB T.back U.back && (curB T.cursor U.cursor && (curB T.away U.away && (curB T.saved U.saved && (decide (T.top = U.top) && (decide (T.bot = U.bot) && (tabsB T.tabs U.tabs && ((T.wrap == U.wrap) && ((T.origin == U.origin) && ((T.insert == U.insert) && ((T.hidden == U.hidden) &&
  (((T.draw0 == U.draw0) && ((T.draw1 == U.draw1) && true)) && ((T.shift == U.shift) && ((T.alt == U.alt) && ((T.title.toList == U.title.toList) && ((T.reply.toList == U.reply.toList) && psB T.parser U.parser)))))))))))))))))
theorem qiB (T : TS) : qas T T = true := by
 simp [qas, grB_refl, eqRB, psB_refl, qme]
def Fine (T : TS) : Prop := (∃ W H, Lim W H T) ∧ T.parser.lim
theorem qfR (p1 p2 : Int) : Fine (qa7 zeroT p1 p2) := ⟨⟨_, _, qcD zeroT p1 p2 (by decide)⟩, qb3 0⟩
theorem qkx {T : TS} (h : Fine T) (s : ByteArray) : Fine (qjq T s) := by
 obtain ⟨⟨W, H, h⟩, hp⟩ := h
 exact ⟨⟨W, H, qhJ h s _⟩, qd0 hp s _⟩
structure Sys (w0 w : World) (bs : List (Nat × List Value × TypeId)) (ts : List (Nat × TS)) : Prop where
 ch : Ch (fun _ => False) w0 w
 lt : LT w
 top : gTop ≤ w0.heap.size
 blk : ∀ (i : Nat) x, bs[i]? = some x → Blk w x.1 x.2.1 x.2.2
 lo : ∀ (i : Nat) x, bs[i]? = some x → w0.heap.size ≤ x.1
 df : ∀ (i j : Nat) x y, bs[i]? = some x → bs[j]? = some y → i ≠ j → x.1 ≠ y.1
 tm : ∃ F : Nat → Nat → Prop, (∀ (i : Nat) x, ts[i]? = some x → TermAt w x.1 x.2 (F i) ∧ Fine x.2) ∧ (∀ i j, i ≠ j → ∀ b, F i b → ¬ F j b) ∧ (∀ i b, F i b → w0.heap.size ≤ b ∧ b < w.heap.size) ∧ ∀ (i j : Nat) x, bs[i]? = some x → ¬ F j x.1
section
variable {w0 w w' : World} {bs : List (Nat × List Value × TypeId)} {ts : List (Nat × TS)}
theorem Sys.start (h : LT w) (h7 : gTop ≤ w.heap.size) : Sys w w [] [] := ⟨Ch.refl _ _, h, h7, fun i x e => by simp at e, fun i x e => by simp at e, fun i j x y e => by simp at e, fun _ _ => False, fun i x e => by simp at e, fun _ _ _ _ h => h.elim, fun _ _ h => h.elim, fun _ _ _ _ h => h.elim⟩
theorem Sys.same (h : Sys w0 w bs ts) (hc : Ch (fun _ => False) w w') : Sys w0 w' bs ts := by
 obtain ⟨F, h1, h2, h3, h4⟩ := h.tm
 exact ⟨h.ch.trans hc (fun _ _ h => h), qz hc h.lt (fun _ h => h.elim), h.top, fun i x e => (h.blk i x e).ch hc (fun h => h), h.lo, h.df, F, fun i x e => ⟨(h1 i x e).1.ch hc (fun _ _ h => h), (h1 i x e).2⟩, h2, fun i b hb => ⟨(h3 i b hb).1, Nat.lt_of_lt_of_le (h3 i b hb).2 hc.size⟩, h4⟩
theorem Sys.box (h : Sys w0 w bs ts) (hc : Ch (fun _ => False) w w') {b : Nat} {vs : List Value} {ty : TypeId} (hb : Blk w' b vs ty) (hz : w.heap.size ≤ b) : Sys w0 w' (bs ++ [(b, vs, ty)]) ts := by
 have h' := h.same hc
 obtain ⟨F, h1, h2, h3, h4⟩ := h.tm
 obtain ⟨F', g1, g2, g3, g4⟩ := h'.tm
 have one : ∀ i x, (bs ++ [(b, vs, ty)])[i]? = some x → bs[i]? = some x ∨ (i = bs.length ∧ x = (b, vs, ty)) := fun i x e => by
  rcases Nat.lt_or_ge i bs.length with hi | hi
  ·rw [List.getElem?_append_left hi] at e; exact .inl e
  ·rw [List.getElem?_append_right hi] at e
   rcases Nat.eq_zero_or_pos (i - bs.length) with h0 | h0
   ·rw [h0] at e; exact .inr ⟨by omega, (Option.some.inj e).symm⟩
   ·rw [List.getElem?_eq_none (by simp only [List.length_cons, List.length_nil]; omega)] at e; cases e
 refine ⟨h'.ch, h'.lt, h'.top, fun i x e => ?_, fun i x e => ?_, fun i j x y e e' hne => ?_, F, fun i x e => ⟨(h1 i x e).1.ch hc (fun _ _ h => h), (h1 i x e).2⟩, h2, fun i b hb => ⟨(h3 i b hb).1, Nat.lt_of_lt_of_le (h3 i b hb).2 hc.size⟩, fun i j x e => ?_⟩
 ·rcases one i x e with e | ⟨_, rfl⟩
  ·exact h'.blk i x e
  ·exact hb
 ·rcases one i x e with e | ⟨_, rfl⟩
  ·exact h.lo i x e
  ·have := h.ch.size; dsimp only; omega
 ·rcases one i x e with e1 | ⟨h1, rfl⟩
  ·rcases one j y e' with e2 | ⟨h2, rfl⟩
   ·exact h.df i j x y e1 e2 hne
   ·have := (h.blk i x e1).lt; dsimp only; omega
  ·rcases one j y e' with e2 | ⟨h2, rfl⟩
   ·have := (h.blk j y e2).lt; dsimp only; omega
   ·omega
 ·rcases one i x e with e | ⟨_, rfl⟩
  ·exact h4 i j x e
  ·exact fun hf => by have := (h3 j b hf).2; omega
theorem Sys.set (h : Sys w0 w bs ts) (i : Nat) {b : Nat} {vs vs' : List Value} {ty : TypeId} (hi : bs[i]? = some (b, vs, ty)) (hc : Ch (fun j => j = b) w w') (hb : Blk w' b vs' ty) : Sys w0 w' (bs.set i (b, vs', ty)) ts := by
 obtain ⟨F, h1, h2, h3, h4⟩ := h.tm
 have hlo := h.lo i _ hi
 have hlen : i < bs.length := (List.getElem?_eq_some_iff.1 hi).1
 have key : ∀ j x, (bs.set i (b, vs', ty))[j]? = some x → (j = i ∧ x = (b, vs', ty)) ∨ (j ≠ i ∧ bs[j]? = some x) := fun j x e => by
  by_cases hj : j = i
  ·subst hj; rw [List.getElem?_set_self hlen] at e; exact .inl ⟨rfl, (Option.some.inj e).symm⟩
  ·rw [List.getElem?_set_ne (fun h => hj h.symm)] at e; exact .inr ⟨hj, e⟩
 have nF : ∀ j, ¬ F j b := fun j => h4 i j _ hi
 refine ⟨h.ch.trans hc (fun k hk e => by dsimp only at hlo; omega), qz hc h.lt (fun k e => by have := h.top; dsimp only at hlo; omega), h.top, fun j x e => ?_, fun j x e => ?_, fun j k x y e e' hne => ?_, F, fun j x e => ⟨(h1 j x e).1.ch hc (fun k hk e' => nF j (e' ▸ hk)), (h1 j x e).2⟩, h2, fun j k hk => ⟨(h3 j k hk).1, Nat.lt_of_lt_of_le (h3 j k hk).2 hc.size⟩, fun j k x e => ?_⟩
 ·rcases key j x e with ⟨_, rfl⟩ | ⟨hj, e⟩
  ·exact hb
  ·exact (h.blk j x e).ch hc (h.df j i x _ e hi hj)
 ·rcases key j x e with ⟨_, rfl⟩ | ⟨hj, e⟩
  ·exact hlo
  ·exact h.lo j x e
 ·rcases key j x e with ⟨h5, rfl⟩ | ⟨hj, e⟩
  ·rcases key k y e' with ⟨h6, rfl⟩ | ⟨hk, e'⟩
   ·omega
   ·exact h.df i k (b, vs, ty) y hi e' (by omega)
  ·rcases key k y e' with ⟨h6, rfl⟩ | ⟨hk, e'⟩
   ·exact h.df j i x (b, vs, ty) e hi hj
   ·exact h.df j k x y e e' hne
 ·rcases key j x e with ⟨_, rfl⟩ | ⟨hj, e⟩
  ·exact nF k
  ·exact h4 j k x e
theorem Sys.pre {bs' : List (Nat × List Value × TypeId)} (h : Sys w0 w (bs ++ bs') ts) : Sys w0 w bs ts := by
 obtain ⟨F, h1, h2, h3, h4⟩ := h.tm
 have key : ∀ (i : Nat) x, bs[i]? = some x → (bs ++ bs')[i]? = some x := fun i x e => by rw [List.getElem?_append_left (List.getElem?_eq_some_iff.1 e).1]; exact e
 exact ⟨h.ch, h.lt, h.top, fun i x e => h.blk i x (key i x e), fun i x e => h.lo i x (key i x e), fun i j x y e e' => h.df i j x y (key i x e) (key j y e'), F, h1, h2, h3, fun i j x e => h4 i j x (key i x e)⟩
theorem Sys.new (h : Sys w0 w bs ts) (p1 p2 : Int) : Calls Tryz.prog 19 [.int .i64 p1, .int .i64 p2].toArray w fun e w' => ∃ t, e = .returned (.pointer (some ⟨t, 0, none⟩)) ∧ Sys w0 w' bs (ts ++ [(t, qa7 zeroT p1 p2)]) ∧ Ch (fun _ => False) w w' := by
 refine (qgK p1 p2 w h.lt (Nat.le_trans h.top h.ch.size)).mono fun e w' ⟨t, he, hA, hc⟩ => ⟨t, he, ?_, hc⟩
 obtain ⟨F, h1, h2, h3, h4⟩ := h.tm
 have h' := h.same hc
 have hz := hc.size
 have hz0 := h.ch.size
 have ht : TermAt w' t (qa7 zeroT p1 p2) (fun b => w.heap.size ≤ b ∧ b < w'.heap.size) := hA
 refine ⟨h'.ch, h'.lt, h'.top, h'.blk, h'.lo, h'.df, fun i b => if i = ts.length then w.heap.size ≤ b ∧ b < w'.heap.size else i < ts.length ∧ F i b, fun i x e => ?_, fun i j hij b hb hb' => ?_, fun i b hb => ?_, fun i j x e hb => ?_⟩
 ·rcases Nat.lt_or_ge i ts.length with hi | hi
  ·rw [List.getElem?_append_left hi] at e
   refine ⟨?_, (h1 i x e).2⟩
   have e2 : (fun b => if i = ts.length then w.heap.size ≤ b ∧ b < w'.heap.size else i < ts.length ∧ F i b) = F i := by
    funext b; rw [if_neg (by omega)]; exact propext ⟨fun h => h.2, fun h => ⟨hi, h⟩⟩
   show TermAt w' x.1 x.2 (fun b => if i = ts.length then w.heap.size ≤ b ∧ b < w'.heap.size else i < ts.length ∧ F i b)
   rw [e2]
   exact (h1 i x e).1.ch hc (fun _ _ h => h)
  ·rw [List.getElem?_append_right hi] at e
   rcases Nat.eq_zero_or_pos (i - ts.length) with h0 | h0
   ·rw [h0] at e
    obtain rfl := (Option.some.inj e).symm
    obtain rfl : i = ts.length := by omega
    simp only [if_true]
    exact ⟨ht, qfR p1 p2⟩
   ·rw [List.getElem?_eq_none (by simp only [List.length_cons, List.length_nil]; omega)] at e; cases e
 ·dsimp only at hb hb'
  split at hb
  ·split at hb'
   ·omega
   ·have := (h3 j b hb'.2).2; omega
  ·split at hb'
   ·have := (h3 i b hb.2).2; omega
   ·exact h2 i j hij b hb.2 hb'.2
 ·dsimp only at hb
  split at hb
  ·omega
  ·have := h3 i b hb.2; omega
 ·dsimp only at hb
  split at hb
  ·have := (h.blk i x e).lt; omega
  ·exact h4 i j x e hb.2
theorem Sys.step (h : Sys w0 w bs ts) {i t : Nat} {T T' : TS} (hi : ts[i]? = some (t, T)) {k : FuncId} {args : Array Value} {v : Value}
  (hk : ∀ F, TermAt w t T F → LT w → Fine T → Calls Tryz.prog k args w fun e w' => e = .returned v ∧ TermAt w' t T' (more F w w') ∧ Ch F w w') (hf : Fine T → Fine T') :
  Calls Tryz.prog k args w fun e w' => e = .returned v ∧ Sys w0 w' bs (ts.set i (t, T')) := by
 obtain ⟨F, h1, h2, h3, h4⟩ := h.tm
 have hlen : i < ts.length := (List.getElem?_eq_some_iff.1 hi).1
 refine (hk (F i) (h1 i _ hi).1 h.lt (h1 i _ hi).2).mono fun e w' ⟨he, hA, hc⟩ => ⟨he, ?_⟩
 have hz := hc.size
 refine ⟨Ch.trans h.ch hc (fun b hb hb' => ?_), qz hc h.lt (fun b hb => by have := h3 i b hb; have := h.top; omega), h.top, fun j x e => (h.blk j x e).ch hc (h4 j i x e), h.lo, h.df, fun j b => if j = i then more (F i) w w' b else F j b, fun j x e => ?_, fun j k hjk b hb hb' => ?_, fun j b hb => ?_, fun j k x e hb => ?_⟩
 ·have := (h3 i b hb').1; omega
 ·by_cases hj : j = i
  ·subst hj
   rw [List.getElem?_set_self hlen] at e
   obtain rfl := (Option.some.inj e).symm
   simp only [if_true]
   exact ⟨hA, hf (h1 j _ hi).2⟩
  ·rw [List.getElem?_set_ne (fun h => hj h.symm)] at e
   simp only [if_neg hj]
   exact ⟨(h1 j x e).1.ch hc (fun b hb => h2 j i hj b hb), (h1 j x e).2⟩
 ·dsimp only at hb hb'
  split at hb
  ·rename_i hji
   subst hji
   rw [if_neg (fun h => hjk h.symm)] at hb'
   rcases hb with hb | hb
   ·exact h2 j k hjk b hb hb'
   ·have := (h3 k b hb').2; omega
  ·split at hb'
   ·rename_i hji hki
    subst hki
    rcases hb' with hb' | hb'
    ·exact h2 j k hjk b hb hb'
    ·have := (h3 j b hb).2; omega
   ·exact h2 j k hjk b hb hb'
 ·dsimp only at hb
  have hz0 := h.ch.size
  split at hb
  ·rcases hb with hb | hb
   ·have := h3 i b hb; omega
   ·omega
  ·have := h3 j b hb; omega
 ·dsimp only at hb
  split at hb
  ·rcases hb with hb | hb
   ·exact h4 j i x e hb
   ·have := (h.blk j x e).lt; omega
  ·exact h4 j k x e hb
theorem Sys.look (h : Sys w0 w bs ts) {k : FuncId} {args : Array Value} {v : Value} (hk : Calls Tryz.prog k args w fun e w' => e = .returned v ∧ Ch (fun _ => False) w w') : Calls Tryz.prog k args w fun e w' => e = .returned v ∧ Sys w0 w' bs ts :=
 hk.mono fun _ _ ⟨he, hc⟩ => ⟨he, h.same hc⟩
theorem Sys.at (h : Sys w0 w bs ts) {i t : Nat} {T : TS} (hi : ts[i]? = some (t, T)) : ∃ F, TermAt w t T F := by
 obtain ⟨F, h1, _⟩ := h.tm
 exact ⟨_, (h1 i _ hi).1⟩
theorem Sys.fine (h : Sys w0 w bs ts) {i t : Nat} {T : TS} (hi : ts[i]? = some (t, T)) : Fine T := by
 obtain ⟨F, h1, _⟩ := h.tm
 exact (h1 i _ hi).2
theorem Sys.cell (h : Sys w0 w bs ts) {i t : Nat} {T : TS} (hi : ts[i]? = some (t, T)) (c : Nat) {v : Value} (hv : ∀ g o bk ps, (T.vals g o bk ps)[c]? = some v) : w.cell? ⟨t, c, none⟩ = some v := by
 obtain ⟨F, g, o, ba, bn, bc, pa, pn, pc, F1, F2, FB, FP, hI⟩ := h.at hi
 exact (hI.blk.cell c).trans (hv _ _ _ _)
theorem Sys.grid (h : Sys w0 w bs ts) {i t : Nat} {T : TS} (hi : ts[i]? = some (t, T)) : ∃ g F, w.cell? ⟨t, 0, none⟩ = some (.pointer (some ⟨g, 0, none⟩)) ∧ GridAt w g T.grid F := by
 obtain ⟨F, g, o, ba, bn, bc, pa, pn, pc, F1, F2, FB, FP, hI⟩ := h.at hi
 exact ⟨g, F1, (hI.blk.cell 0).trans rfl, hI.g1⟩
theorem Sys.other (h : Sys w0 w bs ts) {i t : Nat} {T : TS} (hi : ts[i]? = some (t, T)) : ∃ g F, w.cell? ⟨t, 1, none⟩ = some (.pointer (some ⟨g, 0, none⟩)) ∧ GridAt w g T.other F := by
 obtain ⟨F, g, o, ba, bn, bc, pa, pn, pc, F1, F2, FB, FP, hI⟩ := h.at hi
 exact ⟨o, F2, (hI.blk.cell 1).trans rfl, hI.g2⟩
theorem Sys.outs (h : Sys w0 w bs ts) {i t : Nat} {T : TS} (hi : ts[i]? = some (t, T)) : ∃ ba bn bc rows FB, w.cell? ⟨t, 97, none⟩ = some (.slice ba bn bc) ∧ bn = T.back.length ∧ LinesAt w ba bn rows FB ∧ rows.map Row.l = T.back ∧ (ba = none ∨ ∃ b off, ba = some ⟨b, off, none⟩) := by
 obtain ⟨F, g, o, ba, bn, bc, pa, pn, pc, F1, F2, FB, FP, hI⟩ := h.at hi
 obtain ⟨rows, hL, hm⟩ := hI.bk
 exact ⟨ba, bn, bc, rows, FB, (hI.blk.cell 97).trans (by kernel_rfl), by rw [← hm, List.length_map, hL.len], hL, hm, hI.bz⟩
theorem Fine.back {T : TS} (h : Fine T) : T.back.length ≤ 1000 := by obtain ⟨⟨W, H, h⟩, _⟩ := h; exact Nat.le_trans h.bk (by decide)
theorem Fine.params {T : TS} (h : Fine T) : T.parser.params.length ≤ 1000 := Nat.le_trans h.2.n (by decide)
end
end Go.Proofs.YtclnfbmmaofpjaaGreatDoor.X

namespace Go.Proofs.YtclnfbmmaofpjaaGreatDoor.X
open Go Go.RowKit Go.Proofs.YtclnfbmmaofpjaaGreatDoor
def PS.gr (p : PS) : Prop := p.state = 0 → p = { atP 0 with utf := p.utf }
end Go.Proofs.YtclnfbmmaofpjaaGreatDoor.X

namespace Go.Proofs.YtclnfbmmaofpjaaGreatDoor.X
open Go Go.RowKit Go.Proofs.YtclnfbmmaofpjaaGreatDoor
structure Kp (T U : TS) : Prop where
 alt : U.alt = true
 other : U.other = T.other
 away : U.away = T.away
 saved : U.saved = T.saved
 top : U.top = T.top
 bot : U.bot = T.bot
 title : U.title = T.title
 back : U.back = T.back
theorem Kp.refl {T : TS} (h : T.alt = true) : Kp T T := ⟨h, rfl, rfl, rfl, rfl, rfl, rfl, rfl⟩
theorem Kp.trans {T U V : TS} (h : Kp T U) (k : Kp U V) : Kp T V := ⟨k.alt, k.other.trans h.other, k.away.trans h.away, k.saved.trans h.saved, k.top.trans h.top, k.bot.trans h.bot, k.title.trans h.title, k.back.trans h.back⟩
section
variable {w w' : World} {t g o : Nat} {ba : Option Addr} {bn bc : Nat} {pa : Option Addr} {pn pc : Nat} {T : TS} {F F1 F2 FB FP : Nat → Prop}
theorem TermIn.grid2 (h : TermIn w t g o ba bn bc pa pn pc T F F1 F2 FB FP) (hc : Ch F2 w w') {G' : Gr} {F2' : Nat → Prop} (hG : GridAt w' o G' F2') (hF : ∀ b, F2' b → more F2 w w' b) :
  TermIn w' t g o ba bn bc pa pn pc ({ T with other := G' } : TS) (more F w w') F1 F2' FB FP := by
 have hlt1 : ∀ b, F1 b → b < w.heap.size := h.g1.lt
 have hltF : ∀ b, F b → b < w.heap.size := h.lt
 have htl := h.blk.lt
 obtain ⟨rows, hL, hl⟩ := h.bk
 have ap : ∀ (X : Nat → Prop), (∀ b, X b → F b) → (∀ b, F2 b → ¬ X b) → ∀ b, F2' b → ¬ X b := fun X hX ha b hb hx => by
  rcases hF b hb with h1 | h1
  ·exact ha b h1 hx
  ·have := hltF b (hX b hx); omega
 exact
 {blk := h.blk.ch hc h.t2
  g1 := h.g1.ch hc fun b h1 h2 => h.a12 b h1 h2
  g2 := hG
  bk := ⟨rows, hL.ch hc fun b hb h1 => h.a2B b h1 hb, hl⟩
  bcap := h.bcap
  ps := ⟨h.ps.1.ch hc fun ad e h1 => h.a2P _ h1 (h.ps.2.2.2 ad e), h.ps.2⟩
  pz := h.pz
  bz := h.bz
  t1 := h.t1
  t2 := fun hb => by
   rcases hF t hb with h1 | h1
   ·exact h.t2 h1
   ·omega
  tB := h.tB, tP := h.tP
  a12 := fun b h1 h2 => ap F1 h.inF.2.1 (fun b h2 h1 => h.a12 b h1 h2) b h2 h1
  a1B := h.a1B
  a2B := ap FB h.inF.2.2.2.1 h.a2B
  a1P := h.a1P
  a2P := ap FP h.inF.2.2.2.2 h.a2P
  inF := ⟨.inl h.inF.1, fun b hb => .inl (h.inF.2.1 b hb), fun b hb => (hF b hb).elim (fun h1 => .inl (h.inF.2.2.1 b h1)) .inr, fun b hb => .inl (h.inF.2.2.2.1 b hb), fun b hb => .inl (h.inF.2.2.2.2 b hb)⟩
  lt := fun b hb => hb.elim (fun hb => Nat.lt_of_lt_of_le (hltF b hb) hc.size) fun hb => hb.2
  hi := fun b hb => hb.elim (h.hi b) fun hb => by have := h.hi t h.inF.1; omega }
theorem TermIn.chF2 (h : TermIn w t g o ba bn bc pa pn pc T F F1 F2 FB FP) (hc : Ch F2 w w') : Ch F w w' := hc.mono fun b _ hb => h.inF.2.2.1 b hb
end
def qhM (p : Int) : Int := min (max p 1) 60
def upI (T : TS) (p2 : Int) : Int := max (T.cursor.y - qhM p2 + 1) 0
def fixC (c : Cur) (w h : Int) : Cur := ⟨min c.x (w - 1), min c.y (h - 1), c.late && ((c.x : Int) == w - 1), c.sty⟩
def rs1 (T : TS) (p1 p2 : Int) : TS :=
 if T.alt = true then { T with grid := qd7 T.grid p1 (qhM p2) (upI T p2) }
 else { T with grid := qd7 T.grid p1 (qhM p2) (upI T p2), back := qfp T.back (T.grid.lines.take (qeu T.grid (upI T p2)).toNat) }
def rs2 (T : TS) (p1 p2 : Int) : TS := { rs1 T p1 p2 with other := qd7 (rs1 T p1 p2).other p1 (qhM p2) 0 }
def qdZ (T : TS) (p1 p2 : Int) : TS :=
 {rs2 T p1 p2 with
  top := 0, bot := (rs2 T p1 p2).grid.h
  cursor := fixC ⟨(rs2 T p1 p2).cursor.x, (rs2 T p1 p2).cursor.y - upI T p2, (rs2 T p1 p2).cursor.late, (rs2 T p1 p2).cursor.sty⟩ (rs2 T p1 p2).grid.w (rs2 T p1 p2).grid.h
  saved := fixC (rs2 T p1 p2).saved (rs2 T p1 p2).grid.w (rs2 T p1 p2).grid.h
  away := fixC (rs2 T p1 p2).away (rs2 T p1 p2).grid.w (rs2 T p1 p2).grid.h }
theorem rs1_f (T : TS) (p1 p2 : Int) : (rs1 T p1 p2).cursor = T.cursor ∧ (rs1 T p1 p2).saved = T.saved ∧ (rs1 T p1 p2).away = T.away ∧ (rs1 T p1 p2).other = T.other ∧ (rs1 T p1 p2).reply = T.reply ∧ (rs1 T p1 p2).parser = T.parser ∧ (rs1 T p1 p2).alt = T.alt ∧
  (rs1 T p1 p2).grid.w = qj p1 ∧ (rs1 T p1 p2).grid.h = qj (qhM p2) := by
 unfold rs1
 split <;> exact ⟨rfl, rfl, rfl, rfl, rfl, rfl, rfl, rfl, rfl⟩
theorem qiC (p : Int) : 1 ≤ qhM p ∧ qhM p ≤ 60 ∧ qj (qhM p) = qhM p ∧ qj p = qhM p := by unfold qhM qj; omega
theorem rs2_f (T : TS) (p1 p2 : Int) : (rs2 T p1 p2).cursor = T.cursor ∧ (rs2 T p1 p2).saved = T.saved ∧ (rs2 T p1 p2).away = T.away ∧ (rs2 T p1 p2).grid.w = qj p1 ∧ (rs2 T p1 p2).grid.h = qhM p2 ∧ (rs2 T p1 p2).reply = T.reply ∧ (rs2 T p1 p2).parser = T.parser := by
 obtain ⟨h1, h2, h3, h4, h5, h6, h7, h8, h9⟩ := rs1_f T p1 p2
 have hb := qiC p2
 exact ⟨h1, h2, h3, h8, by show (rs1 T p1 p2).grid.h = _; omega, h5, h6⟩
theorem rs1_back {W H : Int} {T : TS} (h : Lim W H T) (p1 p2 : Int) : (rs1 T p1 p2).back.length ≤ 20 := by
 unfold rs1
 split
 ·exact h.bk
 ·exact qhw _ _
theorem qfS {W H : Int} {T : TS} (h : Lim W H T) (p1 p2 : Int) : Lim (qj p1) (qj p2) (qdZ T p1 p2) := by
 obtain ⟨e1, e2, e3, e4, e5, e6, e7⟩ := rs2_f T p1 p2
 have hb := qiC p2
 have hs1 : 1 ≤ qj p1 ∧ qj p1 ≤ 60 := by unfold qj; omega
 obtain ⟨⟨c1, c2⟩, c3, c4⟩ := h.cu
 obtain ⟨⟨s1, s2⟩, s3, s4⟩ := h.sa
 obtain ⟨⟨a1, a2⟩, a3, a4⟩ := h.aw
 refine ⟨hs1, by omega, ⟨e4, by show (rs2 T p1 p2).grid.h = _; omega⟩, ⟨rfl, by show qj (qhM p2) = _; omega⟩, ?_, ?_, ?_, ?_, rs1_back h p1 p2, by show (rs2 T p1 p2).reply.size ≤ 400; rw [e6]; exact h.rp⟩
 ·show (0 ≤ min (rs2 T p1 p2).cursor.x ((rs2 T p1 p2).grid.w - 1) ∧ min (rs2 T p1 p2).cursor.x ((rs2 T p1 p2).grid.w - 1) < _) ∧ 0 ≤ min ((rs2 T p1 p2).cursor.y - upI T p2) ((rs2 T p1 p2).grid.h - 1) ∧ min ((rs2 T p1 p2).cursor.y - upI T p2) ((rs2 T p1 p2).grid.h - 1) < _
  rw [e1, e4, e5]; unfold upI; omega
 ·show (0 ≤ min (rs2 T p1 p2).saved.x ((rs2 T p1 p2).grid.w - 1) ∧ min (rs2 T p1 p2).saved.x ((rs2 T p1 p2).grid.w - 1) < _) ∧ 0 ≤ min (rs2 T p1 p2).saved.y ((rs2 T p1 p2).grid.h - 1) ∧ min (rs2 T p1 p2).saved.y ((rs2 T p1 p2).grid.h - 1) < _
  rw [e2, e4, e5]; omega
 ·show (0 ≤ min (rs2 T p1 p2).away.x ((rs2 T p1 p2).grid.w - 1) ∧ min (rs2 T p1 p2).away.x ((rs2 T p1 p2).grid.w - 1) < _) ∧ 0 ≤ min (rs2 T p1 p2).away.y ((rs2 T p1 p2).grid.h - 1) ∧ min (rs2 T p1 p2).away.y ((rs2 T p1 p2).grid.h - 1) < _
  rw [e3, e4, e5]; omega
 ·show 0 ≤ (0 : Int) ∧ (0 : Int) < (rs2 T p1 p2).grid.h ∧ (rs2 T p1 p2).grid.h ≤ _
  rw [e5]; omega
theorem qdD (T : TS) (p1 p2 : Int) : (qdZ T p1 p2).parser = T.parser := (rs2_f T p1 p2).2.2.2.2.2.2
set_option maxHeartbeats 4000000 in
theorem qhN {w : World} {t : Nat} {W H : Int} {T : TS} {F : Nat → Prop} (hA0 : TermAt w t T F) (hT : LT w) (hL : Lim W H T) (p1 p2 : Int) : Calls Tryz.prog 44 [pX t, iX p1, iX p2].toArray w fun e w' => e = .returned (.tuple #[]) ∧ TermAt w' t (qdZ T p1 p2) (more F w w') ∧ Ch F w w' := by
 obtain ⟨g, o, ba, bn, bc, pa, pn, pc, F1, F2, FB, FP, hI⟩ := hA0; have hA0 : TermAt w t T F := ⟨g, o, ba, bn, bc, pa, pn, pc, F1, F2, FB, FP, hI⟩
 have aW := hI.inF.1; obtain ⟨gv, cu⟩ := hI.g1.head; have cv : Df t g := fun e => hI.t1 (e ▸ hI.g1.inF); obtain ⟨⟨cw, cx⟩, ⟨cy, cz⟩, cA, cB⟩ := hI.g1.ok; have aX := hL; have cC := aX.all; refine yA Tryz.func44 rfl <| yx 4 <| ysr <| yp 10 [] (.l (hI.blk.c 3) (.q6 (T.cursor.y - (min ((max (p2 : Int) 1) : Int) 60)) (.q6 ((T.cursor.y - (min ((max (p2 : Int) 1) : Int) 60)) + 1) .z))) <| ye <| ysr <| yp 7 [] (.l (hI.blk.c 0) .z) <| yo (yC (qfC g T.grid F1 p1 (qhM p2) (upI T p2) _ hT.tb hI.g1) ?_); rintro _ X ⟨ro, n1, cD, aY, K1, rfl, ag, ah, hG, hF, hK, b0, hc⟩; refine ⟨_, rfl, ?_⟩; have E := hI.grid1 hc hG hF; have C := hI.chF hc; have b1 := qz C hT (fun b hb => hI.hi b hb); have b2 : ∀ b, K1 b → more F w X b ∧ ¬ aY b ∧ ¬ F2 b ∧ b ≠ t := fun b hb => by
  have f := hK b hb; refine ⟨f.elim (fun h => .inl (hI.inF.2.1 b h)) .inr, fun h => b0 b h hb, fun h => ?_, fun h => ?_⟩
  ·rcases f with f | f
   ·exact hI.a12 b f h
   have := hI.g2.lt b h; omega
  rcases f with f | f
  ·exact hI.t1 (h ▸ f)
  have := hI.blk.lt; omega
 have b3 : n1 ≤ 1000 := by
  have h1 := ag.len; have f := congrArg List.length ah; rw [List.length_map, List.length_take] at f; omega
 refine yz 9 <| qaZ ([(0, pX t), (1, iX p1), (2, iX (qhM p2)), (6, iX (upI T p2))]) (fun u => TermAt u t (rs1 T p1 p2) (more F w u) ∧ Ch F w u ∧ LT u) (fun cE aj => ?_) (fun u13 b4 => ?_)
 ·refine ysr <| yp 5 [] (.l (E.blk.c 95) .z) <| ye <| yc (rN (rY T.alt)) (fun Y => ?_) fun Y => ?_
  ·refine q7 <| yq 2 <| yo (yC (qjk (lc := n1) E ag (fun e => by cases e) b2 (by have := hI.bk; obtain ⟨rr, h1, f⟩ := this; have h3 := h1.len; have h4 : rr.length = T.back.length := (by have h5 := congrArg List.length f; rw [List.length_map] at h5; exact h5); omega) b3) ?_); rintro _ al ⟨cH, cI, cJ, rfl, b5, O⟩; refine ⟨_, rfl, ?_⟩; refine yE (fun a ha => aj _ ⟨TermAt.eq' (show TermAt al t _ (more F w al) from ⟨_, _, _, _, _, _, _, _, _, _, _, _, b5.mono (qbC C.size O.size) (hI.moreOk (Nat.le_trans C.size O.size))⟩) (by unfold rs1; rw [if_neg (by rw [Y]; decide), ← ah]), Ch.more C (E.cht O), qz (Ch.more C (E.cht O)) hT (fun b hb => hI.hi b hb)⟩ a (ha.kp [0, 1, 2, 6]))
  refine qp (fun a ha => aj _ ⟨TermAt.eq' (show TermAt X t _ (more F w X) from ⟨_, _, _, _, _, _, _, _, _, _, _, _, E⟩) (by unfold rs1; rw [if_pos Y]), C, b1⟩ a (ha.kp [0, 1, 2, 6]))
 obtain ⟨⟨j, k, n, p, q, r, s, v, b6, b7, b8, b9, P⟩, am, bb⟩ := b4; refine ysr <| yp 6 [] (.l (P.blk.c 1) .z) <| yo (yC (qfC k (rs1 T p1 p2).other b7 p1 (qhM p2) 0 _ bb.tb P.g2) ?_); rintro _ B ⟨cK, n6, cM, bd, K6, rfl, cO, cP, bf, bg, cQ, cR, an⟩; refine ⟨_, rfl, ?_⟩; have D : TermIn B t j k n p q r s v (rs2 T p1 p2) (more (more F w u13) u13 B) b6 bd b8 b9 := P.grid2 an bf bg; have ao := P.chF2 an; have bh := Ch.more am ao; obtain ⟨d1, d2, d3, d4, d5, d6, d7⟩ := rs2_f T p1 p2; have cW : (rs2 T p1 p2).cursor.x = T.cursor.x := by rw [d1]
 have cX : (rs2 T p1 p2).cursor.y = T.cursor.y := by rw [d1]
 have cY : (rs2 T p1 p2).saved.x = T.saved.x := by rw [d2]
 have cZ : (rs2 T p1 p2).saved.y = T.saved.y := by rw [d2]
 have d0 : (rs2 T p1 p2).away.x = T.away.x := by rw [d3]
 have d8 : (rs2 T p1 p2).away.y = T.away.y := by rw [d3]
 have d9 := qiC p2; have da : 1 ≤ qj p1 ∧ qj p1 ≤ 60 := by unfold qj; omega
 have db : 0 ≤ upI T p2 ∧ upI T p2 ≤ 60 := by unfold upI; omega
 obtain ⟨dc, G⟩ := D.g1.head; have A : Df t j := fun e => D.t1 (e ▸ D.g1.inF); refine ye <| ysr <| yp 11 [] (.l (D.blk.c 0) (.l (G.c 1) .z)) <| yo (yS D.blk fun dd bi au => ?_); have bj := zt (Ch.refl (· = t) B) au (fun i hi (h : i = t) => h); have bl := G.ch au (fun h => A h.symm); refine yq 14 <| yo (yS bi fun de av aw => ?_); have bm := zt bj aw (fun i hi (h : i = t) => h); have bo := bl.ch aw (fun h => A h.symm); refine ye <| ysr <| yp 10 [] (.l (av.c 3) (.q6 ((rs2 T p1 p2).cursor.y - (upI T p2)) .z)) <| yo (yS av fun df bp ax => ?_); have bq := zt bm ax (fun i hi (h : i = t) => h); have br := bo.ch ax (fun h => A h.symm); refine ye <| ys <| yD [9] fun dg dh Z => ?_; have ay := zt bq Z eZ; have bs := br.ch Z id; have m := bp.ch Z id; refine yd [0, 1, 2, 3, 4, 5, 6, 7, 8, 11] [] .z <| yK 9 (yB [.pointer (some ⟨t, 2, none⟩), .pointer (some ⟨t, 10, none⟩), .pointer (some ⟨t, 18, none⟩)] 79 3 fun di d bt dj az a0 => ?_); have dk : B.heap.size ≤ d := by rw [bt]; exact zs ay
 have bu := zt ay a0 eZ; have bv := bs.ch a0 id; have bw := m.ch a0 id; refine q9 <| yd [10] [] .z <| yDe (nS ?_); refine q8 <| yU 4 (yU1 ?_); refine yx 1 <| ys <| yct <| yk <| ys <| q8 <| ysr <| yp 3 [] (.i 0 (3) (.l (az.c 0) .z)) <| ye <| qaZ ([(0, pX t), (9, .pointer (some ⟨t, 2, none⟩)), (77, .slice (some ⟨d, 0, none⟩) 3 3), (78, iX 3), (79, iX 0)]) (fun u => Blk u t (TS.vals ({ (rs2 T p1 p2) with cursor := (Cur.mk (rs2 T p1 p2).cursor.x ((rs2 T p1 p2).cursor.y - (upI T p2)) ((rs2 T p1 p2).cursor.late && (((rs2 T p1 p2).cursor.x : Int) == (rs2 T p1 p2).grid.w - 1)) (rs2 T p1 p2).cursor.sty), top := 0, bot := (rs2 T p1 p2).grid.h } : TS) j k (.slice n p q) (.slice r s v)) qV ∧ Ch (· = t) B u ∧ Blk u d [.pointer (some ⟨t, 2, none⟩), .pointer (some ⟨t, 10, none⟩), .pointer (some ⟨t, 18, none⟩)] 79) (fun dl aA => ?_) (fun u54 bx => ?_)
 ·refine yD [22] fun dm dn Q => ?_; have aB := zt bu Q eZ; have bz := bv.ch Q id; have I := bw.ch Q id; have aC := az.ch Q id; refine yd (uL 0 6) [] (.l (I.c 4) .z) <| yv [88] (rY (rs2 T p1 p2).cursor.late) (fun a1 => ?_) fun a1 => ?_
  ·refine yd (uL 6 16) [] (.l (I.c 2) (.l (I.c 0) (.l (bz.c 0) (.q6 ((rs2 T p1 p2).grid.w - 1) .z)))) <| yK 22 (yS I fun dp bA aD => ?_); have bB := zt aB aD (fun i hi (h : i = t) => h); have bC := aC.ch aD (fun (h : d = t) => by have := m.lt; omega); refine q9 <| yDe (fun a ha => aA _ ⟨Blk.to (Blk.to (cs' := (TS.vals ({ (rs2 T p1 p2) with cursor := (Cur.mk (rs2 T p1 p2).cursor.x ((rs2 T p1 p2).cursor.y - (upI T p2)) (((rs2 T p1 p2).cursor.x : Int) == ((rs2 T p1 p2).grid.w - 1)) (rs2 T p1 p2).cursor.sty), top := 0, bot := (rs2 T p1 p2).grid.h } : TS) j k (.slice n p q) (.slice r s v))) bA (by kernel_rfl)) (by simp only [a1, Bool.true_and, Bool.false_and]), bB, bC⟩ a (ha.kp [0, 9, 77, 78, 79]))
  refine yd (uL 6 16) [] .z <| yK 22 (yS I fun dq bD aE => ?_); have bE := zt aB aE (fun i hi (h : i = t) => h); have bF := aC.ch aE (fun (h : d = t) => by have := m.lt; omega); refine q9 <| yDe (fun a ha => aA _ ⟨Blk.to (Blk.to (cs' := (TS.vals ({ (rs2 T p1 p2) with cursor := (Cur.mk (rs2 T p1 p2).cursor.x ((rs2 T p1 p2).cursor.y - (upI T p2)) false (rs2 T p1 p2).cursor.sty), top := 0, bot := (rs2 T p1 p2).grid.h } : TS) j k (.slice n p q) (.slice r s v))) bD (by kernel_rfl)) (by simp only [a1, Bool.true_and, Bool.false_and]), bE, bF⟩ a (ha.kp [0, 9, 77, 78, 79]))
 obtain ⟨bG, aF, bH⟩ := bx; have bI := G.ch aF (fun h => A h.symm); refine yD [30, 33] fun dr ds R => ?_; have bJ := zt aF R eZ; have a2 := bI.ch R id; have J := bG.ch R id; have bK := bH.ch R id; refine yd (uL 0 26) [] (.l (J.c 2) (.l (J.c 0) (.l (a2.c 0) (.q6 ((rs2 T p1 p2).grid.w - 1) (.l (J.c 3) (.l (J.c 0) (.l (a2.c 1) .z))))))) <| ydT (uL 26 4) [] rfl (fun _ => (.q6 ((rs2 T p1 p2).grid.h - 1) .z)) <| yK 30 (yS J fun dt bL a3 => ?_); have bM := zt bJ a3 (fun i hi (h : i = t) => h); have bN := a2.ch a3 (fun h => A h.symm); have bO := bK.ch a3 (fun (h : d = t) => by have := m.lt; omega); refine q9 <| yd [31, 32] [] .z <| yK 33 (yS bL fun du bP a4 => ?_); have bQ := zt bM a4 (fun i hi (h : i = t) => h); have bR := bN.ch a4 (fun h => A h.symm); have aG := bO.ch a4 (fun (h : d = t) => by have := m.lt; omega); refine q9 <| yDe (nB (nS ?_)); refine q7 <| yp 2 [] (.q6 1 .z) <| yE (nU (yU1 ?_)); refine yx 1 <| ys <| yct <| yk <| ys <| q8 <| ysr <| yp 3 [] (.i 1 (3) (.l (aG.c 1) .z)) <| ye <| qaZ ([(0, pX t), (9, .pointer (some ⟨t, 10, none⟩)), (77, .slice (some ⟨d, 0, none⟩) 3 3), (78, iX 3), (79, iX 1)]) (fun u => Blk u t (TS.vals ({ (rs2 T p1 p2) with cursor := (Cur.mk (min ((rs2 T p1 p2).cursor.x : Int) ((rs2 T p1 p2).grid.w - 1)) (min (((rs2 T p1 p2).cursor.y - (upI T p2)) : Int) ((rs2 T p1 p2).grid.h - 1)) ((rs2 T p1 p2).cursor.late && (((rs2 T p1 p2).cursor.x : Int) == (rs2 T p1 p2).grid.w - 1)) (rs2 T p1 p2).cursor.sty), saved := (Cur.mk (rs2 T p1 p2).saved.x (rs2 T p1 p2).saved.y ((rs2 T p1 p2).saved.late && (((rs2 T p1 p2).saved.x : Int) == (rs2 T p1 p2).grid.w - 1)) (rs2 T p1 p2).saved.sty), top := 0, bot := (rs2 T p1 p2).grid.h } : TS) j k (.slice n p q) (.slice r s v)) qV ∧ Ch (· = t) B u ∧ Blk u d [.pointer (some ⟨t, 2, none⟩), .pointer (some ⟨t, 10, none⟩), .pointer (some ⟨t, 18, none⟩)] 79) (fun dv aH => ?_) (fun u105 bS => ?_)
 ·refine yD [22] fun dw dx S => ?_; have aI := zt bQ S eZ; have bT := bR.ch S id; have aJ := aG.ch S id; have K := bP.ch S id; refine yd (uL 0 6) [] (.l (K.c 12) .z) <| yv [88] (rY (rs2 T p1 p2).saved.late) (fun a5 => ?_) fun a5 => ?_
  ·refine yd (uL 6 16) [] (.l (K.c 10) (.l (K.c 0) (.l (bT.c 0) (.q6 ((rs2 T p1 p2).grid.w - 1) .z)))) <| qfl [0, 9, 77, 78, 79, 102, 104] (f' := [(0, pX t), (9, .pointer (some ⟨t, 10, none⟩)), (77, .slice (some ⟨d, 0, none⟩) 3 3), (78, iX 3), (79, iX 1), (102, .bool (((rs2 T p1 p2).saved.x : Int) == ((rs2 T p1 p2).grid.w - 1))), (104, .pointer (some ⟨t, 12, none⟩))]) <| yK 22 (yS K fun dy bU aK => ?_); have bV := zt aI aK (fun i hi (h : i = t) => h); have bW := aJ.ch aK (fun (h : d = t) => by have := m.lt; omega); refine q9 <| yDe (fun a ha => aH _ ⟨Blk.to (Blk.to (cs' := (TS.vals ({ (rs2 T p1 p2) with cursor := (Cur.mk (min ((rs2 T p1 p2).cursor.x : Int) ((rs2 T p1 p2).grid.w - 1)) (min (((rs2 T p1 p2).cursor.y - (upI T p2)) : Int) ((rs2 T p1 p2).grid.h - 1)) ((rs2 T p1 p2).cursor.late && (((rs2 T p1 p2).cursor.x : Int) == (rs2 T p1 p2).grid.w - 1)) (rs2 T p1 p2).cursor.sty), saved := (Cur.mk (rs2 T p1 p2).saved.x (rs2 T p1 p2).saved.y (((rs2 T p1 p2).saved.x : Int) == ((rs2 T p1 p2).grid.w - 1)) (rs2 T p1 p2).saved.sty), top := 0, bot := (rs2 T p1 p2).grid.h } : TS) j k (.slice n p q) (.slice r s v))) bU (by kernel_rfl)) (by simp only [a5, Bool.true_and, Bool.false_and]), bV, bW⟩ a (ha.kp [0, 9, 77, 78, 79]))
  refine yd (uL 6 16) [] .z <| qfl [0, 9, 77, 78, 79, 102, 104] (f' := [(0, pX t), (9, .pointer (some ⟨t, 10, none⟩)), (77, .slice (some ⟨d, 0, none⟩) 3 3), (78, iX 3), (79, iX 1), (102, .bool false), (104, .pointer (some ⟨t, 12, none⟩))]) <| yK 22 (yS K fun dz bX aL => ?_); have bY := zt aI aL (fun i hi (h : i = t) => h); have bZ := aJ.ch aL (fun (h : d = t) => by have := m.lt; omega); refine q9 <| yDe (fun a ha => aH _ ⟨Blk.to (Blk.to (cs' := (TS.vals ({ (rs2 T p1 p2) with cursor := (Cur.mk (min ((rs2 T p1 p2).cursor.x : Int) ((rs2 T p1 p2).grid.w - 1)) (min (((rs2 T p1 p2).cursor.y - (upI T p2)) : Int) ((rs2 T p1 p2).grid.h - 1)) ((rs2 T p1 p2).cursor.late && (((rs2 T p1 p2).cursor.x : Int) == (rs2 T p1 p2).grid.w - 1)) (rs2 T p1 p2).cursor.sty), saved := (Cur.mk (rs2 T p1 p2).saved.x (rs2 T p1 p2).saved.y false (rs2 T p1 p2).saved.sty), top := 0, bot := (rs2 T p1 p2).grid.h } : TS) j k (.slice n p q) (.slice r s v))) bX (by kernel_rfl)) (by simp only [a5, Bool.true_and, Bool.false_and]), bY, bZ⟩ a (ha.kp [0, 9, 77, 78, 79]))
 obtain ⟨c0, aM, c1⟩ := bS; have c2 := G.ch aM (fun h => A h.symm); refine yD [30, 33] fun dA dB U => ?_; have c3 := zt aM U eZ; have a6 := c2.ch U id; have c4 := c1.ch U id; have L := c0.ch U id; refine yd (uL 0 26) [] (.l (L.c 10) (.l (L.c 0) (.l (a6.c 0) (.q6 ((rs2 T p1 p2).grid.w - 1) (.l (L.c 11) (.l (L.c 0) (.l (a6.c 1) .z))))))) <| qfl [0, 77, 78, 79, 105, 106, 119, 123, 130] (f' := [(0, pX t), (77, .slice (some ⟨d, 0, none⟩) 3 3), (78, iX 3), (79, iX 1), (105, .pointer (some ⟨t, 10, none⟩)), (106, .pointer (some ⟨t, 10, none⟩)), (119, iX (min ((rs2 T p1 p2).saved.x : Int) ((rs2 T p1 p2).grid.w - 1))), (123, iX (rs2 T p1 p2).saved.y), (130, iX (rs2 T p1 p2).grid.h)]) <| ydT (uL 26 4) [] rfl (fun _ => (.q6 ((rs2 T p1 p2).grid.h - 1) .z)) <| yK 30 (yS L fun dC c5 a7 => ?_); have c6 := zt c3 a7 (fun i hi (h : i = t) => h); have c7 := a6.ch a7 (fun h => A h.symm); have c8 := c4.ch a7 (fun (h : d = t) => by have := m.lt; omega); refine q9 <| yd [31, 32] [] .z <| yK 33 (yS c5 fun dD c9 a8 => ?_); have ca := zt c6 a8 (fun i hi (h : i = t) => h); have cb := c7.ch a8 (fun h => A h.symm); have aN := c8.ch a8 (fun (h : d = t) => by have := m.lt; omega); refine q9 <| yDe (nB (nS ?_)); refine q7 <| yp 2 [] (.q6 2 .z) <| yE (nU (yU1 ?_)); refine yx 1 <| ys <| yct <| yk <| ys <| q8 <| ysr <| yp 3 [] (.i 2 (3) (.l (aN.c 2) .z)) <| ye <| qaZ ([(0, pX t), (9, .pointer (some ⟨t, 18, none⟩)), (77, .slice (some ⟨d, 0, none⟩) 3 3), (78, iX 3), (79, iX 2)]) (fun u => Blk u t (TS.vals ({ (rs2 T p1 p2) with cursor := (Cur.mk (min ((rs2 T p1 p2).cursor.x : Int) ((rs2 T p1 p2).grid.w - 1)) (min (((rs2 T p1 p2).cursor.y - (upI T p2)) : Int) ((rs2 T p1 p2).grid.h - 1)) ((rs2 T p1 p2).cursor.late && (((rs2 T p1 p2).cursor.x : Int) == (rs2 T p1 p2).grid.w - 1)) (rs2 T p1 p2).cursor.sty), saved := (Cur.mk (min ((rs2 T p1 p2).saved.x : Int) ((rs2 T p1 p2).grid.w - 1)) (min ((rs2 T p1 p2).saved.y : Int) ((rs2 T p1 p2).grid.h - 1)) ((rs2 T p1 p2).saved.late && (((rs2 T p1 p2).saved.x : Int) == (rs2 T p1 p2).grid.w - 1)) (rs2 T p1 p2).saved.sty), away := (Cur.mk (rs2 T p1 p2).away.x (rs2 T p1 p2).away.y ((rs2 T p1 p2).away.late && (((rs2 T p1 p2).away.x : Int) == (rs2 T p1 p2).grid.w - 1)) (rs2 T p1 p2).away.sty), top := 0, bot := (rs2 T p1 p2).grid.h } : TS) j k (.slice n p q) (.slice r s v)) qV ∧ Ch (· = t) B u ∧ Blk u d [.pointer (some ⟨t, 2, none⟩), .pointer (some ⟨t, 10, none⟩), .pointer (some ⟨t, 18, none⟩)] 79) (fun dE aO => ?_) (fun u156 cc => ?_)
 ·refine yD [22] fun dF dG V => ?_; have aP := zt ca V eZ; have cd := cb.ch V id; have aQ := aN.ch V id; have M := c9.ch V id; refine yd (uL 0 6) [] (.l (M.c 20) .z) <| yv [88] (rY (rs2 T p1 p2).away.late) (fun a9 => ?_) fun a9 => ?_
  ·refine yd (uL 6 16) [] (.l (M.c 18) (.l (M.c 0) (.l (cd.c 0) (.q6 ((rs2 T p1 p2).grid.w - 1) .z)))) <| yK 22 (yS M fun dH ce aR => ?_); have cf := zt aP aR (fun i hi (h : i = t) => h); have cg := aQ.ch aR (fun (h : d = t) => by have := m.lt; omega); refine q9 <| yDe (fun a ha => aO _ ⟨Blk.to (Blk.to (cs' := (TS.vals ({ (rs2 T p1 p2) with cursor := (Cur.mk (min ((rs2 T p1 p2).cursor.x : Int) ((rs2 T p1 p2).grid.w - 1)) (min (((rs2 T p1 p2).cursor.y - (upI T p2)) : Int) ((rs2 T p1 p2).grid.h - 1)) ((rs2 T p1 p2).cursor.late && (((rs2 T p1 p2).cursor.x : Int) == (rs2 T p1 p2).grid.w - 1)) (rs2 T p1 p2).cursor.sty), saved := (Cur.mk (min ((rs2 T p1 p2).saved.x : Int) ((rs2 T p1 p2).grid.w - 1)) (min ((rs2 T p1 p2).saved.y : Int) ((rs2 T p1 p2).grid.h - 1)) ((rs2 T p1 p2).saved.late && (((rs2 T p1 p2).saved.x : Int) == (rs2 T p1 p2).grid.w - 1)) (rs2 T p1 p2).saved.sty), away := (Cur.mk (rs2 T p1 p2).away.x (rs2 T p1 p2).away.y (((rs2 T p1 p2).away.x : Int) == ((rs2 T p1 p2).grid.w - 1)) (rs2 T p1 p2).away.sty), top := 0, bot := (rs2 T p1 p2).grid.h } : TS) j k (.slice n p q) (.slice r s v))) ce (by kernel_rfl)) (by simp only [a9, Bool.true_and, Bool.false_and]), cf, cg⟩ a (ha.kp [0, 9, 77, 78, 79]))
  refine yd (uL 6 16) [] .z <| yK 22 (yS M fun dI ci aS => ?_); have cj := zt aP aS (fun i hi (h : i = t) => h); have ck := aQ.ch aS (fun (h : d = t) => by have := m.lt; omega); refine q9 <| yDe (fun a ha => aO _ ⟨Blk.to (Blk.to (cs' := (TS.vals ({ (rs2 T p1 p2) with cursor := (Cur.mk (min ((rs2 T p1 p2).cursor.x : Int) ((rs2 T p1 p2).grid.w - 1)) (min (((rs2 T p1 p2).cursor.y - (upI T p2)) : Int) ((rs2 T p1 p2).grid.h - 1)) ((rs2 T p1 p2).cursor.late && (((rs2 T p1 p2).cursor.x : Int) == (rs2 T p1 p2).grid.w - 1)) (rs2 T p1 p2).cursor.sty), saved := (Cur.mk (min ((rs2 T p1 p2).saved.x : Int) ((rs2 T p1 p2).grid.w - 1)) (min ((rs2 T p1 p2).saved.y : Int) ((rs2 T p1 p2).grid.h - 1)) ((rs2 T p1 p2).saved.late && (((rs2 T p1 p2).saved.x : Int) == (rs2 T p1 p2).grid.w - 1)) (rs2 T p1 p2).saved.sty), away := (Cur.mk (rs2 T p1 p2).away.x (rs2 T p1 p2).away.y false (rs2 T p1 p2).away.sty), top := 0, bot := (rs2 T p1 p2).grid.h } : TS) j k (.slice n p q) (.slice r s v))) ci (by kernel_rfl)) (by simp only [a9, Bool.true_and, Bool.false_and]), cj, ck⟩ a (ha.kp [0, 9, 77, 78, 79]))
 obtain ⟨cl, aT, dJ⟩ := cc; have cm := G.ch aT (fun h => A h.symm); refine yD [30, 33] fun dK dL aa => ?_; have cn := zt aT aa eZ; have aU := cm.ch aa id; have N := cl.ch aa id; refine yd (uL 0 26) [] (.l (N.c 18) (.l (N.c 0) (.l (aU.c 0) (.q6 ((rs2 T p1 p2).grid.w - 1) (.l (N.c 19) (.l (N.c 0) (.l (aU.c 1) .z))))))) <| ydT (uL 26 4) [] rfl (fun _ => (.q6 ((rs2 T p1 p2).grid.h - 1) .z)) <| yK 30 (yS N fun dM co cp => ?_); have cq := zt cn cp (fun i hi (h : i = t) => h); refine q9 <| yd [31, 32] [] .z <| yK 33 (yS co fun ab cr cs => ?_); have ac := zt cq cs (fun i hi (h : i = t) => h); refine q9 <| yDe (nB (nS ?_)); refine q7 <| yp 2 [] (.q6 3 .z) <| yE (nU (yU1 ?_)); refine yx 1 <| ys <| ycf <| qk (eS (qf (qe (qM ?_)))); have ct := D.scalar (T' := ({ (rs2 T p1 p2) with cursor := (Cur.mk (min ((rs2 T p1 p2).cursor.x : Int) ((rs2 T p1 p2).grid.w - 1)) (min (((rs2 T p1 p2).cursor.y - (upI T p2)) : Int) ((rs2 T p1 p2).grid.h - 1)) ((rs2 T p1 p2).cursor.late && (((rs2 T p1 p2).cursor.x : Int) == (rs2 T p1 p2).grid.w - 1)) (rs2 T p1 p2).cursor.sty), saved := (Cur.mk (min ((rs2 T p1 p2).saved.x : Int) ((rs2 T p1 p2).grid.w - 1)) (min ((rs2 T p1 p2).saved.y : Int) ((rs2 T p1 p2).grid.h - 1)) ((rs2 T p1 p2).saved.late && (((rs2 T p1 p2).saved.x : Int) == (rs2 T p1 p2).grid.w - 1)) (rs2 T p1 p2).saved.sty), away := (Cur.mk (min ((rs2 T p1 p2).away.x : Int) ((rs2 T p1 p2).grid.w - 1)) (min ((rs2 T p1 p2).away.y : Int) ((rs2 T p1 p2).grid.h - 1)) ((rs2 T p1 p2).away.late && (((rs2 T p1 p2).away.x : Int) == (rs2 T p1 p2).grid.w - 1)) (rs2 T p1 p2).away.sty), top := 0, bot := (rs2 T p1 p2).grid.h } : TS)) ac (Blk.to cr (by kernel_rfl)) rfl rfl rfl rfl
 have dN := am.size; have dO := ao.size; have dP := zs ac; have aV : Ch F w ab := zt bh ac (fun i _ h => h ▸ aW); exact ⟨rfl, TermAt.eq' (show TermAt ab t _ (more F w ab) from ⟨_, _, _, _, _, _, _, _, _, _, _, _, ct.mono (fun b hb => hb.elim (fun h => h.elim .inl (fun h => .inr ⟨h.1, by omega⟩)) (fun h => .inr ⟨by omega, by omega⟩)) (hI.moreOk aV.size)⟩) rfl, aV⟩
structure Stp where
 text : ByteArray
 w : Int
 h : Int
def stp0 : Stp := ⟨ByteArray.empty, 0, 0⟩
def Stp.vals (x : Stp) : List Value := [.string x.text, .int .i64 x.w, .int .i64 x.h]
def flatS : List Stp → List Value
 | [] => []
 | x :: l => x.vals ++ flatS l
def gs (l : List Stp) (k : Nat) : Stp := l.getD k stp0
theorem flatS_len (l : List Stp) : (flatS l).length = l.length * 3 := by
 induction l with
 | nil => rfl
 | cons c l ih => simp [flatS, Stp.vals, ih]; omega
theorem flatS_get : ∀ (l : List Stp) (k j : Nat), k < l.length → j < 3 → (flatS l)[k * 3 + j]? = (gs l k).vals[j]?
 | [], k, j, h, _ => by simp at h
 | x :: l, 0, j, _, hj => by
  rw [flatS, Nat.zero_mul, Nat.zero_add, List.getElem?_append_left (by simp [Stp.vals]; omega)]; rfl
 | x :: l, k + 1, j, h, hj => by
  rw [flatS, List.getElem?_append_right (by simp [Stp.vals]; omega)]
  rw [show (k + 1) * 3 + j - x.vals.length = k * 3 + j by simp [Stp.vals]; omega, flatS_get l k j (by simpa using h) hj]
  rfl
section
variable {w : World} {b off : Nat} {l : List Stp} {k : Nat} (h : Rd w (some ⟨b, off, none⟩) (flatS l)) (hk : k < l.length)
include h hk
theorem qjv : w.cell? ⟨b, off + ((k : Nat) : Int).toNat * 3, none⟩ = some (.string (gs l k).text) := by
 rw [Int.toNat_natCast]; exact qbs h (k * 3) _ (flatS_get l k 0 hk (by decide))
theorem s_w : w.cell? ⟨b, off + ((k : Nat) : Int).toNat * 3 + 1, none⟩ = some (.int .i64 (gs l k).w) := by
 rw [Int.toNat_natCast, Nat.add_assoc]; exact qbs h (k * 3 + 1) _ (flatS_get l k 1 hk (by decide))
theorem s_h : w.cell? ⟨b, off + ((k : Nat) : Int).toNat * 3 + 2, none⟩ = some (.int .i64 (gs l k).h) := by
 rw [Int.toNat_natCast, Nat.add_assoc]; exact qbs h (k * 3 + 2) _ (flatS_get l k 2 hk (by decide))
end
def qdE (l : List Stp) : Bool := decide (l.length ≤ 40) && l.all fun x => decide (x.text.size ≤ 600)
theorem shortB_iff {l : List Stp} : qdE l = true ↔ l.length ≤ 40 ∧ ∀ k, k < l.length → (gs l k).text.size ≤ 600 := by
 unfold qdE
 rw [Bool.and_eq_true, decide_eq_true_eq, List.all_eq_true]
 refine and_congr_right fun _ => ⟨fun h k hk => ?_, fun h x hx => ?_⟩
 ·have := h l[k] (List.getElem_mem hk)
  have e : gs l k = l[k] := by simp [gs, List.getD, hk]
  rw [e]; exact of_decide_eq_true this
 ·obtain ⟨k, hk, rfl⟩ := List.mem_iff_getElem.1 hx
  have := h k hk
  have e : gs l k = l[k] := by simp [gs, List.getD, hk]
  rw [e] at this; exact decide_eq_true this
def doT (T : TS) (x : Stp) : TS := if x.w = 0 ∧ x.h = 0 then qjq T x.text else qdZ T x.w x.h
def doN (T : TS) (l : List Stp) : Nat → TS
 | 0 => T
 | k + 1 => doT (doN T l k) (gs l k)
theorem qiD {T : TS} (h : Fine T) (p1 p2 : Int) : Fine (qdZ T p1 p2) := by
 obtain ⟨⟨W, H, h⟩, hp⟩ := h
 exact ⟨⟨_, _, qfS h p1 p2⟩, by rw [qdD]; exact hp⟩
theorem qmf {T : TS} (h : Fine T) (x : Stp) : Fine (doT T x) := by
 unfold doT
 split
 ·exact qkx h _
 ·exact qiD h _ _
def qbo (l : List Cel) : Bool := (List.range l.length).all fun i => if (gc l (i : Int)).rune = 0 then qP l ((i : Int) - 1) else qis (gc l (i : Int)) && (!qat (gc l (i : Int)).rune || qP l (i : Int))
def celO (c : Cel) : Prop := qA c.sty = true ∧ (c.rune = 0 ∨ qbh c.rune = true)
def okS (l : List Cel) : Prop := ∀ c ∈ l, celO c
def okC (l : List Cel) : Prop := okS l ∧ qbo l = true
theorem qcI {l : List Cel} {i : Nat} (h : i < l.length) : gc l (i : Int) = l[i] := by simp [gc, List.getD, h]
theorem gc_mem {l : List Cel} {i : Nat} (h : i < l.length) : gc l (i : Int) ∈ l := by rw [qcI h]; exact List.getElem_mem h
theorem wholeB_iff {l : List Cel} : qbo l = true ↔ ∀ i : Nat, i < l.length → ((gc l (i : Int)).rune = 0 → qP l ((i : Int) - 1) = true) ∧ ((gc l (i : Int)).rune ≠ 0 → qis (gc l (i : Int)) = true ∧ (qat (gc l (i : Int)).rune = true → qP l (i : Int) = true)) := by
 unfold qbo
 rw [List.all_eq_true]
 refine ⟨fun h i hi => ?_, fun h i hi => ?_⟩
 ·have := h i (List.mem_range.2 hi)
  split at this
  ·rename_i h0; exact ⟨fun _ => this, fun h => absurd h0 h⟩
  ·rename_i h0
   rw [Bool.and_eq_true, Bool.or_eq_true, Bool.not_eq_true'] at this
   exact ⟨fun h => absurd h h0, fun _ => ⟨this.1, fun hw => this.2.elim (fun h => by rw [h] at hw; cases hw) id⟩⟩
 ·have := h i (List.mem_range.1 hi)
  split
  ·rename_i h0; exact this.1 h0
  ·rename_i h0
   rw [Bool.and_eq_true, Bool.or_eq_true, Bool.not_eq_true']
   refine ⟨(this.2 h0).1, ?_⟩
   cases hw : qat (gc l (i : Int)).rune with
   | false => exact .inl rfl
   | true => exact .inr ((this.2 h0).2 hw)
theorem qhO (l : List Cel) : ∀ k, k ≤ l.length → ∀ i : Nat, i < l.length → gc (qaX l k) (i : Int) = if i < k then qd6 l (i : Int) else gc l (i : Int)
 | 0, _, i, _ => by rw [if_neg (Nat.not_lt_zero i)]; rfl
 | k + 1, hk, i, hi => by
  have ih := qhO l k (by omega) i hi
  have hl := qaB l k
  rw [qaX, qcI (by rw [List.length_set, hl]; exact hi), List.getElem_set]
  split
  ·rename_i e; subst e; rw [if_pos (by omega)]
  ·rename_i e
   rw [qcI (by rw [hl]; exact hi)] at ih
   rw [ih]
   by_cases h : i < k
   ·rw [if_pos h, if_pos (by omega)]
   ·rw [if_neg h, if_neg (by omega)]
theorem qgM (l : List Cel) {i : Nat} (hi : i < l.length) : gc (qdk l) (i : Int) = qd6 l (i : Int) := by
 unfold qdk
 rw [qhO l _ (Nat.le_refl _) i hi, if_pos hi]
theorem wide0 : qat 0 = false := by decide +kernel
theorem qmg : qat 32 = false := by decide +kernel
theorem qeU : qbh 32 = true := by decide +kernel
theorem pairedB_iff {l : List Cel} {i : Int} : qP l i = true ↔ 0 ≤ i ∧ i + 1 < (l.length : Nat) ∧ qat (gc l i).rune = true ∧ gc l (i + 1) = ⟨0, (gc l i).sty⟩ := by
 unfold qP
 simp only [Bool.and_eq_true, decide_eq_true_eq, beq_iff_eq]
 constructor
 ·rintro ⟨⟨⟨a, b⟩, c⟩, d⟩; exact ⟨a, b, c, d⟩
 ·rintro ⟨a, b, c, d⟩; exact ⟨⟨⟨a, b⟩, c⟩, d⟩
theorem qfT {l : List Cel} {i : Int} (h1 : (gc l i).rune = 0 → qP l (i - 1) = true) (h2 : qat (gc l i).rune = true → qP l i = true) : qd6 l i = gc l i := by
 unfold qd6
 rw [if_neg]
 intro h
 simp only [Bool.or_eq_true, Bool.and_eq_true, decide_eq_true_eq, Bool.not_eq_true'] at h
 rcases h with h | h
 ·rw [h1 h.1] at h; cases h.2
 ·rw [h2 h.1] at h; cases h.2
theorem qeV (l : List Cel) (i : Int) : qd6 l i = ⟨32, (gc l i).sty⟩ ∨ (qd6 l i = gc l i ∧ ((gc l i).rune = 0 → qP l (i - 1) = true) ∧ (qat (gc l i).rune = true → qP l i = true)) := by
 unfold qd6
 split
 ·exact .inl rfl
 ·rename_i h
  simp only [Bool.or_eq_true, Bool.and_eq_true, decide_eq_true_eq, Bool.not_eq_true', not_or, not_and] at h
  exact .inr ⟨rfl, fun h0 => by simpa using h.1 h0, fun hw => by simpa using h.2 hw⟩
theorem qeW {l : List Cel} {i : Int} (h : qP l i = true) : qP (qdk l) i = true := by
 obtain ⟨h0, h1, h2, h3⟩ := pairedB_iff.1 h
 obtain ⟨k, rfl⟩ := Int.eq_ofNat_of_zero_le h0
 have e1 : gc (qdk l) ((k : Nat) : Int) = gc l (k : Int) := by
  rw [qgM l (by omega)]
  exact qfT (fun h => by rw [h, wide0] at h2; cases h2) (fun _ => h)
 have e2 : gc (qdk l) (((k : Nat) : Int) + 1) = gc l ((k : Int) + 1) := by
  have e3 : ((k : Nat) : Int) + 1 = ((k + 1 : Nat) : Int) := by omega
  rw [e3, qgM l (by omega), ← e3]
  refine qfT (fun _ => ?_) (fun hw => ?_)
  ·rw [show ((k : Nat) : Int) + 1 - 1 = (k : Int) by omega]; exact h
  ·rw [h3, wide0] at hw; cases hw
 refine pairedB_iff.2 ⟨h0, by rw [qah]; exact h1, by rw [e1]; exact h2, by rw [e2, e1]; exact h3⟩
theorem qiE {l : List Cel} (h : okS l) : okC (qdk l) := by
 have one : ∀ i : Nat, i < l.length → celO (qd6 l (i : Int)) := fun i hi => by
  have hc := h _ (gc_mem hi)
  rcases qeV l (i : Int) with e | ⟨e, _⟩
  ·rw [e]; exact ⟨hc.1, .inr qeU⟩
  ·rw [e]; exact hc
 refine ⟨fun c hc => ?_, wholeB_iff.2 fun i hi => ?_⟩
 ·obtain ⟨i, hi, rfl⟩ := List.mem_iff_getElem.1 hc
  rw [qah] at hi
  have := one i hi
  rwa [← qgM l hi, qcI (by rw [qah]; exact hi)] at this
 ·rw [qah] at hi
  rw [qgM l hi]
  have hc := one i hi
  rcases qeV l (i : Int) with e | ⟨e, h1, h2⟩
  ·rw [e]
   refine ⟨fun h => (by cases h), fun _ => ⟨?_, fun hw => by rw [qmg] at hw; cases hw⟩⟩
   rw [e] at hc
   unfold qis
   rw [hc.1, Bool.and_true]
   exact qeU
  ·rw [e] at hc ⊢
   refine ⟨fun h => qeW (h1 h), fun h => ⟨?_, fun hw => qeW (h2 hw)⟩⟩
   unfold qis
   rw [hc.1, hc.2.resolve_left h]; rfl
theorem qiF {l m : List Cel} (h : okS l) (hm : ∀ c ∈ m, c ∈ l) : okS m := fun c hc => h c (hm c hc)
theorem qgN {l : List Cel} (h : okS l) {i : Nat} {c : Cel} (hc : celO c) : okS (l.set i c) := fun d hd => by
 rcases List.mem_or_eq_of_mem_set hd with hd | rfl
 ·exact h d hd
 ·exact hc
theorem qcd {s : Sty} (h : qA s = true) : celO (qx s) := by
 refine ⟨?_, .inr qeU⟩
 unfold qA at *
 simp only [Bool.and_eq_true, decide_eq_true_eq] at *
 exact ⟨⟨⟨Int.le_refl _, (by show (0 : Int) ≤ 8; decide)⟩, h.1.2⟩, h.2⟩
theorem qcJ : qA qc0 = true := by decide
theorem qcK (n : Nat) {s : Sty} (h : qA s = true) : okC (List.replicate n (qx s)) := by
 refine ⟨fun c hc => by rw [List.eq_of_mem_replicate hc]; exact qcd h, wholeB_iff.2 fun i hi => ?_⟩
 rw [List.length_replicate] at hi
 have e : gc (List.replicate n (qx s)) (i : Int) = qx s := by rw [qcI (by rw [List.length_replicate]; exact hi)]; simp
 rw [e]
 refine ⟨fun h => (by cases h), fun _ => ⟨?_, fun hw => ?_⟩⟩
 ·unfold qis; rw [(qcd h).1, Bool.and_true]; exact qeU
 ·have hw : qat 32 = true := hw
  rw [qmg] at hw; cases hw
theorem putL_ok {W : Int} {l : List Cel} {x : Int} {c : Cel} (h : okS l) (hc : qis c = true) : okS (putL W l x c) := by
 unfold qis at hc
 rw [Bool.and_eq_true] at hc
 unfold putL
 split
 ·exact qgN (qgN h ⟨hc.2, .inr hc.1⟩) ⟨hc.2, .inl rfl⟩
 ·exact qgN h ⟨hc.2, .inr hc.1⟩
theorem qjw {l : List Cel} {a : Int} {c : Cel} (h : okS l) (hc : celO c) : ∀ k, okS (qei l a c k)
 | 0 => h
 | k + 1 => qgN (qjw h hc k) hc
theorem openL_ok {l : List Cel} {x n : Int} (h : okS l) : okS (qfm l x n) := qiF h fun c hc => by
 unfold qfm at hc
 rcases List.mem_append.1 hc with hc | hc
 ·rcases List.mem_append.1 hc with hc | hc
  ·exact List.mem_of_mem_take hc
  ·exact List.mem_of_mem_drop (List.mem_of_mem_take hc)
 ·exact List.mem_of_mem_drop hc
theorem shutL_ok {l : List Cel} {x n : Int} (h : okS l) : okS (qfn l x n) := qiF h fun c hc => by
 unfold qfn at hc
 rcases List.mem_append.1 hc with hc | hc
 ·rcases List.mem_append.1 hc with hc | hc
  ·exact List.mem_of_mem_take hc
  ·exact List.mem_of_mem_drop (List.mem_of_mem_take hc)
 ·exact List.mem_of_mem_drop hc
theorem qjx {l m : List Cel} {i : Nat} (h : i < l.length) : gc (l ++ m) (i : Int) = gc l (i : Int) := by
 rw [qcI (by rw [List.length_append]; omega), qcI h, List.getElem_append_left h]
theorem qfU {l m : List Cel} {i : Int} (h : qP l i = true) : qP (l ++ m) i = true := by
 obtain ⟨h0, h1, h2, h3⟩ := pairedB_iff.1 h
 obtain ⟨k, rfl⟩ := Int.eq_ofNat_of_zero_le h0
 have e : ((k : Nat) : Int) + 1 = ((k + 1 : Nat) : Int) := by omega
 refine pairedB_iff.2 ⟨h0, by rw [List.length_append]; omega, by rw [qjx (by omega)]; exact h2, ?_⟩
 rw [e, qjx (by omega), qjx (by omega), ← e]; exact h3
theorem okC_app {l : List Cel} (h : okC l) (n : Nat) : okC (l ++ List.replicate n (qx qc0)) := by
 refine ⟨fun c hc => (List.mem_append.1 hc).elim (h.1 c) fun hc => by rw [List.eq_of_mem_replicate hc]; exact qcd qcJ, wholeB_iff.2 fun i hi => ?_⟩
 by_cases hl : i < l.length
 ·have := wholeB_iff.1 h.2 i hl
  rw [qjx hl]
  exact ⟨fun h0 => qfU (this.1 h0), fun h0 => ⟨(this.2 h0).1, fun hw => qfU ((this.2 h0).2 hw)⟩⟩
 ·have e : gc (l ++ List.replicate n (qx qc0)) (i : Int) = qx qc0 := by
   rw [qcI hi, List.getElem_append_right (by omega)]; simp
  rw [e]
  refine ⟨fun h => (by cases h), fun _ => ⟨?_, fun hw => ?_⟩⟩
  ·unfold qis; rw [(qcd qcJ).1, Bool.and_true]; exact qeU
  ·have hw : qat 32 = true := hw
   rw [qmg] at hw; cases hw
theorem fitL_ok {l : List Cel} (h : okC l) (w : Int) : okC (qji l w) := by
 unfold qji
 split
 ·exact qiE (qiF h.1 fun c hc => List.mem_of_mem_take hc)
 ·exact okC_app h _
def okG (G : Gr) : Prop := ∀ l ∈ G.lines, okC l
theorem qeA {G : Gr} (h : okG G) (y : Int) : okS (gl G y) := by
 unfold gl
 rw [List.getD_eq_getElem?_getD]
 cases e : G.lines[y.toNat]? with
 | none => intro c hc; cases hc
 | some l => exact (h l (List.mem_of_getElem? e)).1
theorem qmh {G : Gr} (h : okG G) (y : Int) {l : List Cel} (hl : okC l) : okG (qdO G y l) := fun m hm => by
 rcases List.mem_or_eq_of_mem_set hm with hm | rfl
 ·exact h m hm
 ·exact hl
theorem okG_put {G : Gr} (h : okG G) (x y : Int) (c : Cel) : okG (qgj G x y c) := by
 unfold qgj
 split
 ·rename_i hc; exact qmh h y (qiE (putL_ok (qeA h y) hc.2))
 ·exact h
theorem qhP {W : Int} {l : List Cel} {a b : Int} {s : Sty} (h : okS l) (hs : qA s = true) : okC (qeJ W l a b s) := qiE (qjw h (qcd hs) _)
theorem qmi {G : Gr} (h : okG G) (y a b : Int) {s : Sty} (hs : qA s = true) : okG (qT G y a b s) := by
 unfold qT
 split
 ·exact qmh h y (qhP (qeA h y) hs)
 ·exact h
theorem okG_set2 {G : Gr} (h : okG G) {x y : Int} (ht : qb6 G x y = true) {l : List Cel} (hl : okS l) (a b : Int) {s : Sty} (hs : qA s = true) : okG (qT (qdO G y l) y a b s) := by
 obtain ⟨⟨h1, h2⟩, h3, h4⟩ := there_iff.1 ht
 unfold qT
 have ht' : qb6 (qdO G y l) 0 y = true := there_iff.2 ⟨⟨Int.le_refl _, h2⟩, (by show (0 : Int) < G.w; omega), h4⟩
 rw [if_pos ht']
 intro m hm
 have hm : m ∈ (G.lines.set y.toNat l).set y.toNat (qeJ G.w (gl (qdO G y l) y) a b s) := hm
 rw [List.set_set] at hm
 rcases List.mem_or_eq_of_mem_set hm with hm | rfl
 ·exact h m hm
 ·refine qhP ?_ hs
  unfold gl qdO
  rw [List.getD_eq_getElem?_getD]
  cases e : (G.lines.set y.toNat l)[y.toNat]? with
  | none => intro c hc; cases hc
  | some q =>
   rw [List.getElem?_set] at e
   simp only [if_true] at e
   split at e
   ·obtain rfl := Option.some.inj e; exact hl
   ·cases e
theorem up1_mem {L : List (List Cel)} {t e : Nat} {b l : List Cel} (h : l ∈ up1 L t e b) : l = b ∨ l ∈ L := by
 unfold up1 at h
 simp only [List.mem_append, List.mem_singleton] at h
 rcases h with ((h | h) | h) | h
 ·exact .inr (List.mem_of_mem_take h)
 ·exact .inr (List.mem_of_mem_drop (List.mem_of_mem_take h))
 ·exact .inl h
 ·exact .inr (List.mem_of_mem_drop h)
theorem qmj {L : List (List Cel)} {t e : Nat} {b l : List Cel} (h : l ∈ qej L t e b) : l = b ∨ l ∈ L := by
 unfold qej at h
 simp only [List.mem_append, List.mem_singleton] at h
 rcases h with ((h | h) | h) | h
 ·exact .inr (List.mem_of_mem_take h)
 ·exact .inl h
 ·exact .inr (List.mem_of_mem_drop (List.mem_of_mem_take h))
 ·exact .inr (List.mem_of_mem_drop h)
theorem qgO {t e : Nat} {b l : List Cel} {L : List (List Cel)} : ∀ k, l ∈ upN t e b k L → l = b ∨ l ∈ L
 | 0, h => .inr h
 | k + 1, h => (up1_mem h).elim .inl (qgO k)
theorem qeX {t e : Nat} {b l : List Cel} {L : List (List Cel)} : ∀ k, l ∈ qk5 t e b k L → l = b ∨ l ∈ L
 | 0, h => .inr h
 | k + 1, h => (qmj h).elim .inl (qeX k)
theorem okG_up {G : Gr} (h : okG G) (p1 p2 n : Int) {s : Sty} (hs : qA s = true) : okG (upG G p1 p2 n s) := fun l hl => (qgO _ hl).elim (fun e => e ▸ qcK _ hs) (h l)
theorem okG_down {G : Gr} (h : okG G) (p1 p2 n : Int) {s : Sty} (hs : qA s = true) : okG (qc7 G p1 p2 n s) := fun l hl => (qeX _ hl).elim (fun e => e ▸ qcK _ hs) (h l)
theorem okG_new (w h : Int) : okG (qh5 w h) := fun l hl => by rw [List.eq_of_mem_replicate hl]; exact qcK _ qcJ
theorem qky {G : Gr} (h : okG G) (p1 p2 p3 : Int) : okG (qd7 G p1 p2 p3) := fun l hl => by
 rcases List.mem_append.1 hl with hl | hl
 ·unfold qcq at hl
  obtain ⟨m, hm, rfl⟩ := List.mem_map.1 hl
  exact fitL_ok (h m (List.mem_of_mem_drop (List.mem_of_mem_take hm))) _
 ·rw [List.eq_of_mem_replicate hl]; exact qcK _ qcJ
theorem qhQ {l m : List (List Cel)} {P : List Cel → Prop} (h1 : ∀ x ∈ l, P x) (h2 : ∀ x ∈ m, P x) : ∀ x ∈ qfp l m, P x := fun x hx => by
 have := List.mem_of_mem_drop hx
 rcases List.mem_append.1 this with h | h
 ·exact h1 x h
 ·exact h2 x h
structure okD (G : Gr) : Prop where
 ok : okG G
 len : G.lines.length = G.h.toNat
 wid : ∀ l ∈ G.lines, l.length = G.w.toNat
theorem okD.line {G : Gr} (h : okD G) {y : Int} (hy : 0 ≤ y ∧ y < G.h) : (gl G y).length = G.w.toNat := by
 have hl := h.len
 have hy' : y.toNat < G.lines.length := by omega
 unfold gl
 rw [List.getD_eq_getElem?_getD, List.getElem?_eq_getElem hy']
 exact h.wid _ (List.getElem_mem hy')
theorem okD.set {G : Gr} (h : okD G) (y : Int) {l : List Cel} (ho : okG (qdO G y l)) (hl : l.length = G.w.toNat) : okD (qdO G y l) :=
 ⟨ho, by show (G.lines.set y.toNat l).length = _; rw [List.length_set]; exact h.len, fun m hm => by
  rcases List.mem_or_eq_of_mem_set hm with hm | rfl
  ·exact h.wid m hm
  ·exact hl⟩
theorem okD_put {G : Gr} (h : okD G) (x y : Int) (c : Cel) : okD (qgj G x y c) := by
 have ho := okG_put h.ok x y c
 unfold qgj at ho ⊢
 split
 ·rename_i hc
  rw [if_pos hc] at ho
  obtain ⟨⟨_, h2⟩, _, h4⟩ := there_iff.1 hc.1
  refine h.set y ho ?_
  rw [qah]
  unfold putL
  split <;> simp only [List.length_set] <;> exact h.line ⟨h2, h4⟩
 ·exact h
theorem qeY {G : Gr} (h : okD G) (y a b : Int) {s : Sty} (hs : qA s = true) : okD (qT G y a b s) := by
 have ho := qmi h.ok y a b hs
 unfold qT at ho ⊢
 split
 ·rename_i hc
  rw [if_pos hc] at ho
  obtain ⟨⟨_, h2⟩, _, h4⟩ := there_iff.1 hc
  refine h.set y ho ?_
  unfold qeJ
  rw [qah, qac]
  exact h.line ⟨h2, h4⟩
 ·exact h
theorem qjy {G : Gr} (h : okD G) {x y : Int} (ht : qb6 G x y = true) {l : List Cel} (hl : okS l) (hn : l.length = G.w.toNat) (a b : Int) {s : Sty} (hs : qA s = true) : okD (qT (qdO G y l) y a b s) := by
 have ho := okG_set2 h.ok ht hl a b hs
 obtain ⟨⟨h1, h2⟩, h3, h4⟩ := there_iff.1 ht
 have hw := qad (qdO G y l) y a b s
 refine ⟨ho, ?_, fun m hm => ?_⟩
 ·rw [hw.2]
  unfold qT
  split
  ·show ((G.lines.set y.toNat l).set y.toNat _).length = _
   rw [List.length_set, List.length_set]; exact h.len
  ·show (G.lines.set y.toNat l).length = _
   rw [List.length_set]; exact h.len
 ·rw [hw.1]
  have hy' : y.toNat < G.lines.length := by have := h.len; omega
  have hg : (gl (qdO G y l) y).length = G.w.toNat := by
   unfold gl qdO
   rw [List.getD_eq_getElem?_getD, List.getElem?_set_self hy']
   exact hn
  unfold qT at hm
  split at hm
  ·have hm : m ∈ (G.lines.set y.toNat l).set y.toNat (qeJ G.w (gl (qdO G y l) y) a b s) := hm
   rw [List.set_set] at hm
   rcases List.mem_or_eq_of_mem_set hm with hm | rfl
   ·exact h.wid m hm
   ·unfold qeJ; rw [qah, qac]; exact hg
  ·rcases List.mem_or_eq_of_mem_set hm with hm | rfl
   ·exact h.wid m hm
   ·exact hn
theorem qjz {G : Gr} (h : okD G) (x y n : Int) {s : Sty} (hs : qA s = true) : okD (qd5 G x y n s) := by
 unfold qd5
 split
 ·rename_i ht
  obtain ⟨⟨h1, h2⟩, h3, h4⟩ := there_iff.1 ht
  have hl := h.line ⟨h2, h4⟩
  refine qjy h ht (openL_ok (qeA h.ok y)) ?_ _ _ hs
  unfold qfm
  simp only [List.length_append, List.length_take, List.length_drop, hl]
  omega
 ·exact h
theorem okD_shut {G : Gr} (h : okD G) (x y n : Int) {s : Sty} (hs : qA s = true) : okD (qdT G x y n s) := by
 unfold qdT
 split
 ·rename_i ht
  obtain ⟨⟨h1, h2⟩, h3, h4⟩ := there_iff.1 ht
  have hl := h.line ⟨h2, h4⟩
  refine qjy h ht (shutL_ok (qeA h.ok y)) ?_ _ _ hs
  unfold qfn
  simp only [List.length_append, List.length_take, List.length_drop, hl]
  omega
 ·exact h
theorem qiG {t e : Nat} {b : List Cel} {L : List (List Cel)} : ∀ k, k = 0 ∨ (t < e ∧ e ≤ L.length) → (upN t e b k L).length = L.length
 | 0, _ => rfl
 | k + 1, h => by
  obtain ⟨h1, h2⟩ := h.resolve_left (by omega)
  have ih := qiG (b := b) k (.inr ⟨h1, h2⟩)
  rw [upN, qlC h1 (by omega), ih]
theorem qhR {t e : Nat} {b : List Cel} {L : List (List Cel)} : ∀ k, k = 0 ∨ (t < e ∧ e ≤ L.length) → (qk5 t e b k L).length = L.length
 | 0, _ => rfl
 | k + 1, h => by
  obtain ⟨h1, h2⟩ := h.resolve_left (by omega)
  have ih := qhR (b := b) k (.inr ⟨h1, h2⟩)
  rw [qk5, qho h1 (by omega), ih]
theorem qmk {G : Gr} (h : okD G) (p1 p2 n : Int) : (cntI G p1 p2 n).toNat = 0 ∨ ((qeu G p1).toNat < (qeu G p2).toNat ∧ (qeu G p2).toNat ≤ G.lines.length) := by
 rw [h.len]
 unfold cntI qeu
 omega
theorem qml {G : Gr} (h : okD G) (p1 p2 n : Int) {s : Sty} (hs : qA s = true) : okD (upG G p1 p2 n s) :=
 ⟨okG_up h.ok p1 p2 n hs, (qiG _ (qmk h p1 p2 n)).trans h.len, fun l hl => (qgO _ hl).elim (fun e => by rw [e, List.length_replicate]; rfl) (h.wid l)⟩
theorem qjA {G : Gr} (h : okD G) (p1 p2 n : Int) {s : Sty} (hs : qA s = true) : okD (qc7 G p1 p2 n s) :=
 ⟨okG_down h.ok p1 p2 n hs, (qhR _ (qmk h p1 p2 n)).trans h.len, fun l hl => (qeX _ hl).elim (fun e => by rw [e, List.length_replicate]; rfl) (h.wid l)⟩
theorem qhS {t e : Nat} {b l : List Cel} {L : List (List Cel)} : ∀ k, (k = 0 ∨ (t < e ∧ e ≤ L.length)) → l ∈ qhq t e b k L → l = b ∨ l ∈ L
 | 0, _, h => by cases h
 | k + 1, hk, h => by
  obtain ⟨h1, h2⟩ := hk.resolve_left (by omega)
  rw [qhq] at h
  rcases List.mem_append.1 h with h | h
  ·exact qhS k (.inr ⟨h1, h2⟩) h
  ·have hlen := qiG (b := b) k (.inr ⟨h1, h2⟩)
   rw [List.mem_singleton.1 h, List.getD_eq_getElem?_getD, List.getElem?_eq_getElem (by omega)]
   exact qgO k (List.getElem_mem _)
def okB (l : List Cel) : Prop := okC l ∧ l ≠ [] ∧ l.length ≤ 60
theorem okB_of {G : Gr} (h : okD G) (hw : 1 ≤ G.w ∧ G.w ≤ 60) {l : List Cel} (hl : l ∈ G.lines) : okB l := ⟨h.ok l hl, fun e => by have := h.wid l hl; rw [e] at this; simp at this; omega, by have := h.wid l hl; omega⟩
theorem okD_out {G : Gr} (h : okD G) (hw : 1 ≤ G.w ∧ G.w ≤ 60) (p1 p2 n : Int) {s : Sty} (hs : qA s = true) : ∀ l ∈ outG G p1 p2 n s, okB l := fun l hl => by
 rcases qhS _ (qmk h p1 p2 n) hl with rfl | hl
 ·exact ⟨qcK _ hs, fun e => by have := congrArg List.length e; rw [List.length_replicate] at this; simp at this; omega, by rw [List.length_replicate]; omega⟩
 ·exact okB_of h hw hl
theorem qmm (w h : Int) : okD (qh5 w h) := ⟨okG_new w h, by show (List.replicate _ _).length = _; rw [List.length_replicate]; rfl, fun l hl => by rw [List.eq_of_mem_replicate hl, List.length_replicate]; rfl⟩
theorem qe0 {G : Gr} (h : okD G) (hh : 0 ≤ G.h) (p1 p2 p3 : Int) : okD (qd7 G p1 p2 p3) := by
 refine ⟨qky h.ok p1 p2 p3, ?_, fun l hl => ?_⟩
 ·show (qcq _ _ _ _ ++ List.replicate _ _).length = (qj p2).toNat
  unfold qcq
  simp only [List.length_append, List.length_map, List.length_take, List.length_drop, List.length_replicate, h.len]
  omega
 ·show l.length = (qj p1).toNat
  have h1 : 1 ≤ qj p1 := by unfold qj; omega
  rcases List.mem_append.1 hl with hl | hl
  ·unfold qcq at hl
   obtain ⟨m, _, rfl⟩ := List.mem_map.1 hl
   rw [qgn (by omega)]; omega
  ·rw [List.eq_of_mem_replicate hl, List.length_replicate]
theorem qfV {G : Gr} (h : okD G) : ∀ k, okD (qda G k)
 | 0 => h
 | k + 1 => qeY (qfV h k) _ _ _ qcJ
structure Okt (q : Bool) (W H : Int) (T : TS) : Prop where
 lim : Lim W H T
 g : okD T.grid
 o : okD T.other
 b : ∀ l ∈ T.back, okB l
 cs : qA T.cursor.sty = true
 cl : q = true → T.cursor.late = true → T.cursor.x = W - 1
 ss : qA T.saved.sty = true
 sl : T.saved.late = true → T.saved.x = W - 1
 ay : qA T.away.sty = true
 al : T.away.late = true → T.away.x = W - 1
 ti : T.title.size ≤ 40
section
variable {q : Bool} {W H : Int} {T : TS}
theorem Okt.half (h : Okt q W H T) : Okt false W H T := { h with cl := fun e => by cases e }
theorem Okt.cur (h : Okt q W H T) {p : Bool} {c : Cur} (hc : (0 ≤ c.x ∧ c.x < W) ∧ 0 ≤ c.y ∧ c.y < H) (hs : qA c.sty = true) (hl : p = true → c.late = true → c.x = W - 1) : Okt p W H { T with cursor := c } := { h with lim := h.lim.cursor hc, cs := hs, cl := hl }
theorem Okt.grid (h : Okt q W H T) {G : Gr} (hG : G.w = T.grid.w ∧ G.h = T.grid.h) (hd : okD G) : Okt q W H { T with grid := G } := { h with lim := h.lim.grid hG, g := hd }
theorem Okt.flags (h : Okt q W H T) {T' : TS} (hl : Lim W H T') (e1 : T'.grid = T.grid) (e2 : T'.other = T.other) (e3 : T'.cursor = T.cursor) (e4 : T'.saved = T.saved) (e5 : T'.away = T.away) (e8 : T'.back = T.back) (e9 : T'.title = T.title) : Okt q W H T' :=
 ⟨hl, by rw [e1]; exact h.g, by rw [e2]; exact h.o, by rw [e8]; exact h.b, by rw [e3]; exact h.cs, by rw [e3]; exact h.cl, by rw [e4]; exact h.ss, by rw [e4]; exact h.sl, by rw [e5]; exact h.ay, by rw [e5]; exact h.al, by rw [e9]; exact h.ti⟩
theorem qcL (h : Okt q W H T) {p : Bool} (x y : Int) : Okt p W H (qa8 T x y) :=
 {h with lim := qR h.lim x y, cs := h.cs, cl := fun _ e => by cases e }
theorem qgP (h : Okt q W H T) {p : Bool} (x y : Int) : Okt p W H (qaV T x y) := by
 unfold qaV
 split <;> exact qcL h _ _
theorem qhT (h : Okt q W H T) (n : Int) : Okt q W H (qar T n) := by
 have hl := qc8 h.lim n
 have h1 := h.lim.g1
 have h2 := h.lim.wb
 unfold qar at hl ⊢
 split
 ·rename_i hc
  rw [if_pos hc] at hl
  exact { h with lim := hl, g := qml h.g _ _ _ h.cs, b := qhQ h.b (okD_out h.g ⟨by omega, by omega⟩ _ _ _ h.cs) }
 ·exact h.grid ⟨rfl, rfl⟩ (qml h.g _ _ _ h.cs)
theorem qeZ (h : Okt q W H T) : Okt q W H (qaC T) := by
 have h1 := h.lim.g1
 have h2 := h.lim.cu
 unfold qaC
 split
 ·exact qhT h 1
 ·split
  ·exact h.cur ⟨h2.1, by dsimp only; omega, by dsimp only; omega⟩ h.cs h.cl
  ·exact h
theorem ok_up (h : Okt q W H T) : Okt q W H (upT T) := by
 have h2 := h.lim.cu
 unfold upT
 split
 ·exact h.grid (G := qc7 T.grid T.top T.bot 1 T.cursor.sty) ⟨rfl, rfl⟩ (qjA h.g _ _ _ h.cs)
 ·split
  ·exact h.cur ⟨h2.1, by dsimp only; omega, by dsimp only; omega⟩ h.cs h.cl
  ·exact h
theorem qiH (h : Okt q W H T) : Okt true W H (qaL T false) := h.cur h.lim.cu h.cs (fun _ e => by cases e)
theorem ok_print (h : Okt q W H T) (r : Int) : Okt true W H (qcA T r) := by
 have h1 := h.lim.g1
 have h3 := h.lim.wb
 have hn := qdU T r (by omega)
 have hA : Okt false W H (qbm T) := by
  have h2 := h.lim.cu
  unfold qbm
  split
  ·exact qeZ (h.cur ⟨⟨by dsimp only; omega, by dsimp only; omega⟩, h2.2⟩ h.cs (fun e => by cases e))
  ·exact h.half
 have hB : Okt false W H (qb7 (qbm T) (qQ T r).2) := by
  have h1 := hA.lim.g1
  have h2 := hA.lim.cu
  unfold qb7
  split
  ·split
   ·exact qeZ (hA.cur ⟨⟨by dsimp only; omega, by dsimp only; omega⟩, h2.2⟩ hA.cs (fun e => by cases e))
   ·exact hA.cur ⟨⟨by dsimp only; omega, by dsimp only; omega⟩, h2.2⟩ hA.cs (fun e => by cases e)
  ·exact hA
 have hC : Okt false W H (qbw (qb7 (qbm T) (qQ T r).2) (qQ T r).2) := by
  unfold qbw
  split
  ·exact hB.grid (qd8 _ _ _ _ _) (qjz hB.g _ _ _ hB.cs)
  ·exact hB
 have hD : Okt false W H (qeb (qbw (qb7 (qbm T) (qQ T r).2) (qQ T r).2) (qQ T r).1) := hC.grid (qlM _ _ _ _) (okD_put hC.g _ _ _)
 have hlim := qeM h.lim r
 unfold qcA at hlim ⊢
 generalize (qeb (qbw (qb7 (qbm T) (qQ T r).2) (qQ T r).2) (qQ T r).1) = U at hD hlim
 have hg := hD.lim.g1
 unfold qeL at hlim ⊢
 split
 ·rename_i hc
  rw [if_pos hc] at hlim
  exact { hD with lim := hlim, cs := hD.cs, cl := fun _ _ => by show U.grid.w - 1 = W - 1; omega }
 ·rename_i hc
  rw [if_neg hc] at hlim
  exact { hD with lim := hlim, cs := hD.cs, cl := fun _ e => by cases e }
theorem ok_exec (h : Okt true W H T) (c : Int) : Okt true W H (qcl T c) := by
 have hl := qgt h.lim c
 unfold qcl at hl ⊢
 repeat' split
 all_goals first | exact qcL h _ _ | exact qiH (qeZ h) | exact { h with lim := h.lim.flags rfl rfl rfl rfl rfl rfl rfl rfl rfl } | exact h
theorem ok_tell (h : Okt true W H T) (c k : Int) : Okt true W H (qbA T c k) := by
 refine h.flags (qez h.lim c k) ?_ ?_ ?_ ?_ ?_ ?_ ?_
 all_goals
  unfold qbA qbx
  repeat' split
  all_goals rfl
theorem ok_clear (h : Okt true W H T) (y a b : Int) {s : Sty} (hs : qA s = true) : Okt true W H (qca T y a b s) := h.grid (qad _ _ _ _ _) (qeY h.g _ _ _ hs)
theorem qmn (h : Okt true W H T) (k x y : Int) {s : Sty} (hs : qA s = true) (i : Int) : Okt true W H (qaG T k x y s i) := by
 unfold qaG
 repeat' split
 all_goals first | exact ok_clear h _ _ _ hs | exact h
theorem qmo (h : Okt true W H T) (k x y : Int) {s : Sty} (hs : qA s = true) (a : Int) (j : Nat) : Okt true W H (qdw T k x y s a j) := by
 induction j with
 | zero => exact h
 | succ j ih => exact qmn ih _ _ _ hs _
theorem qgQ (h : Okt true W H T) (k a b : Int) : Okt true W H (qb0 T k a b) := qmo h _ _ _ h.cs _ _
theorem qa2 {c : Prop} [Decidable c] {a b : TS} (h1 : c → Okt true W H a) (h2 : ¬ c → Okt true W H b) : Okt true W H (if c then a else b) := by
 split
 ·exact h1 ‹_›
 ·exact h2 ‹_›
theorem ok_edit (h : Okt true W H T) (c n : Int) (l : List Int) : Okt true W H (qaJ T c n l) := by
 have hd : ∀ a b n, Okt true W H { T with grid := qc7 T.grid a b n T.cursor.sty } := fun a b n => h.grid (G := qc7 T.grid a b n T.cursor.sty) ⟨rfl, rfl⟩ (qjA h.g _ _ _ h.cs)
 have hu : ∀ a b n, Okt true W H { T with grid := upG T.grid a b n T.cursor.sty } := fun a b n => h.grid (G := upG T.grid a b n T.cursor.sty) ⟨rfl, rfl⟩ (qml h.g _ _ _ h.cs)
 unfold qaJ
 refine qa2 (fun _ => h.grid (qd8 _ _ _ _ _) (qjz h.g _ _ _ h.cs)) fun _ => ?_
 refine qa2 (fun _ => h.grid (qgq _ _ _ _ _) (okD_shut h.g _ _ _ h.cs)) fun _ => ?_
 refine qa2 (fun _ => h.grid (qad _ _ _ _ _) (qeY h.g _ _ _ h.cs)) fun _ => ?_
 refine qa2 (fun _ => qgQ h _ _ _) fun _ => ?_
 refine qa2 (fun _ => qa2 (fun _ => qgQ (T := { T with back := [] }) { h with lim := { h.lim with bk := by simp }, b := fun l hl => by cases hl } _ _ _) fun _ => qgQ h _ _ _) fun _ => ?_
 refine qa2 (fun _ => qa2 (fun _ => hd _ _ _) fun _ => h) fun _ => ?_
 refine qa2 (fun _ => qa2 (fun _ => hu _ _ _) fun _ => h) fun _ => ?_
 refine qa2 (fun _ => qhT h _) fun _ => ?_
 refine qa2 (fun _ => hd _ _ _) fun _ => ?_
 exact ok_tell h _ _
theorem qkz {s : Sty} (h : qA s = true) (n : Int) : qA (qm s n) = true := by
 unfold qA at *
 simp only [Bool.and_eq_true, decide_eq_true_eq] at *
 unfold qm
 repeat' split
 all_goals first | exact h | (show (((_ : Prop) ∧ _) ∧ _) ∧ _; dsimp only [qc0]; omega)
theorem qiI {s : Sty} (h : qA s = true) (l : List Int) : qA (qbJ s l) = true := by
 unfold qbJ
 generalize (if l = [] then [0] else l) = m
 induction m generalizing s with
 | nil => exact h
 | cons n m ih => exact ih (qkz h n)
theorem ok_plain (h : Okt true W H T) (c : Int) (l : List Int) : Okt true W H (qa5 T c l) := by
 have h1 := h.lim.g1
 have hp := qcX l 0
 unfold qa5
 refine qa2 (fun _ => qcL h _ _) fun _ => ?_
 refine qa2 (fun _ => qcL h _ _) fun _ => ?_
 refine qa2 (fun _ => qcL h _ _) fun _ => ?_
 refine qa2 (fun _ => qcL h _ _) fun _ => ?_
 refine qa2 (fun _ => qcL h _ _) fun _ => ?_
 refine qa2 (fun _ => qgP h _ _) fun _ => ?_
 refine qa2 (fun _ => qgP h _ _) fun _ => ?_
 refine qa2 (fun _ => h.cur h.lim.cu (qiI h.cs l) h.cl) fun _ => ?_
 refine qa2 (fun _ => qa2 (fun h5 => qgP (q := true) (h.flags (qfN h.lim ⟨hp, h5, ?_⟩) rfl rfl rfl rfl rfl rfl rfl) _ _) fun _ => h) fun _ => ok_edit h _ _ _
 split <;> omega
theorem ok_turn (h : Okt true W H T) (b : Bool) : Okt true W H (qgy T b) := by
 have hl := qgB h.lim b
 unfold qgy at hl ⊢
 split
 ·exact h
 ·rename_i hc
  rw [if_neg hc] at hl
  split
  ·rename_i hb
   rw [if_pos hb] at hl
   exact ⟨hl, qfV h.o _, h.g, h.b, h.cs, h.cl, h.ss, h.sl, h.cs, h.cl rfl, h.ti⟩
  ·rename_i hb
   rw [if_neg hb] at hl
   exact ⟨hl, h.o, h.g, h.b, h.ay, fun _ => h.al, h.ss, h.sl, h.cs, h.cl rfl, h.ti⟩
theorem ok_mode (h : Okt true W H T) (n : Int) (b : Bool) : Okt true W H (qay T n b) := by
 unfold qay
 split
 ·exact qgP (q := true) (T := { T with origin := b }) (h.flags (h.lim.flags rfl rfl rfl rfl rfl rfl rfl rfl rfl) rfl rfl rfl rfl rfl rfl rfl) _ _
 split
 ·exact { h with lim := { h.lim.cursor (c := ⟨T.cursor.x, T.cursor.y, T.cursor.late && b, T.cursor.sty⟩) h.lim.cu with }, cs := h.cs, cl := fun e e2 => h.cl e (by have e2 : (T.cursor.late && b) = true := e2; rw [Bool.and_eq_true] at e2; exact e2.1) }
 split
 ·exact h.flags (h.lim.flags rfl rfl rfl rfl rfl rfl rfl rfl rfl) rfl rfl rfl rfl rfl rfl rfl
 split
 ·exact ok_turn h b
 ·exact h
theorem ok_modes (h : Okt true W H T) (l : List Int) (b : Bool) : Okt true W H (l.foldl (fun T n => qay T n b) T) := by
 induction l generalizing T with
 | nil => exact h
 | cons n l ih => exact ih (ok_mode h n b)
theorem ok_csi (h : Okt true W H T) (a : Ac) : Okt true W H (qii T a) := by
 unfold qii
 split
 ·exact ok_plain h _ _
 split
 ·exact ok_modes h _ _
 ·exact h
theorem qjB (T : TS) (w h : Int) (hr : T.reply.size ≤ 400) : Okt true (qj w) (qj h) (qa7 T w h) :=
 ⟨qcD T w h hr, qmm w h, qmm w h, fun l hl => (by cases hl), qcJ, fun _ e => (by cases e), qcJ, fun e => (by cases e), qcJ, fun e => (by cases e), Nat.zero_le _⟩
theorem ok_esc (h : Okt true W H T) (a : Ac) : Okt true W H (qey T a) := by
 have hf : ∀ {T' : TS}, Lim W H T' → T'.grid = T.grid → T'.other = T.other → T'.cursor = T.cursor → T'.saved = T.saved → T'.away = T.away → T'.back = T.back → T'.title = T.title → Okt true W H T' := fun hl => h.flags hl
 unfold qey
 refine qa2 (fun _ => qa2 (fun _ => hf (h.lim.flags rfl rfl rfl rfl rfl rfl rfl rfl rfl) rfl rfl rfl rfl rfl rfl rfl) fun _ => h) fun _ => ?_
 refine qa2 (fun _ => qa2 (fun _ => hf (h.lim.flags rfl rfl rfl rfl rfl rfl rfl rfl rfl) rfl rfl rfl rfl rfl rfl rfl) fun _ => h) fun _ => ?_
 refine qa2 (fun _ => h) fun _ => ?_
 refine qa2 (fun _ => { h with lim := { h.lim with sa := h.lim.cu }, ss := h.cs, sl := h.cl rfl }) fun _ => ?_
 refine qa2 (fun _ => { h with lim := { h.lim with cu := h.lim.sa }, cs := h.ss, cl := fun _ => h.sl }) fun _ => ?_
 refine qa2 (fun _ => qiH (qeZ h)) fun _ => ?_
 refine qa2 (fun _ => qcL (qeZ h) _ _) fun _ => ?_
 refine qa2 (fun _ => qiH (ok_up h)) fun _ => ?_
 refine qa2 (fun _ => hf (h.lim.flags rfl rfl rfl rfl rfl rfl rfl rfl rfl) rfl rfl rfl rfl rfl rfl rfl) fun _ => ?_
 refine qa2 (fun _ => ?_) fun _ => h
 have := qjB T T.grid.w T.grid.h h.lim.rp
 rw [h.lim.g1.1, h.lim.g1.2, qcY h.lim.wb, qcY h.lim.hb] at this
 rw [h.lim.g1.1, h.lim.g1.2]; exact this
theorem ok_osc (h : Okt true W H T) {a : Ac} (ha : AcOk a) : Okt true W H (qjn T a) := by
 unfold qjn
 split
 ·exact { h with lim := h.lim.flags rfl rfl rfl rfl rfl rfl rfl rfl rfl, ti := by show (a.text.extract _ _).size ≤ 40; rw [ByteArray.size_extract]; have := ha.t; omega }
 ·exact h
theorem ok_act (h : Okt true W H T) {a : Ac} (ha : AcOk a) : Okt true W H (qdh T a) := by
 unfold qdh
 split
 ·exact ok_print h _
 split
 ·exact ok_exec h _
 split
 ·exact ok_esc h a
 split
 ·exact ok_csi h a
 split
 ·exact ok_osc h ha
 ·exact h
theorem ok_acts (h : Okt true W H T) (l : List Ac) (hl : ∀ a ∈ l, AcOk a) : Okt true W H (l.foldl qdh T) := by
 induction l generalizing T with
 | nil => exact h
 | cons a l ih => exact ih (ok_act h (hl a (List.mem_cons_self ..))) fun b hb => hl b (List.mem_cons_of_mem _ hb)
theorem ok_feed (h : Okt true W H T) (hp : T.parser.lim) {c : Int} (hc : 0 ≤ c ∧ c ≤ 255) : Okt true W H (qhH T c) :=
 ok_acts (T := { T with parser := (qaR T.parser c).1 }) (h.flags (qdY h.lim _) rfl rfl rfl rfl rfl rfl rfl) _ (qgF hp hc).2
theorem qhU (h : Okt true W H T) (hp : T.parser.lim) (s : ByteArray) : ∀ k, Okt true W H (qcF T s k) ∧ (qcF T s k).parser.lim
 | 0 => ⟨h, hp⟩
 | k + 1 => by
  obtain ⟨h1, h2⟩ := qhU h hp s k
  exact ⟨ok_feed h1 h2 (qci s _), qd0 hp s (k + 1)⟩
theorem ok_write (h : Okt true W H T) (hp : T.parser.lim) (s : ByteArray) : Okt true W H (qjq T s) := (qhU h hp s _).1
end
theorem qgR {c : Cur} {w h : Int} (hw : 1 ≤ w) : (fixC c w h).late = true → (fixC c w h).x = w - 1 := fun e => by
 have e : (c.late && ((c.x : Int) == w - 1)) = true := e
 rw [Bool.and_eq_true, beq_iff_eq] at e
 show min c.x (w - 1) = w - 1
 omega
theorem qmp {W H : Int} {T : TS} (h : Okt true W H T) (p1 p2 : Int) : Okt true (qj p1) (qj p2) (qdZ T p1 p2) := by
 have hl := qfS h.lim p1 p2
 obtain ⟨e1, e2, e3, e4, e5, e6, e7⟩ := rs2_f T p1 p2
 have hg1 := h.lim.g1
 have hg2 := h.lim.g2
 have hw := h.lim.wb
 have hh := h.lim.hb
 have hs1 : 1 ≤ qj p1 := by unfold qj; omega
 have hr1 : okD (rs1 T p1 p2).grid ∧ (rs1 T p1 p2).other = T.other ∧ (∀ l ∈ (rs1 T p1 p2).back, okB l) ∧ (rs1 T p1 p2).title = T.title := by
  unfold rs1
  split
  ·exact ⟨qe0 h.g (by omega) _ _ _, rfl, h.b, rfl⟩
  ·exact ⟨qe0 h.g (by omega) _ _ _, rfl, qhQ h.b fun l hl => okB_of h.g ⟨by omega, by omega⟩ (List.mem_of_mem_take hl), rfl⟩
 have hgw : (rs2 T p1 p2).grid.w = qj p1 := e4
 refine ⟨hl, hr1.1, ?_, hr1.2.2.1, ?_, fun _ e => ?_, ?_, fun e => ?_, ?_, fun e => ?_, ?_⟩
 ·show okD (qd7 (rs1 T p1 p2).other p1 (qhM p2) 0)
  rw [hr1.2.1]; exact qe0 h.o (by omega) _ _ _
 ·show qA (rs2 T p1 p2).cursor.sty = true; rw [e1]; exact h.cs
 ·have := qgR (w := (rs2 T p1 p2).grid.w) (by omega) e; rw [← hgw]; exact this
 ·show qA (rs2 T p1 p2).saved.sty = true; rw [e2]; exact h.ss
 ·have := qgR (w := (rs2 T p1 p2).grid.w) (by omega) e; rw [← hgw]; exact this
 ·show qA (rs2 T p1 p2).away.sty = true; rw [e3]; exact h.ay
 ·have := qgR (w := (rs2 T p1 p2).grid.w) (by omega) e; rw [← hgw]; exact this
 ·show (rs1 T p1 p2).title.size ≤ 40; rw [hr1.2.2.2]; exact h.ti
theorem ok_do {W H : Int} {T : TS} (h : Okt true W H T) (hp : T.parser.lim) (x : Stp) : ∃ W' H', Okt true W' H' (doT T x) := by
 unfold doT
 split
 ·exact ⟨W, H, ok_write h hp _⟩
 ·exact ⟨_, _, qmp h _ _⟩
end Go.Proofs.YtclnfbmmaofpjaaGreatDoor.X
