/- What the proof of RenderShows needs, part 4: the walks of the program's functions and the plain laws about them. -/
import Derived.Test.YtjklgjjgndalcaaGreatDoorQB3
import Derived.Laws.Strings
set_option linter.unusedSimpArgs false
set_option linter.unusedVariables false
set_option maxHeartbeats 4000000
namespace Go.Proofs.YtjklgjjgndalcaaGreatDoor.X
open Go Go.RowKit Go.Proofs.YtjklgjjgndalcaaGreatDoor
theorem turn_at {w : World} {t : Nat} {W H : Int} {T : TS} {F : Nat → Prop} (hA0 : TermAt w t T F) (hT : LT w) (hL : Lim W H T) (b : Bool) : Calls Tryz.prog 101 [pX t, .bool b].toArray w fun e w' => e = .returned (.tuple #[]) ∧ TermAt w' t (qk7 T b) (more F w w') ∧ Ch F w w' := by
 obtain ⟨g, o, ba, bn, bc, pa, pn, pc, F1, F2, FB, FP, hI⟩ := hA0; have hA0 : TermAt w t T F := ⟨g, o, ba, bn, bc, pa, pn, pc, F1, F2, FB, FP, hI⟩
 have s := hI.inF.1; obtain ⟨gv, aZ⟩ := hI.g1.head; have b0 : Df t g := fun e => hI.t1 (e ▸ hI.g1.inF); obtain ⟨⟨b1, b2⟩, ⟨b3, b4⟩, b5, b6⟩ := hI.g1.ok; have ac := hL; have b7 := ac.all; obtain ⟨b8, ad⟩ := hI.g2.head; have f : Df t o := fun e => hI.t2 (e ▸ hI.g2.inF); refine yA Tryz.func101 rfl <| ys <| ysr <| yp 6 [] (.l (hI.blk.c 95) .z) <| ye <| yc (rY (b == T.alt)) (fun m => ?_) fun m => ?_
 ·refine q9 (rS (yR0 ?_)); have N := hI.cht (Ch.refl (· = t) w); have ae := hI.pk1 hI N; refine ⟨rfl, TermAt.eq' ae ?_, N⟩; exact if_pos m
 refine yk <| ysr <| yq 4 <| yo (yS hI.blk fun b9 af O => ?_); have ag := zt (Ch.refl (· = t) w) O (fun i hi (h : i = t) => h); have ah := ad.ch O (fun h => f h.symm); refine ye <| ys <| yD [12, 15] fun bb bd v => ?_; have ai := zt ag v eZ; have aj := ah.ch v id; have A := af.ch v id; refine yd (uL 0 12) [] (.l (A.c 1) (.l (A.c 0) .z)) <| yK 12 (yS A fun bf ak P => ?_); have al := zt ai P (fun i hi (h : i = t) => h); have am := aj.ch P (fun h => f h.symm); refine q8 <| yd [13, 14] [] .z <| yK 15 (yS ak fun bg an Q => ?_); have ao := zt al Q (fun i hi (h : i = t) => h); have ap := am.ch Q (fun h => f h.symm); refine q8 <| yDe (nS ?_); refine ys <| yD [12, 15] fun bh bi B => ?_; have aq := zt ao B eZ; have ar := ap.ch B id; have au := an.ch B id; have C : Blk _ t (TS.vals ({ T with grid := T.other, other := T.grid, alt := b } : TS) o g (.slice ba bn bc) (.slice pa pn pc)) qbc := Blk.to au (by kernel_rfl); refine yd (uL 0 12) [] (.a (C.cs 18 8) (.a (C.cs 2 8) .z)) <| yK 12 (yS C fun bj av R => ?_); have ax := zt aq R (fun i hi (h : i = t) => h); have ay := ar.ch R (fun h => f h.symm); refine q8 <| yd [13, 14] [] .z <| yK 15 (yS av fun bk S U => ?_); have D := zt ax U (fun i hi (h : i = t) => h); have az := ay.ch U (fun h => f h.symm); refine q8 <| yDe (nS ?_); refine yx 1 <| yc (rY b) (fun E => ?_) fun E => ?_
 ·refine ysr ?_; have V : Blk _ t (TS.vals ({ T with grid := T.other, other := T.grid, cursor := T.away, away := T.cursor, alt := b } : TS) o g (.slice ba bn bc) (.slice pa pn pc)) qbc := Blk.to S (by kernel_rfl); refine yp 7 [] (.a (V.cs 18 8) .z) <| yo (yS V fun bl X Y => ?_); have Z := zt D Y (fun i hi (h : i = t) => h); have aA := az.ch Y (fun h => f h.symm); refine ye <| ysr <| yp 8 [] (.l (X.c 0) (.l (aA.c 1) .z)) <| ye <| qa ?_; have aB : Lim W H ({ T with grid := T.other, other := T.grid, away := T.cursor, alt := b } : TS) := { hL with aw := ⟨⟨(show (0 : Int) ≤ T.cursor.x by omega), (show (T.cursor.x : Int) < W by omega)⟩, (show (0 : Int) ≤ T.cursor.y by omega), (show (T.cursor.y : Int) < H by omega)⟩, g1 := ⟨hL.g2.1, hL.g2.2⟩, g2 := ⟨hL.g1.1, hL.g1.2⟩ }
  have aC := hI.swap (T' := ({ T with grid := T.other, other := T.grid, away := T.cursor, alt := b } : TS)) Z (Blk.to X (by kernel_rfl)) rfl rfl rfl rfl; have a0 := hI.cht Z; have aD := aC.pk1 hI a0; refine qZ [0, 57, 58] (f' := [(0, pX t), (57, iX T.other.h), (58, iX 0)]) <| qD (σ := Nat) (fun k => [(0, pX t), (57, iX T.other.h), (58, iX ((k : Nat) : Int))]) (fun k u => k ≤ T.other.h.toNat ∧ (TermAt u t (qfm ({ T with grid := T.other, other := T.grid, away := T.cursor, alt := b } : TS) k) (more F w u) ∧ Ch F w u)) (fun k => T.other.h.toNat - k) 0 rfl ?_ ?_
  ·exact ⟨Nat.zero_le _, (TermAt.eq' aD rfl), a0⟩
  intro k G aE bm aF; obtain ⟨hk, a1, I⟩ := aE; have aG := qC I hT (fun b hb => hI.hi b hb); have J : Lim W H (qfm ({ T with grid := T.other, other := T.grid, away := T.cursor, alt := b } : TS) k) := (qiv aB k)
  generalize a2 : (qfm ({ T with grid := T.other, other := T.grid, away := T.cursor, alt := b } : TS) k) = d at a1 J; have aH := J; have bo := aH.all; obtain ⟨aI, bp, bq, br, bs, bt, bu, bv, bw, bx, bz, bA, j⟩ := a1; obtain ⟨bB, aJ⟩ := j.g1.head; have bC : Df t aI := fun e => j.t1 (e ▸ j.g1.inF); refine yx 1 <| ys <| yc (rL ((k : Nat) : Int) T.other.h) (fun aK => ?_) fun aK => ?_
  ·refine yk <| ys <| qa <| yx 2 <| yD [13] fun aL bD n => ?_; have p := zt (Ch.refl (· = t) G) n eZ; have aM := qC n aG (fun _ h => h.elim); have K := j.blk.ch n id; have aN := aJ.ch n id; refine yd (uL 0 13) [] (.l (K.c 0) (.l (K.c 0) (.l (aN.c 0) .z))) ?_; have a3 := j.scalar (T' := d) p K rfl rfl rfl rfl; have L := Ch.on I p s; have bE := a3.pk2 p hI L; have q := a3.mono (F' := more F w aL) (fun b hb => hb.elim .inl (fun h2 => .inr ⟨h2.1, by have := zzs p; omega⟩)) (hI.moreOk L.size); refine yK 13 (yQ (qah _ _ _ (((k : Nat) : Int)) (0) (d.grid.w) qaR _ aM.tb q.g1) ?_); rintro a4 ⟨aP, M⟩; obtain ⟨a5, aQ⟩ := TermAt.next hA0 L (q.chF M) ⟨_, _, _, _, _, _, _, _, _, _, _, _, q.grid1 M aP (fun _ h => h)⟩; have bF := q.chF M; have a6 : Lim W H ({ d with grid := (qbk d.grid (((k : Nat) : Int)) (0) (d.grid.w) qaR) } : TS) := J.grid (qbO _ _ _ _ _); generalize aR : ({ d with grid := (qbk d.grid (((k : Nat) : Int)) (0) (d.grid.w) qaR) } : TS) = T115 at a5 a6; have aS := a6; have bG := aS.all; obtain ⟨aT, bH, bI, bJ, bK, bL, bM, bN, bO, bP, bQ, bR, r⟩ := a5; obtain ⟨bS, bT⟩ := r.g1.head; have bU : Df t aT := fun e => r.t1 (e ▸ r.g1.inF); refine q8 <| yDe (nB (nS ?_)); refine q7 <| yp 2 [] (.q6 (((k : Nat) : Int) + 1) .z) ?_; have a7 := Ch.on aQ (Ch.refl (· = t) a4) s; have aU := r.pk2 (Ch.refl (· = t) a4) hI a7; refine yE (fun a ha => aF (k + 1) _ ⟨(by omega), (TermAt.eq' aU (by subst aR; subst a2; rfl)), a7⟩ (by show T.other.h.toNat - (k + 1) < T.other.h.toNat - k; omega) a (ha.kp [0, 57, 58]))
  have aV : k = T.other.h.toNat := by omega
  refine qp (eS (qf (qb (qz ?_)))); have a8 := Ch.on I (Ch.refl (· = t) G) s; have aW := j.pk2 (Ch.refl (· = t) G) hI a8; subst a2; subst aV; refine ⟨rfl, TermAt.eq' aW ?_, a8⟩; exact (if_neg (by rw [m]; decide)).trans (if_pos E)
 refine qi (qz ?_); have aX := hI.swap (T' := ({ T with grid := T.other, other := T.grid, cursor := T.away, away := T.cursor, alt := b } : TS)) D (Blk.to S (by kernel_rfl)) rfl rfl rfl rfl; have a9 := hI.cht D; have aY := aX.pk1 hI a9; refine ⟨rfl, TermAt.eq' aY ?_, a9⟩; exact (if_neg (by rw [m]; decide)).trans (if_neg (by rw [E]; decide))
theorem qkd {w : World} {t : Nat} {W H : Int} {T : TS} {F : Nat → Prop} (hA0 : TermAt w t T F) (hT : LT w) (hL : Lim W H T) (n : Int) (b : Bool) : Calls Tryz.prog 86 [pX t, iX n, .bool b].toArray w fun e w' => e = .returned (.tuple #[]) ∧ TermAt w' t (qaB T n b) (more F w w') ∧ Ch F w w' := by
 have h := Sep.startT hA0; have hg := Gz.of hA0; have hM := hL; have i := hM.all; refine yA Tryz.func86 rfl <| yx 1 <| qa <| yx 2 <| yc (rE n 6) (fun c => ?_) fun c => ?_
 ·refine ysr <| yq 4 <| yo (zT 0 ({ T with origin := b } : TS) h fun u h => ?_); refine ye <| q7 <| yq 1 ?_; have d : Lim W H ({ T with origin := b } : TS) := { hL with  }
  refine yo (yQ (h.met 0 fun F hA hF => qbp hA (h.tb hg hT.tb) d  (1) (1) (by constructor <;> omega) (by constructor <;> omega)) fun u h => ?_); refine yE (nB (qz ?_)); refine h.tfin hg ?_; simp only [qaB, *, ↓reduceIte, Int.reduceEq, Int.reduceLT, Int.reduceLE, sB]
 refine yx 2 <| yc (rE n 7) (fun f => ?_) fun f => ?_
 ·refine ysr <| yq 4 <| yo (zT 0 ({ T with wrap := b } : TS) h fun u h => ?_); refine ye <| q7 <| yp 7 [] (.l (h.tc 0 4) .z) <| yw [27] (rY T.cursor.late) (fun a => ?_) fun a => ?_
  ·refine yq 12 <| yo (zT 0 ({ T with cursor := (Cur.mk T.cursor.x T.cursor.y b T.cursor.sty), wrap := b } : TS) h fun u h => ?_); refine yE (nB (qz ?_)); refine h.tfin hg ?_; simp only [qaB, *, ↓reduceIte, Int.reduceEq, Int.reduceLT, Int.reduceLE, sB]
  refine yq 12 <| yo (zT 0 ({ T with cursor := (Cur.mk T.cursor.x T.cursor.y false T.cursor.sty), wrap := b } : TS) h fun u h => ?_); refine yE (nB (qz ?_)); refine h.tfin hg ?_; simp only [qaB, *, ↓reduceIte, Int.reduceEq, Int.reduceLT, Int.reduceLE, sB]
 refine yx 2 <| yc (rE n 25) (fun a => ?_) fun a => ?_
 ·refine q7 <| yq 5 <| yo (zT 0 ({ T with hidden := (!b) } : TS) h fun u h => ?_); refine yE (nB (qz ?_)); refine h.tfin hg ?_; simp only [qaB, *, ↓reduceIte, Int.reduceEq, Int.reduceLT, Int.reduceLE, sB]
 refine yx 2 <| yc (rE n 1049) (fun g => ?_) fun g => ?_
 ·refine q7 <| yq 2 <| yo (yQ (h.met 0 fun F hA hF => turn_at hA (h.lt hg hT) hL  b) fun u h => ?_); refine yE (nB (qz ?_)); refine h.tfin hg ?_; simp only [qaB, *, ↓reduceIte, Int.reduceEq, Int.reduceLT, Int.reduceLE, sB]
 refine qi (nB (qz ?_)); refine h.tfin hg ?_; simp only [qaB, *, ↓reduceIte, Int.reduceEq, Int.reduceLT, Int.reduceLE, sB]
theorem qeN (l : List Int) (T : TS) (b : Bool) {k : Nat} (h : k < l.length) : (l.take (k + 1)).foldl (fun T n => qaB T n b) T = qaB ((l.take k).foldl (fun T n => qaB T n b) T) (l.getD k 0) b := by
 rw [List.take_succ_eq_append_getElem h, List.foldl_append]; simp [List.getD, List.getElem?_eq_getElem h]
theorem csi_at {w : World} {t : Nat} {W H : Int} {T : TS} {F : Nat → Prop} (hA0 : TermAt w t T F) (hT : LT w) (hL : Lim W H T) {ao : Option Nat} {an cc : Nat} {ac : Ac} (hV : IntsAt w .i64 ao an cc ac.params (fun b => ¬ F b ∧ b < w.heap.size)) (hV8 : an ≤ 8) (hVb : ∀ x ∈ ac.params, 0 ≤ x ∧ x ≤ 9999) : Calls Tryz.prog 64 [pX t, .agg #[iX ac.kind, rX ac.rune, uX ac.last, .string ac.marks, .slice (ao.map at0) an cc, .string ac.text]].toArray w fun e w' => e = .returned (.tuple #[]) ∧ TermAt w' t (qhF T ac) (more F w w') ∧ Ch F w w' := by
 have h := Sep.startT hA0; have hg := Gz.of hA0; have hM := hL; have Y := hM.all; have v : ac.params.length = an := hV.2.1; refine yA Tryz.func64 rfl <| ysr <| yo (zN [iX ac.kind, rX ac.rune, uX ac.last, .string ac.marks, .slice (ao.map at0) an cc, .string ac.text] 90 h fun u d h => ?_); refine ye <| qa <| ysr <| yp 4 [] (.l (h.c 1 3) .z) <| ye <| yc (rY ((ac.marks).toList == (ByteArray.empty).toList)) (fun g => ?_) fun g => ?_
 ·refine q7 <| yp 2 [] (.a (h.cs 1 0 6) .z) <| yo (yQ (h.met 0 fun F hA hF => plain_at hA (h.lt hg hT) hL  (h.intsF hV hF) hV8 hVb) fun u h => ?_); refine yE (nB (qz ?_)); refine h.tfin hg ?_; simp only [qhF, *, ↓reduceIte, Int.reduceEq, Int.reduceLT, Int.reduceLE, sB]
 refine ysr <| yp 4 [] (.l (h.c 1 3) .z) <| yw [17] (rY ((ac.marks).toList == ((⟨#[63]⟩ : ByteArray)).toList)) (fun j => ?_) fun j => ?_
 ·refine yp 8 [] (.l (h.c 1 2) .z) <| yw [21] (rE ac.last 104) (fun m => ?_) fun m => ?_
  ·refine yz 14 <| yct <| ysr <| yp 4 [] (.l (h.c 1 4) .z) <| ye <| qa ?_; rcases ao with _ | ab
   ·have p : ac.params = [] := by have := hV.1.1 rfl; simpa using this
    have D : an = 0 := by have := hV.2.1; rw [p] at this; exact this.symm
    refine qZ [0, 3, 28, 29, 30] (f' := [(0, pX t), (3, pX d), (28, .slice none an cc), (29, iX ((an : Nat) : Int)), (30, iX 0)]) <| qD (σ := Nat) (fun k => [(0, pX t), (3, pX d), (28, .slice none an cc), (29, iX ((an : Nat) : Int)), (30, iX ((k : Nat) : Int))]) (fun k u => k ≤ an ∧ Sep w F u [qb9 t ((ac.params.take k).foldl (fun T n => qaB T n ((ac.last : Int) == 104)) T), qbN d [iX ac.kind, rX ac.rune, uX ac.last, .string ac.marks, .slice none an cc, .string ac.text] 90]) (fun k => an - k) 0 rfl ?_ ?_
    ·exact ⟨Nat.zero_le _, h.cuts 2 rfl rfl⟩
    intro k u E Z a0; obtain ⟨hk, h⟩ := E; have y : Lim W H ((ac.params.take k).foldl (fun T n => qaB T n ((ac.last : Int) == 104)) T) := (qc0 hL _ _)
    generalize G : ((ac.params.take k).foldl (fun T n => qaB T n ((ac.last : Int) == 104)) T) = T18 at h y; have I := y; have a1 := I.all; refine yx 1 <| ys <| yc (rL ((k : Nat) : Int) ((an : Nat) : Int)) (fun J => ?_) fun J => ?_
    ·exfalso; omega
    have f : k = ac.params.length := by omega
    refine qp (eS (qf (qb (nB (qz ?_))))); subst G; subst f; refine h.tfin hg ?_; simp only [qhF, List.take_length, g, j, m, ↓reduceIte, Int.reduceEq, Bool.false_eq_true, and_true, true_and, or_true, true_or, or_false, false_or]
   have v : ac.params.length = an := hV.2.1; refine qZ [0, 3, 28, 29, 30] (f' := [(0, pX t), (3, pX d), (28, .slice (some ⟨ab, 0, none⟩) an cc), (29, iX ((an : Nat) : Int)), (30, iX 0)]) <| qD (σ := Nat) (fun k => [(0, pX t), (3, pX d), (28, .slice (some ⟨ab, 0, none⟩) an cc), (29, iX ((an : Nat) : Int)), (30, iX ((k : Nat) : Int))]) (fun k u => k ≤ an ∧ Sep w F u [qb9 t ((ac.params.take k).foldl (fun T n => qaB T n ((ac.last : Int) == 104)) T), qbN d [iX ac.kind, rX ac.rune, uX ac.last, .string ac.marks, .slice (some ⟨ab, 0, none⟩) an cc, .string ac.text] 90]) (fun k => an - k) 0 rfl ?_ ?_
   ·exact ⟨Nat.zero_le _, h.cuts 2 rfl rfl⟩
   intro k u K a2 L; obtain ⟨hk, h⟩ := K; have q : Lim W H ((ac.params.take k).foldl (fun T n => qaB T n ((ac.last : Int) == 104)) T) := (qc0 hL _ _)
   generalize A : ((ac.params.take k).foldl (fun T n => qaB T n ((ac.last : Int) == 104)) T) = T24 at h q; have M := q; have a3 := M.all; refine yx 1 <| ys <| yc (rL ((k : Nat) : Int) ((an : Nat) : Int)) (fun N => ?_) fun N => ?_
   ·refine yk <| ys <| qa <| ysr <| yp 3 [] (.i ((k : Nat) : Int) (an) (.l (o := (0 + (((k : Nat) : Int)).toNat * 1)) (qb6 (h.ints hV).1 k (by omega)) .z)) <| ye <| q7 <| yp 5 [] (.l (h.c 1 2) .z) <| yo (yQ (h.met 0 fun F hA hF => qkd hA (h.lt hg hT) q  ((ac.params.getD k 0)) ((ac.last : Int) == 104)) fun u h => ?_); refine yE (nB (nS ?_)); refine q7 <| yp 2 [] (.q6 (((k : Nat) : Int) + 1) .z) <| yE (fun a ha => L (k + 1) _ ⟨(by omega), h.cuts 2 rfl (by subst A; exact qeN _ _ _ (by omega))⟩ (by show an - (k + 1) < an - k; omega) a (ha.kp [0, 3, 28, 29, 30]))
   have f : k = ac.params.length := by omega
   refine qp (eS (qf (qb (nB (qz ?_))))); subst A; subst f; refine h.tfin hg ?_; simp only [qhF, List.take_length, g, j, m, ↓reduceIte, Int.reduceEq, Bool.false_eq_true, and_true, true_and, or_true, true_or, or_false, false_or]
  refine yp 14 [] (.l (h.c 1 2) .z) <| ye <| yc (rE ac.last 108) (fun r => ?_) fun r => ?_
  ·refine ysr <| yp 4 [] (.l (h.c 1 4) .z) <| ye <| qa ?_; rcases ao with _ | ab
   ·have p : ac.params = [] := by have := hV.1.1 rfl; simpa using this
    have D : an = 0 := by have := hV.2.1; rw [p] at this; exact this.symm
    refine qZ [0, 3, 28, 29, 30] (f' := [(0, pX t), (3, pX d), (28, .slice none an cc), (29, iX ((an : Nat) : Int)), (30, iX 0)]) <| qD (σ := Nat) (fun k => [(0, pX t), (3, pX d), (28, .slice none an cc), (29, iX ((an : Nat) : Int)), (30, iX ((k : Nat) : Int))]) (fun k u => k ≤ an ∧ Sep w F u [qb9 t ((ac.params.take k).foldl (fun T n => qaB T n ((ac.last : Int) == 104)) T), qbN d [iX ac.kind, rX ac.rune, uX ac.last, .string ac.marks, .slice none an cc, .string ac.text] 90]) (fun k => an - k) 0 rfl ?_ ?_
    ·exact ⟨Nat.zero_le _, h.cuts 2 rfl rfl⟩
    intro k u O a4 a5; obtain ⟨hk, h⟩ := O; have B : Lim W H ((ac.params.take k).foldl (fun T n => qaB T n ((ac.last : Int) == 104)) T) := (qc0 hL _ _)
    generalize P : ((ac.params.take k).foldl (fun T n => qaB T n ((ac.last : Int) == 104)) T) = T31 at h B; have Q := B; have a6 := Q.all; refine yx 1 <| ys <| yc (rL ((k : Nat) : Int) ((an : Nat) : Int)) (fun R => ?_) fun R => ?_
    ·exfalso; omega
    have f : k = ac.params.length := by omega
    refine qp (eS (qf (qb (nB (qz ?_))))); subst P; subst f; refine h.tfin hg ?_; simp only [qhF, List.take_length, g, j, m, r, ↓reduceIte, Int.reduceEq, Bool.false_eq_true, and_true, true_and, or_true, true_or, or_false, false_or]
   have v : ac.params.length = an := hV.2.1; refine qZ [0, 3, 28, 29, 30] (f' := [(0, pX t), (3, pX d), (28, .slice (some ⟨ab, 0, none⟩) an cc), (29, iX ((an : Nat) : Int)), (30, iX 0)]) <| qD (σ := Nat) (fun k => [(0, pX t), (3, pX d), (28, .slice (some ⟨ab, 0, none⟩) an cc), (29, iX ((an : Nat) : Int)), (30, iX ((k : Nat) : Int))]) (fun k u => k ≤ an ∧ Sep w F u [qb9 t ((ac.params.take k).foldl (fun T n => qaB T n ((ac.last : Int) == 104)) T), qbN d [iX ac.kind, rX ac.rune, uX ac.last, .string ac.marks, .slice (some ⟨ab, 0, none⟩) an cc, .string ac.text] 90]) (fun k => an - k) 0 rfl ?_ ?_
   ·exact ⟨Nat.zero_le _, h.cuts 2 rfl rfl⟩
   intro k u S a7 U; obtain ⟨hk, h⟩ := S; have s : Lim W H ((ac.params.take k).foldl (fun T n => qaB T n ((ac.last : Int) == 104)) T) := (qc0 hL _ _)
   generalize C : ((ac.params.take k).foldl (fun T n => qaB T n ((ac.last : Int) == 104)) T) = T37 at h s; have V := s; have a8 := V.all; refine yx 1 <| ys <| yc (rL ((k : Nat) : Int) ((an : Nat) : Int)) (fun X => ?_) fun X => ?_
   ·refine yk <| ys <| qa <| ysr <| yp 3 [] (.i ((k : Nat) : Int) (an) (.l (o := (0 + (((k : Nat) : Int)).toNat * 1)) (qb6 (h.ints hV).1 k (by omega)) .z)) <| ye <| q7 <| yp 5 [] (.l (h.c 1 2) .z) <| yo (yQ (h.met 0 fun F hA hF => qkd hA (h.lt hg hT) s  ((ac.params.getD k 0)) ((ac.last : Int) == 104)) fun u h => ?_); refine yE (nB (nS ?_)); refine q7 <| yp 2 [] (.q6 (((k : Nat) : Int) + 1) .z) <| yE (fun a ha => U (k + 1) _ ⟨(by omega), h.cuts 2 rfl (by subst C; exact qeN _ _ _ (by omega))⟩ (by show an - (k + 1) < an - k; omega) a (ha.kp [0, 3, 28, 29, 30]))
   have f : k = ac.params.length := by omega
   refine qp (eS (qf (qb (nB (qz ?_))))); subst C; subst f; refine h.tfin hg ?_; simp only [qhF, List.take_length, g, j, m, r, ↓reduceIte, Int.reduceEq, Bool.false_eq_true, and_true, true_and, or_true, true_or, or_false, false_or]
  refine qi (nB (qz ?_)); refine h.tfin hg ?_; simp only [qhF, *, ↓reduceIte, Int.reduceEq, Int.reduceLT, Int.reduceLE, sB]
 refine yz 14 <| ycf <| qi (nB (qz ?_)); refine h.tfin hg ?_; simp only [qhF, *, ↓reduceIte, Int.reduceEq, Int.reduceLT, Int.reduceLE, sB]
def TS.valsG (t : TS) (v0 v1 bk ps : Value) : List Value := v0 :: v1 :: (t.vals 0 0 bk ps).drop 2
theorem valsG_eq (t : TS) (g o : Nat) (bk ps : Value) : t.valsG (.pointer (some ⟨g, 0, none⟩)) (.pointer (some ⟨o, 0, none⟩)) bk ps = t.vals g o bk ps := by kernel_rfl
def qdl (T : TS) (G : Gr) (b : Int) (k : Nat) : TS :=
 {grid := G, other := G, cursor := cur0, saved := cur0, away := cur0, top := 0, bot := b, tabs := qh1 k, wrap := true, origin := false, insert := false, hidden := false, draw0 := false, draw1 := false, shift := false, alt := false, title := ByteArray.empty, back := [], parser := T.parser, reply := T.reply }
def qhG (T : TS) (G : Gr) : TS :=
 {grid := G, other := G, cursor := cur0, saved := cur0, away := cur0, top := 0, bot := 0, tabs := fun _ => false, wrap := true, origin := false, insert := false, hidden := false, draw0 := false, draw1 := false, shift := false, alt := false, title := ByteArray.empty, back := [], parser := T.parser, reply := T.reply }
theorem tabs0_0 : qh1 0 = fun _ => false := by
 funext i
 unfold qh1
 exact decide_eq_false (by omega)
theorem qiy (k : Nat) : qh1 (k + 1) = fun i => if i = (8 + 8 * ((k : Nat) : Int)).toNat then true else qh1 k i := by
 funext i
 unfold qh1
 by_cases h : i = (8 + 8 * ((k : Nat) : Int)).toNat
 ·rw [if_pos h]; exact decide_eq_true (by omega)
 ·rw [if_neg h]
  by_cases h2 : i % 8 = 0 ∧ 8 ≤ i ∧ i < 8 + 8 * k
  ·rw [decide_eq_true h2]; exact decide_eq_true (by omega)
  ·rw [decide_eq_false h2]; exact decide_eq_false (by omega)
theorem qiz (T : TS) (p1 p2 b : Int) (k : Nat) (hr : T.reply.size ≤ 400) (hb : b = qd p2) : Lim (qd p1) (qd p2) (qdl T (qbS p1 p2) b k) := by
 subst hb
 exact (qcJ T p1 p2 hr).flags rfl rfl rfl rfl rfl rfl rfl rfl rfl
def PsAt (w : World) (t : Nat) (pa : Option Addr) (pn pc : Nat) (l : List Int) (FP : Nat → Prop) : Prop :=
 (Rd w pa (l.map (Value.int .i64)) ∧ l.length = pn ∧ (pa = none → pc = 0) ∧ ∀ ad, pa = some ad → FP ad.block) ∧ (∃ po : Option Nat, pa = po.map at0) ∧ ∀ b, FP b → b < w.heap.size ∧ gTop ≤ b ∧ b ≠ t
theorem start_in {w w1 w2 : World} {t g o : Nat} {pa : Option Addr} {pn pc : Nat} {T T0 : TS} {F1 F2 FP F : Nat → Prop} {G : Gr} (hP : PsAt w t pa pn pc T.parser.params FP) (ht : t < w.heap.size) (ht7 : gTop ≤ t) (hp : T0.parser.params = T.parser.params) (hk : T0.back = []) (hg : T0.grid = G) (ho : T0.other = G)
  (c1 : Ch (fun j => j = t) w w1) (s1 : ∀ b, F1 b → w.heap.size ≤ b ∧ b < w2.heap.size) (s2 : ∀ b, F2 b → w2.heap.size ≤ b) (c12 : w.heap.size ≤ w2.heap.size)
  (h1 : GridAt w1 g G F1) (h2 : GridAt w1 o G F2) (hb : Blk w1 t (T0.vals g o (.slice none 0 0) (.slice pa pn pc)) qbc) (hF : F = fun b => b = t ∨ FP b ∨ (w.heap.size ≤ b ∧ b < w1.heap.size)) :
  TermIn w1 t g o none 0 0 pa pn pc T0 F F1 F2 (fun _ => False) FP := by
 obtain ⟨hP, hz, hf⟩ := hP
 subst hF
 exact
 {blk := hb
  g1 := by rw [hg]; exact h1
  g2 := by rw [ho]; exact h2
  bk := ⟨[], ⟨Rd.nil _ _, rfl, (fun x hx => by cases hx), (fun x hx => by cases hx), (fun ad e => by cases e), (fun b hb => hb.elim), fun b hb => hb.elim⟩, hk.symm⟩
  bcap := ⟨Nat.le_refl _, fun _ => rfl⟩
  ps := by rw [hp]; exact ⟨hP.1.ch c1 fun ad e e2 => (hf _ (hP.2.2.2 ad e)).2.2 e2, hP.2⟩
  pz := hz
  bz := .inl rfl
  t1 := fun h => by have := (s1 t h).1; omega
  t2 := fun h => by have := s2 t h; omega
  tB := fun h => h
  tP := fun h => (hf t h).2.2 rfl
  a12 := fun b x y => by have := s1 b x; have := s2 b y; omega
  a1B := fun b _ h => h
  a2B := fun b _ h => h
  a1P := fun b x y => by have := s1 b x; have := hf b y; omega
  a2P := fun b x y => by have := s2 b x; have := hf b y; omega
  inF := ⟨.inl rfl, fun b h => .inr (.inr ⟨(s1 b h).1, h1.lt b h⟩), fun b h => .inr (.inr ⟨by have := s2 b h; omega, h2.lt b h⟩), fun b h => h.elim, fun b h => .inr (.inl h)⟩
  lt := fun b h => h.elim (fun h => h ▸ hb.lt) fun h => h.elim (fun h => by have := hf b h; have := c1.size; omega) fun h => h.2
  hi := fun b h => h.elim (fun h => h ▸ ht7) fun h => h.elim (fun h => (hf b h).2.1) fun h => by omega }
theorem qgi {w : World} {t : Nat} {v0 v1 bk : Value} {pa : Option Addr} {pn pc : Nat} {T : TS} {FP : Nat → Prop} (hB0 : Blk w t (T.valsG v0 v1 bk (.slice pa pn pc)) qbc) (hP : PsAt w t pa pn pc T.parser.params FP) (ht7 : gTop ≤ t) (hT : LT w) (hr : T.reply.size ≤ 400) (p1 p2 : Int) : Calls Tryz.prog 32 [pX t, iX p1, iX p2].toArray w fun e w' =>
 e = .returned (.tuple #[]) ∧ TermAt w' t (startT T p1 p2) (fun b => b = t ∨ FP b ∨ (w.heap.size ≤ b ∧ b < w'.heap.size)) ∧ Ch (fun b => b = t ∨ FP b) w w' := by
 have ht := hB0.lt; have aC : 1 ≤ qd p1 ∧ qd p1 ≤ 60 := by unfold qd; omega
 have aD : 1 ≤ qd p2 ∧ qd p2 ≤ 60 := by unfold qd; omega
 refine yA Tryz.func32 rfl <| ys <| yDC [17] fun aE aF s => ?_; have v := zt (Ch.refl (· = t) w) s eZ; have x := hB0.ch s id; have J := qC s hT (fun _ h => h.elim); refine ydC [0, 1, 2, 4, 5, 7, 8, 9, 10, 11, 12, 13, 14] [] (fun u hu => (.a (qas hu (x.cs 98 9) id) (.l (qm hu (x.c 107) id) .z))) <| yH 3 (yC (qdJ p1 p2 _ J.tb (by have := ht; have := zzs v; omega)) ?_); rintro _ K ⟨m, y, rfl, L, a1, o⟩; refine ⟨_, rfl, ?_⟩; have M : ∀ b, y b → w.heap.size ≤ b := fun b hb => Nat.le_trans (zzs v) (a1 b hb); have p := zt v o eZ; have a2 := x.ch o id; have a3 := qC o J (fun _ h => h.elim); refine qar o ?_; have a4 := L.lt; have a5 := zzs p; refine yH 6 (yC (qdJ p1 p2 _ a3.tb (by have := ht; have := zzs p; omega)) ?_); rintro _ aG ⟨A, N, rfl, a6, O, q⟩; refine ⟨_, rfl, ?_⟩; have a7 : ∀ b, N b → w.heap.size ≤ b := fun b hb => Nat.le_trans (zzs p) (O b hb); have a8 := zt p q eZ; have a9 := a2.ch q id; have aa := L.ch q iZ; refine qar q <| ydC [15, 16] [] (fun u hu => .z) <| yK 17 (qa3 0 [pX m, pX A, iX 0, iX 0, .bool false, .bool false, .bool false, .bool false, iX 0, iX 0, iX 0, iX 0, .bool false, .bool false, .bool false, .bool false, iX 0, iX 0, iX 0, iX 0, .bool false, .bool false, .bool false, .bool false, iX 0, iX 0, iX 0, iX 0, .bool false, .bool false, .bool false, .bool false, .bool false, .bool false, .bool false, .bool false, .bool false, .bool false, .bool false, .bool false, .bool false, .bool false, .bool false, .bool false, .bool false, .bool false, .bool false, .bool false, .bool false, .bool false, .bool false, .bool false, .bool false, .bool false, .bool false, .bool false, .bool false, .bool false, .bool false, .bool false, .bool false, .bool false, .bool false, .bool false, .bool false, .bool false, .bool false, .bool false, .bool false, .bool false, .bool false, .bool false, .bool false, .bool false, .bool false, .bool false, .bool false, .bool false, .bool false, .bool false, .bool false, .bool false, .bool false, .bool false, .bool false, .bool false, .bool false, .bool false, .bool true, .bool false, .bool false, .bool false, .bool false, .bool false, .bool false, .bool false, oX, nX, iX T.parser.state, uX T.parser.utf.b0, uX T.parser.utf.b1, uX T.parser.utf.b2, iX T.parser.utf.n, .string T.parser.marks, .slice pa pn pc, .string T.parser.text, iX T.parser.within, .string T.reply] none (by kernel_rfl) a9 (qbh (by kernel_rfl)) ?_)
 intro d g B; replace g : Blk d t (TS.vals (qhG T (qbS p1 p2)) m A (nX) (.slice pa pn pc)) qbc := Blk.to g (by kernel_rfl); have P := zt a8 B (fun i hi (h : i = t) => h); have ab := aa.ch B (fun b hb (h : b = t) => by have := M b hb; omega); have ac := a6.ch B (fun b hb (h : b = t) => by have := a7 b hb; omega); obtain ⟨F, C⟩ : ∃ F : Nat → Prop, F = fun b => b = t ∨ FP b ∨ (w.heap.size ≤ b ∧ b < d.heap.size) := ⟨_, rfl⟩
 have ad : ∀ b, y b → w.heap.size ≤ b ∧ b < K.heap.size := fun b hb => ⟨M b hb, a4 b hb⟩
 have hI : TermIn d t m A none 0 0 pa pn pc (qhG T (qbS p1 p2)) F y N (fun _ => False) FP := start_in (T := T) (w2 := K) hP ht ht7 rfl rfl rfl rfl P ad O a5 ab ac g C; have Q : F t := hI.inF.1; have aH : TermAt d t (qhG T (qbS p1 p2)) F := ⟨_, _, _, _, _, _, _, _, _, _, _, _, hI⟩
 have D := P; have aI := hI.blk.lt; obtain ⟨W, hW⟩ : ∃ W, W = qd p1 := ⟨_, rfl⟩
 obtain ⟨H, hH⟩ : ∃ H, H = qd p2 := ⟨_, rfl⟩
 obtain ⟨aJ, ae⟩ := hI.g1.head; have aK : Df t m := fun e => hI.t1 (e ▸ hI.g1.inF); refine q8 <| yDe (nS ?_); refine ysr <| yp 10 [] (.l (g.c 0) (.l (ae.c 1) .z)) <| yo (yS g fun aL af ag => ?_); have R := zt (Ch.refl (· = t) d) ag (fun i hi (h : i = t) => h); refine ye <| yx 1 <| qa ?_; have ah := hI.scalar (T' := ({ (qhG T (qbS p1 p2)) with bot := (qbS p1 p2).h } : TS)) R (Blk.to af (by kernel_rfl)) rfl rfl rfl rfl; have S := hI.cht R; have ai := ah.pk1 hI S; refine qZ [0, 6] (f' := [(0, pX t), (6, iX 8)]) <| qD (σ := Nat) (fun k => [(0, pX t), (6, iX (8 + 8 * ((k : Nat) : Int)))]) (fun k u => k ≤ 7 ∧ (TermAt u t (qdl T (qbS p1 p2) H k) (more F d u) ∧ Ch F d u)) (fun k => 7 - k) 0 rfl ?_ ?_
 ·exact ⟨(by omega), (TermAt.eq' ai (by subst hH; show qdl T (qbS p1 p2) (qd p2) 0 = _; unfold qdl; rw [tabs0_0]; rfl)), S⟩
 intro k E aj aM ak; obtain ⟨hk, U, V⟩ := aj; have X : Lim W H (qdl T (qbS p1 p2) H k) := (hW ▸ hH ▸ qiz T p1 p2 (qd p2) k hr rfl)
 generalize Y : (qdl T (qbS p1 p2) H k) = j at U X; have al := X; have aN := al.all; obtain ⟨Z, am, an, ao, ap, aq, ar, au, aO, aP, aQ, aR, f⟩ := U; obtain ⟨aS, aT⟩ := f.g1.head; have aU : Df t Z := fun e => f.t1 (e ▸ f.g1.inF); refine ys <| yx 2 <| yc (rL (8 + 8 * ((k : Nat) : Int)) 60) (fun av => ?_) fun av => ?_
 ·refine yk <| ys <| qa <| q7 <| yp 5 [] (.i (8 + 8 * ((k : Nat) : Int)) (60) .z) <| yo (qa3 (28 + ((8 + 8 * ((k : Nat) : Int)) : Int).toNat * 1) [.bool true] none (by kernel_rfl) f.blk (by rw [qbB]; simp only [List.length_cons, List.length_nil]; omega) ?_); intro aw G ax; replace G : Blk aw t (TS.vals ({ j with tabs := (fun i => if i = ((8 + 8 * ((k : Nat) : Int)) : Int).toNat then true else j.tabs i) } : TS) Z am (.slice an ao ap) (.slice aq ar au)) qbc := Blk.to G (qff j _ _ _ _ _ (by omega) _); have I := zt (Ch.refl (· = t) E) ax (fun i hi (h : i = t) => h); refine yE (nB (nS ?_)); refine q7 <| yp 3 [] (.q6 ((8 + 8 * ((k : Nat) : Int)) + 8) .z) ?_; have ay := f.scalar (T' := ({ j with tabs := (fun i => if i = ((8 + 8 * ((k : Nat) : Int)) : Int).toNat then true else j.tabs i) } : TS)) I G rfl rfl rfl rfl; have a0 := Ch.on V I Q; have az := ay.pk2 I hI a0; refine yE (fun a ha => ak (k + 1) _ ⟨(by omega), (TermAt.eq' az (by subst Y; show qdl T (qbS p1 p2) H (k + 1) = _; unfold qdl; rw [qiy])), a0⟩ (by show 7 - (k + 1) < 7 - k; omega) a (by rw [show (8 + 8 * ((k + 1 : Nat) : Int)) = (8 + 8 * ((k : Nat) : Int)) + 8 by omega]; exact ha.kp [0, 6]))
 have aA : k = 7 := by omega
 refine qp (eS (qf (qb (qz ?_)))); have r := Ch.on V (Ch.refl (· = t) E) Q; have aB := f.pk2 (Ch.refl (· = t) E) hI r; subst Y; subst aA hH hW; refine ⟨rfl, TermAt.mono aB (fun b hb => ?_) (fun b hb => ?_), ?_⟩
 ·rcases hb with hb | hb
  ·rw [C] at hb; exact hb.imp id fun h => h.imp id fun h => ⟨h.1, by have := zzs r; omega⟩
  exact .inr (.inr ⟨by have := zzs D; omega, hb.2⟩)
 ·have hz := zzs r; have aV := zzs D; rcases hb with rfl | hb | hb
  ·exact ⟨by omega, ht7⟩
  ·have := hP.2.2 b hb; exact ⟨by omega, this.2.1⟩
  exact ⟨hb.2, by omega⟩
 refine zt (D.mono fun i _ h => .inl h) r fun i hi h => ?_; rw [C] at h; exact h.imp id fun h => h.elim id fun h => by omega
theorem qhH {s u : ByteArray} (h : (s.toList == u.toList) = true) : s = u := by
 have h1 := eq_of_beq h
 rw [Go.ByteArray.toList_eq, Go.ByteArray.toList_eq] at h1
 obtain ⟨⟨a⟩⟩ := s
 obtain ⟨⟨b⟩⟩ := u
 have : a = b := h1
 rw [this]
theorem mark40 {s : ByteArray} (h : (s.toList == (⟨#[40]⟩ : ByteArray).toList) = true) : s.size = 1 ∧ bt s 0 = 40 := by
 rw [qhH h]; exact ⟨rfl, rfl⟩
theorem mark41 {s : ByteArray} (h : (s.toList == (⟨#[41]⟩ : ByteArray).toList) = true) : s.size = 1 ∧ bt s 0 = 41 := by
 rw [qhH h]; exact ⟨rfl, rfl⟩
theorem start_at {w : World} {t : Nat} {W H : Int} {T : TS} {F : Nat → Prop} (hA : TermAt w t T F) (hT : LT w) (hL : Lim W H T) (p1 p2 : Int) :
  Calls Tryz.prog 32 [.pointer (some ⟨t, 0, none⟩), .int .i64 p1, .int .i64 p2].toArray w fun e w' => e = .returned (.tuple #[]) ∧ TermAt w' t (startT T p1 p2) (more F w w') ∧ Ch F w w' := by
 obtain ⟨g, o, ba, bn, bc, pa, pn, pc, F1, F2, FB, FP, hI⟩ := hA
 have hB : Blk w t (T.valsG (.pointer (some ⟨g, 0, none⟩)) (.pointer (some ⟨o, 0, none⟩)) (.slice ba bn bc) (.slice pa pn pc)) qbc := by rw [valsG_eq]; exact hI.blk
 have hF : ∀ b, (b = t ∨ FP b) → F b := fun b h => h.elim (fun h => h ▸ hI.inF.1) (hI.inF.2.2.2.2 b)
 refine (qgi hB ⟨hI.ps, hI.pz, fun b hb => ⟨hI.lt b (hF b (.inr hb)), hI.hi b (hF b (.inr hb)), fun e => hI.tP (e ▸ hb)⟩⟩ (hI.hi t hI.inF.1) hT hL.rp p1 p2).mono fun e w' ⟨he, hA', hc⟩ => ⟨he, hA'.mono (fun b hb => ?_) (hI.moreOk hc.size), hc.mono fun b _ h => hF b h⟩
 rcases hb with hb | hb | hb
 ·exact .inl (hF b (.inl hb))
 ·exact .inl (hF b (.inr hb))
 ·exact .inr hb
theorem up_lim {w : World} {t : Nat} {W H : Int} {T : TS} {F : Nat → Prop} (hA : TermAt w t T F) (hT : qO w) (hL : Lim W H T) : Calls Tryz.prog 84 [pX t].toArray w fun e w' => e = .returned (.tuple #[]) ∧ TermAt w' t (upT T) (more F w w') ∧ Ch F w w' :=
  up_at hA hT (by have := hL.cu; have := hL.hb; omega)
theorem esc_at {w : World} {t : Nat} {W H : Int} {T : TS} {F : Nat → Prop} (hA0 : TermAt w t T F) (hT : LT w) (hL : Lim W H T) {ao : Option Nat} {an cc : Nat} {ac : Ac} (hV : IntsAt w .i64 ao an cc ac.params (fun b => ¬ F b ∧ b < w.heap.size)) (hV8 : an ≤ 8) (hVb : ∀ x ∈ ac.params, 0 ≤ x ∧ x ≤ 9999) : Calls Tryz.prog 63 [pX t, .agg #[iX ac.kind, rX ac.rune, uX ac.last, .string ac.marks, .slice (ao.map at0) an cc, .string ac.text]].toArray w fun e w' => e = .returned (.tuple #[]) ∧ TermAt w' t (qeK T ac) (more F w w') ∧ Ch F w w' := by
 have h := Sep.startT hA0; have hg := Gz.of hA0; have hM := hL; have P := hM.all; refine yA Tryz.func63 rfl <| ysr <| yo (zN [iX ac.kind, rX ac.rune, uX ac.last, .string ac.marks, .slice (ao.map at0) an cc, .string ac.text] 90 h fun u Q h => ?_); refine ye <| ys <| ysr <| yp 4 [] (.l (h.c 1 3) .z) <| yw [7] (rY ((ac.marks).toList == ((⟨#[40]⟩ : ByteArray)).toList)) (fun f => ?_) fun f => ?_
 ·have r := f; obtain ⟨s, v⟩ := mark40 f; refine yz 8 <| yct <| ys <| ysr <| yp 4 [] (.l (h.c 1 2) .z) <| yw [15] (rE ac.last 48) (fun j => ?_) fun j => ?_
  ·refine yz 8 <| yct <| zD [11] h fun u h => yd (uL 0 11) [4] (.l (h.c 1 3) (.i 0 ((ac.marks).size) (.p (q := InR .u8 ((bt ac.marks 0) - 40)) (in8 (by omega) (by omega)) (.l (h.c 1 2) (.i ((bt ac.marks 0) - 40) (2) .z))))) ?_; have hz : (((bt ac.marks 0) - 40) : Int).toNat = 0 := by omega
   refine yK 11 (zTi 0 ({ T with draw0 := ((ac.last : Int) == 48) } : TS) (92 + (((bt ac.marks 0) - 40) : Int).toNat * 1) [.bool ((ac.last : Int) == 48)] h (fun _ _ _ _ => by rw [hz]; kernel_rfl) fun u h => ?_); refine q8 <| yDe (nS ?_); refine q9 (rS (yR0 ?_)); refine h.tfin hg ?_; simp only [qeK, qam, *, ↓reduceIte, Int.reduceEq, Int.reduceLT, Int.reduceLE, sB]
  refine yp 8 [] (.l (h.c 1 2) .z) <| ye <| yc (rE ac.last 66) (fun d => ?_) fun d => ?_
  ·refine zD [11] h fun u h => yd (uL 0 11) [4] (.l (h.c 1 3) (.i 0 ((ac.marks).size) (.p (q := InR .u8 ((bt ac.marks 0) - 40)) (in8 (by omega) (by omega)) (.l (h.c 1 2) (.i ((bt ac.marks 0) - 40) (2) .z))))) ?_; have hz : (((bt ac.marks 0) - 40) : Int).toNat = 0 := by omega
   refine yK 11 (zTi 0 ({ T with draw0 := ((ac.last : Int) == 48) } : TS) (92 + (((bt ac.marks 0) - 40) : Int).toNat * 1) [.bool ((ac.last : Int) == 48)] h (fun _ _ _ _ => by rw [hz]; kernel_rfl) fun u h => ?_); refine q8 <| yDe (nS ?_); refine q9 (rS (yR0 ?_)); refine h.tfin hg ?_; simp only [qeK, qam, *, ↓reduceIte, Int.reduceEq, Int.reduceLT, Int.reduceLE, sB]
  refine yk <| q9 (rS (yR0 ?_)); refine h.tfin hg ?_; simp only [qeK, qam, *, ↓reduceIte, Int.reduceEq, Int.reduceLT, Int.reduceLE, sB]
 have r := f; refine yp 8 [] (.l (h.c 1 3) .z) <| ye <| yc (rY ((ac.marks).toList == ((⟨#[41]⟩ : ByteArray)).toList)) (fun g => ?_) fun g => ?_
 ·have j := g; obtain ⟨s, v⟩ := mark41 g; refine ys <| ysr <| yp 4 [] (.l (h.c 1 2) .z) <| yw [15] (rE ac.last 48) (fun d => ?_) fun d => ?_
  ·refine yz 8 <| yct <| zD [11] h fun u h => yd (uL 0 11) [4] (.l (h.c 1 3) (.i 0 ((ac.marks).size) (.p (q := InR .u8 ((bt ac.marks 0) - 40)) (in8 (by omega) (by omega)) (.l (h.c 1 2) (.i ((bt ac.marks 0) - 40) (2) .z))))) ?_; have hz : (((bt ac.marks 0) - 40) : Int).toNat = 1 := by omega
   refine yK 11 (zTi 0 ({ T with draw1 := ((ac.last : Int) == 48) } : TS) (92 + (((bt ac.marks 0) - 40) : Int).toNat * 1) [.bool ((ac.last : Int) == 48)] h (fun _ _ _ _ => by rw [hz]; kernel_rfl) fun u h => ?_); refine q8 <| yDe (nS ?_); refine q9 (rS (yR0 ?_)); refine h.tfin hg ?_; simp only [qeK, qam, *, ↓reduceIte, Int.reduceEq, Int.reduceLT, Int.reduceLE, sB]
  refine yp 8 [] (.l (h.c 1 2) .z) <| ye <| yc (rE ac.last 66) (fun k => ?_) fun k => ?_
  ·refine zD [11] h fun u h => yd (uL 0 11) [4] (.l (h.c 1 3) (.i 0 ((ac.marks).size) (.p (q := InR .u8 ((bt ac.marks 0) - 40)) (in8 (by omega) (by omega)) (.l (h.c 1 2) (.i ((bt ac.marks 0) - 40) (2) .z))))) ?_; have hz : (((bt ac.marks 0) - 40) : Int).toNat = 1 := by omega
   refine yK 11 (zTi 0 ({ T with draw1 := ((ac.last : Int) == 48) } : TS) (92 + (((bt ac.marks 0) - 40) : Int).toNat * 1) [.bool ((ac.last : Int) == 48)] h (fun _ _ _ _ => by rw [hz]; kernel_rfl) fun u h => ?_); refine q8 <| yDe (nS ?_); refine q9 (rS (yR0 ?_)); refine h.tfin hg ?_; simp only [qeK, qam, *, ↓reduceIte, Int.reduceEq, Int.reduceLT, Int.reduceLE, sB]
  refine yk <| q9 (rS (yR0 ?_)); refine h.tfin hg ?_; simp only [qeK, qam, *, ↓reduceIte, Int.reduceEq, Int.reduceLT, Int.reduceLE, sB]
 have j := g; refine yk <| ys <| ysr <| yp 3 [] (.l (h.c 1 3) .z) <| ye <| yc (rN (rY ((ac.marks).toList == (ByteArray.empty).toList))) (fun d => ?_) fun d => ?_
 ·refine q9 (rS (yR0 ?_)); refine h.tfin hg ?_; simp only [qeK, qam, *, ↓reduceIte, Int.reduceEq, Int.reduceLT, Int.reduceLE, sB]
 refine yk <| ysr <| yp 2 [] (.l (h.c 1 2) .z) <| ye <| qa <| yx 2 <| yc (rE ac.last 55) (fun k => ?_) fun k => ?_
 ·refine q7 <| yp 7 [] (.a (h.ts 0 2 8) .z) <| yo (zT 0 ({ T with saved := T.cursor } : TS) h fun u h => ?_); refine yE (nB (qz ?_)); refine h.tfin hg ?_; simp only [qeK, qam, *, ↓reduceIte, Int.reduceEq, Int.reduceLT, Int.reduceLE, sB]
 refine yx 2 <| yc (rE ac.last 56) (fun A => ?_) fun A => ?_
 ·refine q7 <| yp 7 [] (.a (h.ts 0 10 8) .z) <| yo (zT 0 ({ T with cursor := T.saved } : TS) h fun u h => ?_); refine yE (nB (qz ?_)); refine h.tfin hg ?_; simp only [qeK, qam, *, ↓reduceIte, Int.reduceEq, Int.reduceLT, Int.reduceLE, sB]
 refine yx 2 <| yc (rE ac.last 68) (fun B => ?_) fun B => ?_
 ·refine ysr <| yq 1 <| yo (yQ (h.met 0 fun F hA hF => qbP hA (h.tb hg hT.tb) hL  ) fun u h => ?_); refine ye <| q7 <| yq 4 ?_; have n : Lim W H (qaA T) := (qaL hL)
  generalize C : (qaA T) = T21 at h n; have D := n; have R := D.all; refine yo (zT 0 ({ T21 with cursor := (Cur.mk T21.cursor.x T21.cursor.y false T21.cursor.sty) } : TS) h fun u h => ?_); refine yE (nB (qz ?_)); subst C; refine h.tfin hg ?_; simp only [qeK, qam, *, ↓reduceIte, Int.reduceEq, Int.reduceLT, Int.reduceLE, sB]
 refine yx 2 <| yc (rE ac.last 69) (fun E => ?_) fun E => ?_
 ·refine ysr <| yq 1 <| yo (yQ (h.met 0 fun F hA hF => qbP hA (h.tb hg hT.tb) hL  ) fun u h => ?_); refine ye <| q7 ?_; have m : Lim W H (qaA T) := (qaL hL)
  generalize G : (qaA T) = I at h m; have J := m; have S := J.all; refine yp 6 [] (.l (h.tc 0 3) .z) <| yo (yQ (h.met 0 fun F hA hF => qa1 hA (h.tb hg hT.tb) m  (0) (I.cursor.y)) fun u h => ?_); refine yE (nB (qz ?_)); subst G; refine h.tfin hg ?_; simp only [qeK, qam, *, ↓reduceIte, Int.reduceEq, Int.reduceLT, Int.reduceLE, sB]
 refine yx 2 <| yc (rE ac.last 77) (fun K => ?_) fun K => ?_
 ·refine ysr <| yq 1 <| yo (yQ (h.met 0 fun F hA hF => up_lim hA (h.tb hg hT.tb) hL  ) fun u h => ?_); refine ye <| q7 <| yq 4 ?_; have o : Lim W H (upT T) := (lim_up hL)
  generalize L : (upT T) = T25 at h o; have M := o; have U := M.all; refine yo (zT 0 ({ T25 with cursor := (Cur.mk T25.cursor.x T25.cursor.y false T25.cursor.sty) } : TS) h fun u h => ?_); refine yE (nB (qz ?_)); subst L; refine h.tfin hg ?_; simp only [qeK, qam, *, ↓reduceIte, Int.reduceEq, Int.reduceLT, Int.reduceLE, sB]
 refine yx 2 <| yc (rE ac.last 72) (fun N => ?_) fun N => ?_
 ·refine zD [9] h fun u h => yd (uL 0 9) [] (.l (h.tc 0 2) (.i T.cursor.x (60) .z)) <| yK 9 (zTi 0 ({ T with tabs := (fun i => if i = (T.cursor.x : Int).toNat then true else T.tabs i) } : TS) (28 + (T.cursor.x : Int).toNat * 1) [.bool true] h (fun _ _ _ _ => qff T _ _ _ _ _ (by omega) _) fun u h => ?_); refine q8 <| yDe (nB (qz ?_)); refine h.tfin hg ?_; simp only [qeK, qam, *, ↓reduceIte, Int.reduceEq, Int.reduceLT, Int.reduceLE, sB]
 refine yx 2 <| yc (rE ac.last 99) (fun O => ?_) fun O => ?_
 ·obtain ⟨V, X, h⟩ := h.opn 0; refine zD [15] h fun u h => yd (uL 0 15) [] (.l (h.tg 0) (.l (h.gw 0).1 (.l (h.tg 0) (.l (h.gw 0).2 .z)))) <| yK 15 (yQ (h.met 0 fun F hA hF => start_at hA (h.lt hg hT) hL  (T.grid.w) (T.grid.h)) fun u h => ?_); refine q8 <| yDe (nB (qz ?_)); refine h.tfin hg ?_; simp only [qeK, qam, *, ↓reduceIte, Int.reduceEq, Int.reduceLT, Int.reduceLE, sB]
 refine qi (nB (qz ?_)); refine h.tfin hg ?_; simp only [qeK, qam, *, ↓reduceIte, Int.reduceEq, Int.reduceLT, Int.reduceLE, sB]
theorem act_at {w : World} {t : Nat} {W H : Int} {T : TS} {F : Nat → Prop} (hA0 : TermAt w t T F) (hT : LT w) (hL : Lim W H T) {ao : Option Nat} {an cc : Nat} {ac : Ac} (hV : IntsAt w .i64 ao an cc ac.params (fun b => ¬ F b ∧ b < w.heap.size)) (hV8 : an ≤ 8) (hVb : ∀ x ∈ ac.params, 0 ≤ x ∧ x ≤ 9999) (hat : ac.text.size ≤ 1000) : Calls Tryz.prog 35 [pX t, .agg #[iX ac.kind, rX ac.rune, uX ac.last, .string ac.marks, .slice (ao.map at0) an cc, .string ac.text]].toArray w fun e w' => e = .returned (.tuple #[]) ∧ TermAt w' t (qcI T ac) (more F w w') ∧ Ch F w w' := by
 have h := Sep.startT hA0; have hg := Gz.of hA0; have hM := hL; have p := hM.all; refine yA Tryz.func35 rfl <| ysr <| yo (zN [iX ac.kind, rX ac.rune, uX ac.last, .string ac.marks, .slice (ao.map at0) an cc, .string ac.text] 90 h fun u q h => ?_); refine ye <| ysr <| yp 2 [] (.l (h.c 1 0) .z) <| ye <| qa <| yx 2 <| yc (rE ac.kind 0) (fun d => ?_) fun d => ?_
 ·refine q7 <| yp 3 [] (.l (h.c 1 1) .z) <| yo (yQ (h.met 0 fun F hA hF => print_at hA (h.tb hg hT.tb) hL  (ac.rune)) fun u h => ?_); refine yE (nB (qz ?_)); refine h.tfin hg ?_; simp only [qcI, qj6, d, ↓reduceIte, Int.reduceEq, Int.reduceLT, Int.reduceLE, sB]
 refine yx 2 <| yc (rE ac.kind 1) (fun f => ?_) fun f => ?_
 ·refine q7 <| yp 3 [] (.l (h.c 1 2) .z) <| yo (yQ (h.met 0 fun F hA hF => exec_at hA (h.tb hg hT.tb) hL  (ac.last)) fun u h => ?_); refine yE (nB (qz ?_)); refine h.tfin hg ?_; simp only [qcI, qj6, d, f, ↓reduceIte, Int.reduceEq, Int.reduceLT, Int.reduceLE, sB]
 refine yx 2 <| yc (rE ac.kind 2) (fun g => ?_) fun g => ?_
 ·refine q7 <| yp 2 [] (.a (h.cs 1 0 6) .z) <| yo (yQ (h.met 0 fun F hA hF => esc_at hA (h.lt hg hT) hL  (h.intsF hV hF) hV8 hVb) fun u h => ?_); refine yE (nB (qz ?_)); refine h.tfin hg ?_; simp only [qcI, qj6, d, f, g, ↓reduceIte, Int.reduceEq, Int.reduceLT, Int.reduceLE, sB]
 refine yx 2 <| yc (rE ac.kind 3) (fun i => ?_) fun i => ?_
 ·refine q7 <| yp 2 [] (.a (h.cs 1 0 6) .z) <| yo (yQ (h.met 0 fun F hA hF => csi_at hA (h.lt hg hT) hL  (h.intsF hV hF) hV8 hVb) fun u h => ?_); refine yE (nB (qz ?_)); refine h.tfin hg ?_; simp only [qcI, qj6, d, f, g, i, ↓reduceIte, Int.reduceEq, Int.reduceLT, Int.reduceLE, sB]
 refine yx 2 <| yc (rE ac.kind 4) (fun k => ?_) fun k => ?_
 ·refine ysr <| yp 5 [] (.l (h.c 1 5) .z) <| yw [34] (rM 2 ((ac.text).size : Int)) (fun m => ?_) fun m => ?_
  ·refine yp 10 [] (.l (h.c 1 5) (.j 2 ((ac.text).size) .z)) <| yw [39] (rY ((((ac.text).extract 0 (2 : Int).toNat)).toList == ((⟨#[48, 59]⟩ : ByteArray)).toList)) (fun n => ?_) fun n => ?_
   ·refine yz 16 <| yct <| q7 <| yp 6 [] (.l (h.c 1 5) (.j 2 ((ac.text).size) .z)) <| yo (zT 0 ({ T with title := ((ac.text).extract (2 : Int).toNat (ac.text).size) } : TS) h fun u h => ?_); refine yE (nB (qz ?_)); refine h.tfin hg ?_; simp only [qcI, qj6, d, f, g, i, k, m, n, ↓reduceIte, Int.reduceEq, Int.reduceLT, Int.reduceLE, sB]
   refine yp 16 [] (.l (h.c 1 5) (.j 2 ((ac.text).size) .z)) <| ye <| yc (rY ((((ac.text).extract 0 (2 : Int).toNat)).toList == ((⟨#[50, 59]⟩ : ByteArray)).toList)) (fun o => ?_) fun o => ?_
   ·refine q7 <| yp 6 [] (.l (h.c 1 5) (.j 2 ((ac.text).size) .z)) <| yo (zT 0 ({ T with title := ((ac.text).extract (2 : Int).toNat (ac.text).size) } : TS) h fun u h => ?_); refine yE (nB (qz ?_)); refine h.tfin hg ?_; simp only [qcI, qj6, d, f, g, i, k, m, n, o, ↓reduceIte, Int.reduceEq, Int.reduceLT, Int.reduceLE, sB]
   refine qi (nB (qz ?_)); refine h.tfin hg ?_; simp only [qcI, qj6, d, f, g, i, k, m, n, o, ↓reduceIte, Int.reduceEq, Int.reduceLT, Int.reduceLE, sB]
  refine yz 16 <| ycf <| qi (nB (qz ?_)); refine h.tfin hg ?_; simp only [qcI, qj6, d, f, g, i, k, m, ↓reduceIte, Int.reduceEq, Int.reduceLT, Int.reduceLE, sB]
 refine qi (nB (qz ?_)); refine h.tfin hg ?_; simp only [qcI, qj6, *, ↓reduceIte, Int.reduceEq, Int.reduceLT, Int.reduceLE, sB]
def qw (T : TS) (c : Int) : TS := (qad T.parser c).2.foldl qcI { T with parser := (qad T.parser c).1 }
def qaW (T : TS) (s : ByteArray) : Nat → TS
 | 0 => T
 | k + 1 => qw (qaW T s k) (bt s ((k : Nat) : Int))
def qG (T : TS) (s : ByteArray) : TS := qaW T s s.size
structure AcOk (a : Ac) : Prop where
 n : a.params.length ≤ 8
 b : ∀ x ∈ a.params, 0 ≤ x ∧ x ≤ 9999
 t : a.text.size ≤ 40
theorem qcK {k r l : Int} {m u : ByteArray} (h : u.size ≤ 40) : AcOk ⟨k, r, l, m, [], u⟩ := ⟨by simp, (fun x hx => by cases hx), h⟩
theorem qaJ (s : Int) : (atP s).lim := ⟨qiq, (by decide : (0 : Nat) ≤ 2), (by decide : (0 : Nat) ≤ 40), (by decide : (0 : Nat) ≤ 8), fun x hx => by cases hx⟩
def qfp (r : PS × List Ac) : Prop := r.1.lim ∧ ∀ a ∈ r.2, AcOk a
theorem qM {p : PS} (h : p.lim) : qfp (p, []) := ⟨h, fun a ha => by cases ha⟩
theorem qcL {p : PS} {a : Ac} (h : p.lim) (ha : AcOk a) : qfp (p, [a]) := ⟨h, fun b hb => by obtain rfl := List.mem_singleton.1 hb; exact ha⟩
theorem qcM (l : List Int) : ∀ a ∈ l.map acP, AcOk a := fun a ha => by
 obtain ⟨r, _, rfl⟩ := List.mem_map.1 ha
 exact qcK (by decide)
theorem qhI {l m : List Ac} (h : ∀ a ∈ l, AcOk a) (h' : ∀ a ∈ m, AcOk a) : ∀ a ∈ l ++ m, AcOk a := fun a ha => (List.mem_append.1 ha).elim (h a) (h' a)
theorem qk {P : PS × List Ac → Prop} {c : Prop} [Decidable c] {a b : PS × List Ac} (h1 : c → P a) (h2 : ¬ c → P b) : P (if c then a else b) := by
 by_cases h : c
 ·rw [if_pos h]; exact h1 h
 ·rw [if_neg h]; exact h2 h
theorem qeO {p : PS} (h : p.lim) (s : Int) : qfp (ql p s) := qcL (qaJ 0) (qcK h.t)
theorem qiA {p : PS} (h : p.lim) (c : Int) : qfp (qj p c) := by
 unfold qj
 refine qk (fun _ => qM ?_) fun _ => qk (fun _ => qM (qaJ 3)) fun _ => qk (fun _ => qM (qaJ 5)) fun _ => qk (fun _ => qM (qaJ 6)) fun _ => qcL (qaJ 0) (qcK (by decide))
 split
 ·exact ⟨h.u, by show (p.marks ++ qE [c]).size ≤ 2; rw [ByteArray.size_append, qan]; omega, h.t, h.n, h.b⟩
 ·exact ⟨h.u, h.m, h.t, h.n, h.b⟩
theorem qiB {p : PS} (h : p.lim) (c : Int) : qfp (qA p c) := by
 unfold qA
 refine qk (fun _ => qM ⟨h.u, h.m, h.t, h.n, h.b⟩) fun _ => qk (fun _ => qeO h 5) fun _ => qk (fun _ => qM (qaJ 0)) fun _ => qk (fun h3 => qM ⟨h.u, h.m, ?_, h.n, h.b⟩) fun _ => qM h
 show (p.text ++ qE [c]).size ≤ 40
 rw [ByteArray.size_append, qan]; omega
theorem someL_bd {l : List Int} (h : ∀ x ∈ l, 0 ≤ x ∧ x ≤ 9999) : ∀ x ∈ qX l, 0 ≤ x ∧ x ≤ 9999 := fun x hx => by
 unfold qX at hx
 split at hx
 ·simp at hx; omega
 ·exact h x hx
theorem fed_csi {p : PS} (h : p.lim) (c : Int) : qfp (qaz p c) := by
 have h1 := qdO p.params
 have h2 := someL_bd h.b
 have h3 := qhE h.b
 have h4 := h.n
 unfold qaz
 refine qk (fun hc => qM ⟨h.u, h.m, h.t, ?_, ?_⟩) fun _ => qk (fun _ => qM ?_) fun _ => qk (fun _ => qk (fun _ => qM (qaJ 0)) fun _ => qcL (qaJ 0) ⟨h.n, h.b, (by decide : (0 : Nat) ≤ 40)⟩) fun _ => qk (fun _ => qM ⟨h.u, h.m, h.t, h.n, h.b⟩) fun h5 => qM ⟨h.u, ?_, h.t, h.n, h.b⟩
 ·show (qbv _ _).length ≤ 8
  unfold qbv; rw [List.length_set]; omega
 ·intro x hx
  have hx' : x ∈ (qX p.params).set ((qX p.params).length - 1) (min (10 * qcn (qX p.params) + (c - 48)) 9999) := hx
  rcases List.mem_or_eq_of_mem_set hx' with hx | rfl
  ·exact h2 x hx
  ·omega
 ·split
  ·refine ⟨h.u, h.m, h.t, ?_, ?_⟩
   ·show (qX p.params ++ [0]).length ≤ 8
    rw [List.length_append]; simp only [List.length_cons, List.length_nil]; omega
   ·intro x hx
    rcases List.mem_append.1 hx with hx | hx
    ·exact h2 x hx
    ·simp at hx; omega
  ·exact ⟨h.u, h.m, h.t, by show (qX p.params).length ≤ 8; omega, h2⟩
 ·show (p.marks ++ qE [c]).size ≤ 2
  have := h.m
  rw [ByteArray.size_append, qan]; omega
theorem qhJ {u : US} (h : u.ok) {c : Int} (hc : 0 ≤ c ∧ c ≤ 255) : (qaI u c).1.ok := by
 have hb : ∀ x ∈ u.pend ++ [c], 0 ≤ x ∧ x ≤ 255 := fun x hx => (List.mem_append.1 hx).elim (h.pend x) (fun h => by simp at h; omega)
 exact mkU_ok (fun x hx => qdQ hb 4 x (List.mem_of_mem_take hx)) (by rw [List.length_take]; omega)
theorem qiC {p : PS} (h : p.lim) {c : Int} (hc : 0 ≤ c ∧ c ≤ 255) : qfp (qv p c) := by
 unfold qv
 refine qk (fun _ => qk (fun _ => ⟨qaJ 1, qcM _⟩) fun _ => qk (fun _ => ⟨⟨qiq, h.m, h.t, h.n, h.b⟩, qhI (qcM _) fun a ha => by obtain rfl := List.mem_singleton.1 ha; exact qcK (by decide)⟩) fun _ => ⟨⟨qhJ qiq hc, h.m, h.t, h.n, h.b⟩, qhI (qcM _) (qcM _)⟩) fun _ => ⟨⟨qhJ h.u hc, h.m, h.t, h.n, h.b⟩, qcM _⟩
theorem qgj {p : PS} (h : p.lim) {c : Int} (hc : 0 ≤ c ∧ c ≤ 255) : qfp (qa8 p c) := by
 unfold qa8
 exact qk (fun _ => qiC h hc) fun _ => qk (fun _ => qiB h c) fun _ => qk (fun _ => qM (qaJ 0)) fun _ => qk (fun _ => qM (qaJ 1)) fun _ => qk (fun _ => qcL h (qcK (by decide))) fun _ => qk (fun _ => qM h) fun _ => qk (fun _ => fed_csi h c) fun _ => qiA h c
theorem qhK {p : PS} (h : p.lim) {c : Int} (hc : 0 ≤ c ∧ c ≤ 255) : qfp (qad p c) := by
 unfold qad
 exact qk (fun _ => qk (fun _ => qeO h _) fun _ => qgj (qaJ 1) hc) fun _ => qgj h hc
theorem fed_len {p : PS} (h : p.lim) (c : Int) : (qad p c).2.length ≤ 8 := by
 have hf : (qaf p.utf).length ≤ 3 := by unfold qaf; rw [List.length_replicate]; have := h.u.n; omega
 have hu := qcF h.u c
 have h0 := qcF qiq c
 have l1 : ∀ (q : PS) (s : Int), (ql q s).2.length ≤ 8 := fun _ _ => by simp [ql]
 have l2 : ∀ q : PS, (qj q c).2.length ≤ 8 := fun q => by
  unfold qj
  exact qk (P := fun r => r.2.length ≤ 8) (fun _ => by simp) fun _ => qk (P := fun r => r.2.length ≤ 8) (fun _ => by simp) fun _ => qk (P := fun r => r.2.length ≤ 8) (fun _ => by simp) fun _ => qk (P := fun r => r.2.length ≤ 8) (fun _ => by simp) fun _ => by simp
 have l3 : ∀ q : PS, (qA q c).2.length ≤ 8 := fun q => by
  unfold qA
  exact qk (P := fun r => r.2.length ≤ 8) (fun _ => by simp) fun _ => qk (P := fun r => r.2.length ≤ 8) (fun _ => l1 _ _) fun _ => qk (P := fun r => r.2.length ≤ 8) (fun _ => by simp) fun _ => qk (P := fun r => r.2.length ≤ 8) (fun _ => by simp) fun _ => by simp
 have l4 : ∀ q : PS, (qaz q c).2.length ≤ 8 := fun q => by
  unfold qaz
  exact qk (P := fun r => r.2.length ≤ 8) (fun _ => by simp) fun _ => qk (P := fun r => r.2.length ≤ 8) (fun _ => by simp) fun _ => qk (P := fun r => r.2.length ≤ 8) (fun _ => qk (P := fun r => r.2.length ≤ 8) (fun _ => by simp) fun _ => by simp) fun _ => qk (P := fun r => r.2.length ≤ 8) (fun _ => by simp) fun _ => by simp
 have l5 : (qv p c).2.length ≤ 8 := by
  unfold qv
  exact qk (P := fun r => r.2.length ≤ 8) (fun _ => qk (P := fun r => r.2.length ≤ 8) (fun _ => by simp; omega) fun _ => qk (P := fun r => r.2.length ≤ 8) (fun _ => by simp; omega) fun _ => by simp; omega) fun _ => by simp; omega
 have l6 : ∀ q : PS, (qv q c).2.length ≤ 8 → (qa8 q c).2.length ≤ 8 := fun q hq => by
  unfold qa8
  exact qk (P := fun r => r.2.length ≤ 8) (fun _ => hq) fun _ => qk (P := fun r => r.2.length ≤ 8) (fun _ => l3 _) fun _ => qk (P := fun r => r.2.length ≤ 8) (fun _ => by simp) fun _ => qk (P := fun r => r.2.length ≤ 8) (fun _ => by simp) fun _ => qk (P := fun r => r.2.length ≤ 8) (fun _ => by simp) fun _ => qk (P := fun r => r.2.length ≤ 8) (fun _ => by simp) fun _ => qk (P := fun r => r.2.length ≤ 8) (fun _ => l4 _) fun _ => l2 _
 have l7 : (qv (atP 1) c).2.length ≤ 8 := by
  have hz : (qaf (atP 1).utf).length ≤ 3 := by simp [qaf, atP]
  have hv : (qaI (atP 1).utf c).2.length ≤ 4 := h0
  unfold qv
  exact qk (P := fun r => r.2.length ≤ 8) (fun _ => qk (P := fun r => r.2.length ≤ 8) (fun _ => by simp; omega) fun _ => qk (P := fun r => r.2.length ≤ 8) (fun _ => by simp; omega) fun _ => by simp; omega) fun _ => by simp; omega
 unfold qad
 exact qk (P := fun r => r.2.length ≤ 8) (fun _ => qk (P := fun r => r.2.length ≤ 8) (fun _ => l1 _ _) fun _ => l6 _ l7) fun _ => l6 _ l5
theorem TermIn.newPs {w w' : World} {t g o : Nat} {ba : Option Addr} {bn bc : Nat} {pa : Option Addr} {pn pc : Nat} {T : TS} {F F1 F2 FB FP K : Nat → Prop} (h : TermIn w t g o ba bn bc pa pn pc T F F1 F2 FB FP) (hc : Ch (fun j => j = t) w w') {p' : PS} {po : Option Nat} {pn' pc' : Nat}
  (hb : Blk w' t (({ T with parser := p' } : TS).vals g o (.slice ba bn bc) (.slice (po.map at0) pn' pc')) qbc) (hp : IntsAt w' .i64 po pn' pc' p'.params K) (hK : ∀ b, po = some b → FP b ∨ (¬ F b ∧ gTop ≤ b)) :
  TermIn w' t g o ba bn bc (po.map at0) pn' pc' ({ T with parser := p' } : TS) (fun b => F b ∨ po = some b) F1 F2 FB (fun b => FP b ∨ po = some b) := by
 obtain ⟨rows, hL, hl⟩ := h.bk
 have key : ∀ (X : Nat → Prop), (∀ b, X b → F b) → (∀ b, X b → ¬ FP b) → ∀ b, X b → ¬ (FP b ∨ po = some b) := fun X h1 h2 b hx hy => hy.elim (h2 b hx) fun e => (hK b e).elim (h2 b hx) fun h3 => h3.1 (h1 b hx)
 exact
 {blk := hb
  g1 := h.g1.ch hc fun b hb e => h.t1 (e ▸ hb)
  g2 := h.g2.ch hc fun b hb e => h.t2 (e ▸ hb)
  bk := ⟨rows, hL.ch hc fun b hb e => h.tB (e ▸ hb), hl⟩
  bcap := h.bcap
  ps := ⟨hp.1, hp.2.1, (fun e => hp.2.2.1 (by cases po <;> simp_all)), fun ad e => by
   cases po with
   | none => cases e
   | some b => cases e; exact .inr rfl⟩
  pz := ⟨po, rfl⟩
  bz := h.bz
  t1 := h.t1, t2 := h.t2, tB := h.tB
  tP := key (fun b => b = t) (fun b e => e ▸ h.inF.1) (fun b e => e ▸ h.tP) t rfl
  a12 := h.a12, a1B := h.a1B, a2B := h.a2B
  a1P := key F1 h.inF.2.1 h.a1P
  a2P := key F2 h.inF.2.2.1 h.a2P
  inF := ⟨.inl h.inF.1, fun b hb => .inl (h.inF.2.1 b hb), fun b hb => .inl (h.inF.2.2.1 b hb), fun b hb => .inl (h.inF.2.2.2.1 b hb), fun b hb => hb.imp (h.inF.2.2.2.2 b) id⟩
  lt := fun b hb => hb.elim (fun hb => Nat.lt_of_lt_of_le (h.lt b hb) hc.size) fun e => (hp.2.2.2 b e).2
  hi := fun b hb => hb.elim (h.hi b) fun e => (hK b e).elim (fun hb => h.hi b (h.inF.2.2.2.2 b hb)) fun h3 => h3.2 }
theorem TermIn.ints {w : World} {t g o : Nat} {ba : Option Addr} {bn bc : Nat} {pa : Option Addr} {pn pc : Nat} {T : TS} {F F1 F2 FB FP : Nat → Prop} (h : TermIn w t g o ba bn bc pa pn pc T F F1 F2 FB FP) :
  ∃ po : Option Nat, pa = po.map at0 ∧ IntsAt w .i64 po pn pc T.parser.params (fun b => po = some b) ∧ ∀ b, po = some b → FP b := by
 obtain ⟨po, rfl⟩ := h.pz
 have hf : ∀ b, po = some b → FP b := fun b e => by subst e; exact h.ps.2.2.2 _ rfl
 refine ⟨po, rfl, ⟨h.ps.1, h.ps.2.1, fun e => h.ps.2.2.1 (by rw [e]; rfl), fun b e => ⟨e, h.lt b (h.inF.2.2.2.2 b (hf b e))⟩⟩, hf⟩
theorem ActsAt.at {w : World} {b n c : Nat} {l : List Ac} {K : Nat → Prop} (h : ActsAt w (some b) n c l K) {j : Nat} (hj : j < n) : ∃ ac ao an cc, l[j]? = some ac ∧ IntsAt w .i64 ao an cc ac.params K ∧
  w.cell? ⟨b, (0 + ((j : Nat) : Int).toNat * 6), none⟩ = some (.int .i64 ac.kind) ∧ w.cell? ⟨b, (0 + ((j : Nat) : Int).toNat * 6) + 1, none⟩ = some (.int .i32 ac.rune) ∧ w.cell? ⟨b, (0 + ((j : Nat) : Int).toNat * 6) + 2, none⟩ = some (.int .u8 ac.last) ∧
  w.cell? ⟨b, (0 + ((j : Nat) : Int).toNat * 6) + 3, none⟩ = some (.string ac.marks) ∧ w.cell? ⟨b, (0 + ((j : Nat) : Int).toNat * 6) + 4, none⟩ = some (.slice (ao.map at0) an cc) ∧ w.cell? ⟨b, (0 + ((j : Nat) : Int).toNat * 6) + 5, none⟩ = some (.string ac.text) := by
 obtain ⟨vss, h1, h2, h3⟩ := h.ex
 have hl := h.len
 have hj1 : j < l.length := by omega
 have hj2 : j < vss.length := by omega
 obtain ⟨ao, an, cc, e, hv⟩ := h3 j hj1 hj2
 have h6 : ∀ v ∈ vss, v.length = 6 := fun v hv => by
  obtain ⟨i, hi, rfl⟩ := List.getElem_of_mem hv
  exact (h3 i (by omega) hi).len
 have key : ∀ k, k < 6 → ∀ v, (l[j].vals (.slice (ao.map at0) an cc))[k]? = some v → w.cell? ⟨b, 0 + (j * 6 + k), none⟩ = some v := fun k hk v hv => qbu h1.rd _ _ (by rw [qim h6 hj2 hk, e]; exact hv)
 refine ⟨l[j], ao, an, cc, List.getElem?_eq_getElem hj1, hv, ?_⟩
 rw [Int.toNat_natCast, Nat.zero_add]
 have k0 := key 0 (by decide) _ rfl
 have k1 := key 1 (by decide) _ rfl
 have k2 := key 2 (by decide) _ rfl
 have k3 := key 3 (by decide) _ rfl
 have k4 := key 4 (by decide) _ rfl
 have k5 := key 5 (by decide) _ rfl
 simp only [Nat.zero_add, Nat.add_zero] at k0 k1 k2 k3 k4 k5
 exact ⟨k0, k1, k2, k3, k4, k5⟩
theorem qke {l : List Ac} {j : Nat} {ac : Ac} (h : l[j]? = some ac) (T : TS) : (l.take (j + 1)).foldl qcI T = qcI ((l.take j).foldl qcI T) ac := by
 obtain ⟨hj, rfl⟩ := List.getElem?_eq_some_iff.1 h
 rw [List.take_succ_eq_append_getElem hj, List.foldl_append]
 rfl
theorem qkf {F F2 : Nat → Prop} {w u v : World} (h : ∀ b, F2 b → more F w u b) (h1 : w.heap.size ≤ u.heap.size) (h2 : u.heap.size ≤ v.heap.size) : ∀ b, more F2 u v b → more F w v b := fun b hb => hb.elim (fun hb => (h b hb).imp id fun h => ⟨h.1, by omega⟩) fun hb => .inr ⟨by omega, hb.2⟩
theorem ch_in {F F2 : Nat → Prop} {w u v : World} (hc : Ch F w u) (h : ∀ b, F2 b → more F w u b) (hc2 : Ch F2 u v) : Ch F w v := hc.trans hc2 fun i hi h2 => (h i h2).elim id fun h => by omega
theorem qfq {W H : Int} {T : TS} (h : Lim W H T) (l : List Ac) : Lim W H (l.foldl qcI T) := by
 induction l generalizing T with
 | nil => exact h
 | cons a l ih => exact ih (qka h a)
theorem qeP {W H : Int} {T : TS} (h : Lim W H T) (p : PS) : Lim W H { T with parser := p } := h.flags rfl rfl rfl rfl rfl rfl rfl rfl rfl
theorem lim_feed {W H : Int} {T : TS} (h : Lim W H T) (c : Int) : Lim W H (qw T c) := qfq (qeP h _) _
theorem qgk {W H : Int} {T : TS} (h : Lim W H T) (s : ByteArray) (k : Nat) : Lim W H (qaW T s k) := by
 induction k with
 | zero => exact h
 | succ k ih => exact lim_feed ih _
theorem qs {c : Prop} [Decidable c] {a b : TS} {p : PS} (h1 : a.parser = p) (h2 : b.parser = p) : (if c then a else b).parser = p := by
 split <;> assumption
theorem qgl (T : TS) (n : Int) : (qaT T n).parser = T.parser := qs rfl rfl
theorem qfr (T : TS) (x y : Int) : (qcz T x y).parser = T.parser := qs rfl rfl
theorem qcp (T : TS) : (qaA T).parser = T.parser := qs (qgl T 1) (qs rfl rfl)
theorem upT_p (T : TS) : (upT T).parser = T.parser := qs rfl (qs rfl rfl)
theorem printT_p (T : TS) (r : Int) : (qb8 T r).parser = T.parser := by
 have hA : ∀ T, (qbE T).parser = T.parser := fun T => qs (qcp _) rfl
 have hB : ∀ T n, (qb7 T n).parser = T.parser := fun T n => qs (qs (qcp _) rfl) rfl
 have hC : ∀ T n, (qbm T n).parser = T.parser := fun T n => qs rfl rfl
 have hE : ∀ T n, (qdN T n).parser = T.parser := fun T n => qs rfl rfl
 unfold qb8
 rw [hE]
 exact (hC _ _).trans ((hB _ _).trans (hA _))
theorem execT_p (T : TS) (c : Int) : (qcm T c).parser = T.parser :=
 qs rfl (qs rfl (qs (qcp T) (qs (qcp T) (qs (qcp T) (qs rfl (qs rfl (qs rfl rfl)))))))
theorem escT_p (T : TS) (a : Ac) : (qeK T a).parser = T.parser :=
 qs (qs rfl rfl) (qs (qs rfl rfl) (qs rfl (qs rfl (qs rfl (qs (qcp T) (qs (qcp T) (qs (upT_p T) (qs rfl (qs rfl rfl)))))))))
theorem qfs (T : TS) (s : ByteArray) : (qcG T s).parser = T.parser := qs rfl rfl
theorem tellT_p (T : TS) (c k : Int) : (qbU T c k).parser = T.parser := qs rfl (qs rfl (qs rfl (qs (qfs _ _) (qs (qfs _ _) (qs (qfs _ _) rfl)))))
theorem eraseN_p (T : TS) (k x y : Int) (s : Sty) (a : Int) (j : Nat) : (qdk T k x y s a j).parser = T.parser := by
 induction j with
 | zero => rfl
 | succ j ih => exact (qs rfl (qs rfl (qs rfl rfl)) : (qaq (qdk T k x y s a j) k x y s (a + (j : Int))).parser = _).trans ih
theorem qft (T : TS) (k a b : Int) : (qeJ T k a b).parser = T.parser := eraseN_p _ _ _ _ _ _ _
theorem editT_p (T : TS) (c n : Int) (l : List Int) : (qau T c n l).parser = T.parser :=
 qs rfl (qs rfl (qs rfl (qs (qft _ _ _ _) (qs (qs (qft _ _ _ _) (qft _ _ _ _)) (qs (qs rfl rfl) (qs (qs rfl rfl) (qs (qgl _ _) (qs rfl (tellT_p _ _ _)))))))))
theorem plainT_p (T : TS) (c : Int) (l : List Int) : (qU T c l).parser = T.parser :=
 qs rfl (qs rfl (qs rfl (qs rfl (qs rfl (qs (qfr _ _ _) (qs (qfr _ _ _) (qs rfl (qs (qs (qfr _ _ _) rfl) (editT_p _ _ _ _)))))))))
theorem turnT_p (T : TS) (b : Bool) : (qk7 T b).parser = T.parser := qs rfl (qs rfl rfl)
theorem modeT_p (T : TS) (n : Int) (b : Bool) : (qaB T n b).parser = T.parser := qs (qfr _ _ _) (qs rfl (qs rfl (qs (turnT_p _ _) rfl)))
theorem modes_p (T : TS) (l : List Int) (b : Bool) : (l.foldl (fun T n => qaB T n b) T).parser = T.parser := by
 induction l generalizing T with
 | nil => rfl
 | cons n l ih => exact (ih _).trans (modeT_p _ _ _)
theorem csiT_p (T : TS) (a : Ac) : (qhF T a).parser = T.parser := qs (plainT_p _ _ _) (qs (modes_p _ _ _) rfl)
theorem actT_p (T : TS) (a : Ac) : (qcI T a).parser = T.parser := qs (printT_p _ _) (qs (execT_p _ _) (qs (escT_p _ _) (qs (csiT_p _ _) (qs (qs rfl rfl) rfl))))
theorem acts_p (T : TS) (l : List Ac) : (l.foldl qcI T).parser = T.parser := by
 induction l generalizing T with
 | nil => rfl
 | cons a l ih => exact (ih _).trans (actT_p _ _)
theorem feedT_p (T : TS) (c : Int) : (qw T c).parser = (qad T.parser c).1 := acts_p _ _
theorem qeQ {T : TS} (h : T.parser.lim) (s : ByteArray) (k : Nat) : (qaW T s k).parser.lim := by
 induction k with
 | zero => exact h
 | succ k ih => exact (feedT_p _ _) ▸ (qhK ih (qcs s _)).1
def zeroT : TS := { grid := ⟨0, 0, []⟩, other := ⟨0, 0, []⟩, cursor := cur0, saved := cur0, away := cur0, top := 0, bot := 0, tabs := fun _ => false, wrap := false, origin := false, insert := false, hidden := false, draw0 := false, draw1 := false, shift := false, alt := false, title := ByteArray.empty, back := [], parser := ⟨0, ⟨0, 0, 0, 0⟩, ByteArray.empty, [], ByteArray.empty, 0⟩, reply := ByteArray.empty }
theorem qdw (p1 p2 : Int) (w : World) (hT : LT w) (h7 : gTop ≤ w.heap.size) : Calls Tryz.prog 10 [iX p1, iX p2].toArray w fun e w' => ∃ t, e = .returned (pX t) ∧ TermAt w' t (startT zeroT p1 p2) (fun b => w.heap.size ≤ b ∧ b < w'.heap.size) ∧ Ch (fun _ => False) w w' := by
 refine yA Tryz.func10 rfl <| yx 1 <| ysr <| yq 1 <| yo (yN [.pointer none, .pointer none, iX 0, iX 0, .bool false, .bool false, .bool false, .bool false, iX 0, iX 0, iX 0, iX 0, .bool false, .bool false, .bool false, .bool false, iX 0, iX 0, iX 0, iX 0, .bool false, .bool false, .bool false, .bool false, iX 0, iX 0, iX 0, iX 0, .bool false, .bool false, .bool false, .bool false, .bool false, .bool false, .bool false, .bool false, .bool false, .bool false, .bool false, .bool false, .bool false, .bool false, .bool false, .bool false, .bool false, .bool false, .bool false, .bool false, .bool false, .bool false, .bool false, .bool false, .bool false, .bool false, .bool false, .bool false, .bool false, .bool false, .bool false, .bool false, .bool false, .bool false, .bool false, .bool false, .bool false, .bool false, .bool false, .bool false, .bool false, .bool false, .bool false, .bool false, .bool false, .bool false, .bool false, .bool false, .bool false, .bool false, .bool false, .bool false, .bool false, .bool false, .bool false, .bool false, .bool false, .bool false, .bool false, .bool false, .bool false, .bool false, .bool false, .bool false, .bool false, .bool false, .bool false, .bool false, oX, nX, iX 0, uX 0, uX 0, uX 0, iX 0, oX, nX, oX, iX 0, oX] 46 fun d a j p k l => ?_); have q := zn j (zm w); have c := zu (zm w) l iZ; refine yz 3 <| ysr <| yq 3 ?_; have f : Blk d a (zeroT.valsG (.pointer none) (.pointer none) (nX) (nX)) qbc := Blk.to k (by kernel_rfl); have r := zzs c
 have m : PsAt d a none 0 0 zeroT.parser.params (fun _ => False) := ⟨⟨Rd.nil _ _, rfl, fun _ => rfl, fun ad e => by cases e⟩, ⟨none, rfl⟩, fun b h => h.elim⟩
 have n := qC (Up.ch c) hT (fun _ h => h.elim); refine yo (yQ (qgi f m (by omega) n (by decide) p1 p2) ?_); rintro s ⟨o, g⟩; refine ye <| yx 2 <| q9 (yR1 (pX a) ?_); refine ⟨a, rfl, TermAt.mono o (fun b hb => ?_) (fun b hb => ⟨hb.2, by omega⟩), zt (Up.ch c) g (fun i hi h => ?_)⟩
 ·have hz := zzs g; rcases hb with rfl | hb | hb
  ·exact ⟨by omega, by have := f.lt; omega⟩
  ·exact hb.elim
  exact ⟨by omega, hb.2⟩
 rcases h with rfl | h
 ·omega
 exact h
theorem qkg {X : PS × List Ac} {w : World} {po : Option Nat} {pn pc : Nat} {p : PS} {c : Int} (hX : qad p c = X) (hP : IntsAt w .i64 po pn pc p.params (fun b => po = some b)) (hcB : 0 ≤ c ∧ c ≤ 255) (hU : qcB w) (hp : p.lim) (hn8 : pn ≤ 8) : Calls Tryz.prog 34 [.agg #[iX p.state, uX p.utf.b0, uX p.utf.b1, uX p.utf.b2, iX p.utf.n, .string p.marks, .slice (po.map at0) pn pc, .string p.text, iX p.within], uX c].toArray w fun e w' => Fed w w' e po X.1 X.2 := by
 subst hX; exact feed_any hP c hcB hU hp hn8
theorem qhL {w : World} {t : Nat} {W H : Int} {T : TS} {F : Nat → Prop} (hA0 : TermAt w t T F) (hT : LT w) (hL : Lim W H T) (hp : T.parser.lim) (s : ByteArray) (hs : s.size ≤ 1000000) : Calls Tryz.prog 13 [pX t, .string s].toArray w fun e w' => e = .returned (.tuple #[]) ∧ TermAt w' t (qG T s) (more F w w') ∧ Ch F w w' := by
 obtain ⟨g, o, ba, bn, bc, pa, pn, pc, F1, r, FB, FP, hI⟩ := hA0; have hA0 : TermAt w t T F := ⟨g, o, ba, bn, bc, pa, pn, pc, F1, r, FB, FP, hI⟩
 have l := hI.inF.1; obtain ⟨gv, cA⟩ := hI.g1.head; have cB : Df t g := fun e => hI.t1 (e ▸ hI.g1.inF); obtain ⟨⟨cC, cD⟩, ⟨cE, cF⟩, cG, cH⟩ := hI.g1.ok; have bf := hL; have cI := bf.all; refine yA Tryz.func13 rfl <| yx 3 <| qa ?_; have az := hI.cht (Ch.refl (· = t) w); have bg := hI.pk1 hI az; refine qZ [0, 1, 9, 10] (f' := [(0, pX t), (1, .string s), (9, iX ((s).size : Int)), (10, iX 0)]) <| qD (σ := Nat) (fun k => [(0, pX t), (1, .string s), (9, iX ((s).size : Int)), (10, iX ((k : Nat) : Int))]) (fun k u => k ≤ s.size ∧ (TermAt u t (qaW T s k) (more F w u) ∧ Ch F w u)) (fun k => s.size - k) 0 rfl ?_ ?_
 ·exact ⟨Nat.zero_le _, (TermAt.eq' bg rfl), az⟩
 intro k ah bh cJ aA; obtain ⟨hk, aB, ai⟩ := bh; have bi := qC ai hT (fun b hb => hI.hi b hb); have aj : Lim W H (qaW T s k) := (qgk hL s k)
 generalize U : (qaW T s k) = y at aB aj; have bj := aj; have cK := bj.all; obtain ⟨ak, bk, bl, bm, bo, cL, cM, cN, cO, cP, cQ, cR, C⟩ := aB; obtain ⟨cS, cT⟩ := C.g1.head; have cU : Df t ak := fun e => C.t1 (e ▸ C.g1.inF); obtain ⟨bp, bq, br, V⟩ := C.ints; subst bq; refine yx 1 <| ys <| yc (rL ((k : Nat) : Int) ((s).size : Int)) (fun bs => ?_) fun bs => ?_
 ·refine yk <| ys <| qa <| yx 2 <| yx 1 <| ys <| yD [8, 14] fun D cV Y => ?_; have N := zt (Ch.refl (· = t) ah) Y eZ; have aC := qC Y bi (fun _ h => h.elim); have Z := C.blk.ch Y id; have aD := br.ch Y iZ; refine yd (uL 0 8) [] (.a (Z.cs 98 9) (.i ((k : Nat) : Int) ((s).size) .z)) ?_; have cW := C.scalar (T' := y) N Z rfl rfl rfl rfl; have aE := C.scalar (T' := y) N Z rfl rfl rfl rfl; have O := Ch.on ai N l; have cX := aE.pk2 N hI O; have bu := aE.mono (F' := more F w D) (fun b hb => hb.elim .inl (fun x => .inr ⟨x.1, by have := zzs N; omega⟩)) (hI.moreOk O.size); obtain ⟨d, a0⟩ : ∃ X, qad y.parser (bt s ((k : Nat) : Int)) = X := ⟨_, rfl⟩
  have a1 : (y.parser).lim := (U ▸ qeQ hp s k)
  have aF := qhK a1 (qcs s ((k : Nat) : Int)); have bv := fed_len a1 (bt s ((k : Nat) : Int)); rw [a0] at aF bv; refine yK 8 (yC ((qkg a0 (p := y.parser) aD (qcs s _) aC.ut a1 (by have := a1.n; have := aD.2.1; omega))) ?_); rintro _ al ⟨E, aG, aH, bw, c, a2, rfl, aI, bx, P⟩; refine ⟨_, rfl, ?_⟩; have cY := zzs P; have bz := qC P aC (fun _ h => h.elim); have bA := Z.ch P id; refine q8 <| yd (uL 9 5) [] .z ?_; have a3 := bu.same P iZ; refine yK 14 (qa3 98 [iX d.1.state, uX d.1.utf.b0, uX d.1.utf.b1, uX d.1.utf.b2, iX d.1.utf.n, .string d.1.marks, .slice (E.map at0) aG aH, .string d.1.text, iX d.1.within] none (by kernel_rfl) bA (qbh (by kernel_rfl)) ?_); intro q am A; replace am : Blk q t (TS.vals ({ y with parser := d.1 } : TS) ak bk (.slice bl bm bo) (.slice (E.map at0) aG aH)) qbc := Blk.to am (by kernel_rfl); have ap : ∀ b, E = some b → bp = some b ∨ (D.heap.size ≤ b ∧ b < al.heap.size) := fun b e => (aI.2.2.2 b e).1; have G : ∀ b, more F w D b → b < D.heap.size ∧ gTop ≤ b := hI.moreOk O.size; have cZ : ∀ b, E = some b → ¬ b = t := fun b e h => (ap b e).elim (fun x => a3.tP (h ▸ V b x)) (fun x => by have := (G t (.inl l)).1; omega); have bB := aI.ch A (fun b hb (h : b = t) => hb.elim (fun x => a3.tP (h ▸ V b x)) (fun x => by have := (G t (.inl l)).1; omega)); have f := a3.newPs A (p' := d.1) am bB (fun b e => (ap b e).imp (fun h => V b h) (fun h => ⟨fun x => by have := (G b x).1; omega, by have := (G t (.inl l)).2; have := (G t (.inl l)).1; omega⟩))
  obtain ⟨r, aq⟩ : ∃ F' : Nat → Prop, F' = fun b => more F w D b ∨ E = some b := ⟨_, rfl⟩
  rw [← aq] at f; have a4 : ∀ b, r b → more F w q b := fun b hb => by
   rw [aq] at hb; rcases hb with hb | hb
   ·exact hb.imp id fun h => ⟨h.1, by have := zzs A; omega⟩
   rcases ap b hb with h | h
   ·exact (a3.inF.2.2.2.2 b (V b h)).imp id fun h => ⟨h.1, by have := zzs A; omega⟩
   exact .inr ⟨by have := zzs O; omega, by have := zzs A; omega⟩
  have J : Ch F w q := zt (zt O P eZ) A (fun i _ h => h ▸ l); have ar : ∀ b, ((D.heap.size ≤ b ∧ b < al.heap.size) ∧ E ≠ some b) → b < q.heap.size := fun b hb => by have := zzs A; omega
  have aJ : ∀ b, ((D.heap.size ≤ b ∧ b < al.heap.size) ∧ E ≠ some b) → ¬ r b := fun b hb h => by
   rw [aq] at h; rcases h with h | h
   ·have := (G b h).1; omega
   exact hb.2 h
  have bC := qC A bz (fun b (h : b = t) => h ▸ hI.hi t l); have a5 := bx.ch A (fun b hb (h : b = t) => by have := (G t (.inl l)).1; omega); have Q : r t := f.inF.1; have aK : TermAt q t ({ y with parser := d.1 } : TS) r := ⟨_, _, _, _, _, _, _, _, _, _, _, _, f⟩
  have au : Lim W H ({ y with parser := d.1 } : TS) := qeP aj _; generalize aL : ({ y with parser := d.1 } : TS) = T68 at f aK au; obtain ⟨d0, d1⟩ := f.g1.head; have d2 : Df t ak := fun e => f.t1 (e ▸ f.g1.inF); refine q8 <| yd [15] [] .z <| yDe (nS ?_); refine yx 3 <| qa ?_; rcases bw with _ | ab
  ·have av : d.2.length = c := a5.len; have d3 : c = 0 := by
    obtain ⟨d4, h1, x, h3⟩ := a5.ex; exact (h1.2.2.2.1 rfl).1
   have aM := f.cht (Ch.refl (· = t) q); have bE := f.pk1 f aM; refine qZ [0, 1, 9, 10, 27, 28, 29] (f' := [(0, pX t), (1, .string s), (9, iX ((s).size : Int)), (10, iX ((k : Nat) : Int)), (27, .slice none c a2), (28, iX ((c : Nat) : Int)), (29, iX 0)]) <| qD (σ := Nat) (fun j => [(0, pX t), (1, .string s), (9, iX ((s).size : Int)), (10, iX ((k : Nat) : Int)), (27, .slice none c a2), (28, iX ((c : Nat) : Int)), (29, iX ((j : Nat) : Int))]) (fun j v => j ≤ c ∧ (TermAt v t ((d.2.take j).foldl qcI T68) (more r q v) ∧ Ch r q v)) (fun j => c - j) 0 rfl ?_ ?_
   ·exact ⟨Nat.zero_le _, (TermAt.eq' bE rfl), aM⟩
   intro j a6 bF d6 d7; obtain ⟨hj, aN, bG⟩ := bF; have aw : Lim W H ((d.2.take j).foldl qcI T68) := (qfq au _)
   generalize bH : ((d.2.take j).foldl qcI T68) = T83 at aN aw; have bI := aw; have d8 := bI.all; obtain ⟨bJ, d9, da, db, dc, dd, de, df, dg, dh, di, dj, a7⟩ := aN; obtain ⟨dk, dl⟩ := a7.g1.head; have dm : Df t bJ := fun e => a7.t1 (e ▸ a7.g1.inF); refine yx 1 <| ys <| yc (rL ((j : Nat) : Int) ((c : Nat) : Int)) (fun bK => ?_) fun bK => ?_
   ·exfalso; omega
   have ax : j = c := by omega
   have a8 := Ch.on bG (Ch.refl (· = t) a6) Q; have bL := a7.pk2 (Ch.refl (· = t) a6) f a8; have aO := bL.mono (qkf a4 (zzs J) (zzs a8)) (hI.moreOk (Nat.le_trans (zzs J) (zzs a8))); have bM := ch_in J a4 a8; have aP : Lim W H T83 := aw; generalize bN : T83 = T92 at aO aP; have bO := aP; have dn := bO.all; obtain ⟨bP, dp, dq, dr, ds, dt, du, dv, dw, dx, dy, dz, a9⟩ := aO; obtain ⟨dA, dB⟩ := a9.g1.head; have dC : Df t bP := fun e => a9.t1 (e ▸ a9.g1.inF); refine qp (eS (qf (qb (nB (nS ?_))))); refine q7 <| yp 2 [] (.q6 (((k : Nat) : Int) + 1) .z) ?_; have aQ := Ch.on bM (Ch.refl (· = t) a6) l; have bQ := a9.pk2 (Ch.refl (· = t) a6) hI aQ; refine yE (fun a ha => aA (k + 1) _ ⟨(by omega), (TermAt.eq' bQ (by subst bN; subst bH; subst aL; subst U; show qw _ _ = _; unfold qw; rw [a0, ax, ← av, List.take_length])), aQ⟩ (by show s.size - (k + 1) < s.size - k; omega) a (ha.kp [0, 1, 9, 10]))
  have av : d.2.length = c := a5.len; have aR := f.cht (Ch.refl (· = t) q); have bR := f.pk1 f aR; refine qZ [0, 1, 9, 10, 27, 28, 29] (f' := [(0, pX t), (1, .string s), (9, iX ((s).size : Int)), (10, iX ((k : Nat) : Int)), (27, .slice (some ⟨ab, 0, none⟩) c a2), (28, iX ((c : Nat) : Int)), (29, iX 0)]) <| qD (σ := Nat) (fun j => [(0, pX t), (1, .string s), (9, iX ((s).size : Int)), (10, iX ((k : Nat) : Int)), (27, .slice (some ⟨ab, 0, none⟩) c a2), (28, iX ((c : Nat) : Int)), (29, iX ((j : Nat) : Int))]) (fun j v => j ≤ c ∧ (TermAt v t ((d.2.take j).foldl qcI T68) (more r q v) ∧ Ch r q v)) (fun j => c - j) 0 rfl ?_ ?_
  ·exact ⟨Nat.zero_le _, (TermAt.eq' bR rfl), aR⟩
  intro j I bS dD bT; obtain ⟨hj, aS, K⟩ := bS; have bU := qC K bC (fun b hb => f.hi b hb); have bV := a5.ch K (fun b hb h => aJ b hb h); have R : Lim W H ((d.2.take j).foldl qcI T68) := (qfq au _)
  generalize aT : ((d.2.take j).foldl qcI T68) = L at aS R; have bW := R; have dE := bW.all; obtain ⟨bX, dF, dG, dH, dI, dJ, dK, dL, dM, dN, dO, dP, B⟩ := aS; obtain ⟨dQ, dR⟩ := B.g1.head; have dS : Df t bX := fun e => B.t1 (e ▸ B.g1.inF); refine yx 1 <| ys <| yc (rL ((j : Nat) : Int) ((c : Nat) : Int)) (fun bY => ?_) fun bY => ?_
  ·obtain ⟨ac, ao, an, cc, aU, bZ, c0, c1, c2, c3, c4, c5⟩ := bV.at (j := j) (by omega); have ay := aF.2 ac (List.mem_of_getElem? aU); refine yk <| ys <| qa <| ysr <| yp 2 [] (.i ((j : Nat) : Int) (c) (.m c0 (.m c1 (.m c2 (.m c3 (.m c4 (.m c5 (.e .z)))))))) <| yo (yN [iX 0, rX 0, uX 0, oX, nX, oX] 90 fun dT S c6 dU c7 aa => ?_); have dV : I.heap.size ≤ S := by rw [c6]; exact zzs (Ch.refl (· = t) I)
   have c8 := zt (Ch.refl (· = t) I) aa eZ; have c9 := qC aa bU (fun _ h => h.elim); have ca := B.blk.ch aa id; have cb := bZ.ch aa iZ; refine yo (yT [iX ac.kind, rX ac.rune, uX ac.last, .string ac.marks, .slice (ao.map at0) an cc, .string ac.text] c7 fun aV cd ad => ?_); have M := zt c8 ad (fun i hi (h : i = S) => by omega); have ce := qC ad c9 (fun b (h : b = S) => by have := hI.hi t l; have := B.blk.lt; omega); have aW := ca.ch ad (fun (h : t = S) => by have := B.blk.lt; omega); have cf := cb.ch ad (fun b hb (h : b = S) => by have := ar b hb; have := zzs K; omega); refine ye <| q7 <| yp 2 [] (.a (cd.cs 0 6) .z) ?_; have cg := B.scalar (T' := L) M aW rfl rfl rfl rfl; have aX := Ch.on K M Q; have dW := cg.pk2 M f aX; have aY := cf.mono (K' := fun b => ¬ more r q aV b ∧ b < aV.heap.size) (fun b hb => ⟨fun h => h.elim (aJ b hb) (fun h => by have := ar b hb; omega), by have := ar b hb; have := zzs aX; omega⟩); have ci := B.scalar (T' := L) M aW rfl rfl rfl rfl; have aZ := Ch.on K M Q; have cj := ci.pk2 M f aZ; refine yo (yQ (act_at cj ce R  aY (by have := ay.n; have := aY.2.1; omega) ay.b (by have := ay.t; omega)) ?_); rintro b3 ⟨ck, cl⟩; obtain ⟨b4, cm⟩ := TermAt.next aK aZ cl ck; have b5 : Lim W H (qcI L ac) := (qka R ac)
   generalize cn : (qcI L ac) = T150 at b4 b5; have co := b5; have dX := co.all; obtain ⟨cp, dY, dZ, e0, e1, e2, e3, e4, e5, e6, e7, e8, ae⟩ := b4; obtain ⟨e9, ea⟩ := ae.g1.head; have eb : Df t cp := fun e => ae.t1 (e ▸ ae.g1.inF); refine yE (nB (nS ?_)); refine q7 <| yp 2 [] (.q6 (((j : Nat) : Int) + 1) .z) ?_; have b6 := Ch.on cm (Ch.refl (· = t) b3) Q; have cq := ae.pk2 (Ch.refl (· = t) b3) f b6; refine yE (fun a ha => bT (j + 1) _ ⟨(by omega), (TermAt.eq' cq (by subst cn; subst aT; exact qke aU _)), b6⟩ (by show c - (j + 1) < c - j; omega) a (ha.kp [0, 1, 9, 10, 27, 28, 29]))
  have ax : j = c := by omega
  have af := Ch.on K (Ch.refl (· = t) I) Q; have cr := B.pk2 (Ch.refl (· = t) I) f af; have b7 := cr.mono (qkf a4 (zzs J) (zzs af)) (hI.moreOk (Nat.le_trans (zzs J) (zzs af))); have ct := ch_in J a4 af; have b8 : Lim W H L := R; generalize cu : L = T160 at b7 b8; have cv := b8; have ec := cv.all; obtain ⟨cw, ed, ee, ef, eg, eh, ei, ej, ek, el, em, en, ag⟩ := b7; obtain ⟨eo, ep⟩ := ag.g1.head; have er : Df t cw := fun e => ag.t1 (e ▸ ag.g1.inF); refine qp (eS (qf (qb (nB (nS ?_))))); refine q7 <| yp 2 [] (.q6 (((k : Nat) : Int) + 1) .z) ?_; have b9 := Ch.on ct (Ch.refl (· = t) I) l; have cx := ag.pk2 (Ch.refl (· = t) I) hI b9; refine yE (fun a ha => aA (k + 1) _ ⟨(by omega), (TermAt.eq' cx (by subst cu; subst aT; subst aL; subst U; show qw _ _ = _; unfold qw; rw [a0, ax, ← av, List.take_length])), b9⟩ (by show s.size - (k + 1) < s.size - k; omega) a (ha.kp [0, 1, 9, 10]))
 have cy : k = s.size := by omega
 refine qp (eS (qf (qb (qz ?_)))); have bb := Ch.on ai (Ch.refl (· = t) ah) l; have cz := C.pk2 (Ch.refl (· = t) ah) hI bb; subst U; subst cy; exact ⟨rfl, cz, bb⟩
theorem qdX {α : Type} {l m : List α} {k : Nat} (h : l.take k = m.take k) (h1 : k < l.length) (h2 : k < m.length) (he : l[k] = m[k]) : l.take (k + 1) = m.take (k + 1) := by
 rw [List.take_succ_eq_append_getElem h1, List.take_succ_eq_append_getElem h2, h, he]
theorem ne_at {α : Type} {l m : List α} {k : Nat} (h1 : k < l.length) (h2 : k < m.length) (he : l[k] ≠ m[k]) : l ≠ m := fun e => he (by subst e; rfl)
theorem gc_at {l : List Cel} {k : Nat} (h : k < l.length) : gc l ((k : Nat) : Int) = l[k] := by simp [gc, List.getD, List.getElem?_eq_getElem h]
def eqLB (l m : List Cel) : Bool := decide (l = m)
def eqRB (l m : List (List Cel)) : Bool := decide (l = m)
theorem eqLB_t {l m : List Cel} (h : l = m) : eqLB l m = true := decide_eq_true h
theorem eqLB_f {l m : List Cel} (h : l ≠ m) : eqLB l m = false := decide_eq_false h
theorem eqRB_t {l m : List (List Cel)} (h : l = m) : eqRB l m = true := decide_eq_true h
theorem eqRB_f {l m : List (List Cel)} (h : l ≠ m) : eqRB l m = false := decide_eq_false h
def grB (G G' : Gr) : Bool := decide (G.w = G'.w) && (decide (G.h = G'.h) && eqRB G.lines G'.lines)
theorem grB_t {G G' : Gr} (h1 : G.w = G'.w) (h2 : G.h = G'.h) (h3 : G.lines = G'.lines) : grB G G' = true := by simp [grB, h1, h2, eqRB_t h3]
theorem grB_refl (G : Gr) : grB G G = true := grB_t rfl rfl rfl
theorem grB_w {G G' : Gr} (h : G.w ≠ G'.w) : grB G G' = false := by simp [grB, h]
theorem grB_h {G G' : Gr} (h : G.h ≠ G'.h) : grB G G' = false := by simp [grB, h]
theorem grB_l {G G' : Gr} (h : G.lines ≠ G'.lines) : grB G G' = false := by simp [grB, eqRB_f h]
theorem qgm {rows : List Row} {L : List (List Cel)} (h : rows.map Row.l = L) {k : Nat} {x : Row} (hx : rows[k]? = some x) : ∃ hk : k < L.length, L[k] = x.l := by
 subst h
 obtain ⟨hk, rfl⟩ := List.getElem?_eq_some_iff.1 hx
 exact ⟨by simpa using hk, by simp⟩
theorem qgn {rows : List Row} {k : Nat} (h : k < rows.length) : ∃ x, rows[k]? = some x := ⟨_, List.getElem?_eq_getElem h⟩
theorem qgo {w : World} {b off : Nat} {rows : List Row} (h : Rd w (some ⟨b, off, none⟩) (rows.map Row.val)) {k : Nat} {x : Row} (hx : rows[k]? = some x) : w.cell? ⟨b, off + ((k : Nat) : Int).toNat * 1, none⟩ = some x.val := by
 rw [Int.toNat_natCast, Nat.mul_one]
 exact qbu h k _ (by rw [List.getElem?_map, hx]; rfl)
theorem qc2 (a b : Cel) : (((a.rune : Int) == b.rune) && (((a.sty.bold == b.sty.bold) && ((a.sty.under == b.sty.under) && ((a.sty.turned == b.sty.turned) && (((a.sty.fore : Int) == b.sty.fore) && (((a.sty.back : Int) == b.sty.back) && true))))) && true)) = (a == b) := qjC a b
theorem eqcells0 (b1 b2 c1 c2 : Nat) (l m : List Cel) (w : World) (h1 : Rd w (some ⟨b1, 0, none⟩) (flat l)) (h2 : Rd w (some ⟨b2, 0, none⟩) (flat m)) (hl : l.length ≤ maxLen) : Calls Tryz.prog 40 [.slice (some ⟨b1, 0, none⟩) l.length c1, .slice (some ⟨b2, 0, none⟩) m.length c2].toArray w fun e w' => e = .returned (.bool (eqLB l m)) ∧ Ch (fun _ => False) w w' := by
 simp only [maxLen] at hl; refine yA Tryz.func40 rfl <| yx 1 <| ys <| yx 5 <| yc (rI ((l.length : Nat) : Int) ((m.length : Nat) : Int)) (fun j => ?_) fun j => ?_
 ·have p := j; refine yx 1 <| q9 (rS (yR1 (.bool false) ?_)); refine ⟨?_, Up.ch (zm w)⟩; rw [eqLB_f (fun e => p (by rw [e]))]
 have C := j; refine yk <| ys <| yx 3 <| qa <| qZ [0, 1, 12, 13] (f' := [(0, .slice (some ⟨b1, 0, none⟩) l.length c1), (1, .slice (some ⟨b2, 0, none⟩) m.length c2), (12, iX ((l.length : Nat) : Int)), (13, iX 0)]) <| qD (σ := Nat) (fun k => [(0, .slice (some ⟨b1, 0, none⟩) l.length c1), (1, .slice (some ⟨b2, 0, none⟩) m.length c2), (12, iX ((l.length : Nat) : Int)), (13, iX ((k : Nat) : Int))]) (fun k u => k ≤ l.length ∧ l.take k = m.take k ∧ Ch (fun _ => False) w u) (fun k => l.length - k) 0 rfl ?_ ?_
 ·exact ⟨Nat.zero_le _, rfl, Ch.refl _ _⟩
 intro k D q E r; obtain ⟨hk, n, f⟩ := q; have o := zu (zm w) f iZ; have s := Ch.rd f h1 id; have t := Ch.rd f h2 id; refine yx 1 <| ys <| yc (rL ((k : Nat) : Int) ((l.length : Nat) : Int)) (fun v => ?_) fun v => ?_
 ·refine yk <| ys <| qa <| yx 2 <| ys <| yD [] fun F G g => ?_; have x := zu o g iZ; have y := zt f g eZ; have b := Ch.rd g s id; have c := Ch.rd g t id; refine yd (uL 0 9) [] (.i ((k : Nat) : Int) (l.length) (.m (qer (i := ((k : Nat) : Int)) b (by omega) (by omega)) (.m (qes (i := ((k : Nat) : Int)) b (by omega) (by omega)) (.m (qd0 (i := ((k : Nat) : Int)) b (by omega) (by omega)) (.m (qc5 (i := ((k : Nat) : Int)) b (by omega) (by omega)) (.m (qet (i := ((k : Nat) : Int)) b (by omega) (by omega)) (.m (qeu (i := ((k : Nat) : Int)) b (by omega) (by omega)) (.e (.i ((k : Nat) : Int) (m.length) (.m (qer (i := ((k : Nat) : Int)) c (by omega) (by omega)) (.m (qes (i := ((k : Nat) : Int)) c (by omega) (by omega)) (.m (qd0 (i := ((k : Nat) : Int)) c (by omega) (by omega)) (.m (qc5 (i := ((k : Nat) : Int)) c (by omega) (by omega)) (.m (qet (i := ((k : Nat) : Int)) c (by omega) (by omega)) (.m (qeu (i := ((k : Nat) : Int)) c (by omega) (by omega)) (.e .z)))))))))))))))) <| yDe (nS ?_); refine yc (rN (rY ((((gc l ((k : Nat) : Int)).rune : Int) == (gc m ((k : Nat) : Int)).rune) && ((((gc l ((k : Nat) : Int)).sty.bold == (gc m ((k : Nat) : Int)).sty.bold) && (((gc l ((k : Nat) : Int)).sty.under == (gc m ((k : Nat) : Int)).sty.under) && (((gc l ((k : Nat) : Int)).sty.turned == (gc m ((k : Nat) : Int)).sty.turned) && ((((gc l ((k : Nat) : Int)).sty.fore : Int) == (gc m ((k : Nat) : Int)).sty.fore) && ((((gc l ((k : Nat) : Int)).sty.back : Int) == (gc m ((k : Nat) : Int)).sty.back) && true))))) && true)))) (fun d => ?_) fun d => ?_
  ·rw [qc2] at d; have h := d; refine yx 1 <| q9 (rB (rS (qdp (rB (rS (yR1 (.bool false) ?_)))))); refine ⟨?_, Up.ch x⟩; rw [eqLB_f (ne_at (k := k) (by omega) (by omega) (fun e => by rw [← gc_at (by omega), ← gc_at (by omega)] at e; rw [e] at h; simp at h))]
  rw [qc2] at d; have h := eq_of_beq d; refine qi (nB (nS ?_)); refine q7 <| yp 2 [] (.q6 (((k : Nat) : Int) + 1) .z) <| yE (fun a ha => r (k + 1) _ ⟨by omega, qdX n (by omega) (by omega) (by rw [← gc_at (by omega), ← gc_at (by omega)]; exact h), y⟩ (by show l.length - (k + 1) < l.length - k; omega) a (ha.kp [0, 1, 12, 13]))
 have A : k = l.length := by omega
 refine qp (eS (qf (qb (nS ?_)))); refine yx 1 <| q9 (yR1 (.bool true) ?_); refine ⟨?_, Up.ch o⟩; have B : m.length = l.length := by omega
 rw [eqLB_t (by rw [A, List.take_length, ← B, List.take_length] at n; exact n)]
theorem qh3 (b1 b2 c1 c2 : Nat) {n1 n2 : Nat} (l m : List Cel) (w : World) (h1 : Rd w (some ⟨b1, 0, none⟩) (flat l)) (h2 : Rd w (some ⟨b2, 0, none⟩) (flat m)) (hl : l.length ≤ maxLen) (e1 : l.length = n1) (e2 : m.length = n2) : Calls Tryz.prog 40 [.slice (some ⟨b1, 0, none⟩) n1 c1, .slice (some ⟨b2, 0, none⟩) n2 c2].toArray w fun e w' => e = .returned (.bool (eqLB l m)) ∧ Ch (fun _ => False) w w' := by
 subst e1 e2; exact eqcells0 b1 b2 c1 c2 l m w h1 h2 hl
theorem gsame0 {w : World} (g1 r1 rc1 : Nat) (rows1 : List Row) (G1 : Gr) (M1 : List (List Cel)) (hM1 : rows1.map Row.l = M1) (hG1 : G1.lines = M1) (hh1 : Blk w g1 [iX G1.w, iX G1.h, .slice (some ⟨r1, 0, none⟩) rows1.length rc1] qf5) (hb1 : Rd w (some ⟨r1, 0, none⟩) (rows1.map Row.val)) (hl1 : ∀ x ∈ rows1, LineAt w x.b x.l x.cap ∧ x.l.length = x.n) (hn1 : rows1.length = G1.h.toNat) (hk10 : 1 ≤ G1.h ∧ G1.h ≤ 60) (g2 r2 rc2 : Nat) (rows2 : List Row) (G2 : Gr) (M2 : List (List Cel)) (hM2 : rows2.map Row.l = M2) (hG2 : G2.lines = M2) (hh2 : Blk w g2 [iX G2.w, iX G2.h, .slice (some ⟨r2, 0, none⟩) rows2.length rc2] qf5) (hb2 : Rd w (some ⟨r2, 0, none⟩) (rows2.map Row.val)) (hl2 : ∀ x ∈ rows2, LineAt w x.b x.l x.cap ∧ x.l.length = x.n) (hn2 : rows2.length = G2.h.toNat) (hk20 : 1 ≤ G2.h ∧ G2.h ≤ 60) : Calls Tryz.prog 17 [pX g1, pX g2].toArray w fun e w' => e = .returned (.bool (grB G1 G2)) ∧ Ch (fun _ => False) w w' := by
 refine yA Tryz.func17 rfl <| yx 1 <| ys <| ys <| yD [] fun q ah g => ?_; have r := zu (zm w) g iZ; have o := hh1.ch g id; have s := hh2.ch g id; have W := Ch.rd g hb1 id; have X := Ch.rd g hb2 id; have J : ∀ x ∈ rows1, LineAt q x.b x.l x.cap ∧ x.l.length = x.n := fun x hx => ⟨(hl1 x hx).1.ch g id, (hl1 x hx).2⟩
 have K : ∀ x ∈ rows2, LineAt q x.b x.l x.cap ∧ x.l.length = x.n := fun x hx => ⟨(hl2 x hx).1.ch g id, (hl2 x hx).2⟩
 refine yd (uL 0 10) [] (.l (o.c 0) (.l (s.c 0) .z)) <| yv [15] (rI G1.w G2.w) (fun t => ?_) fun t => ?_
 ·have v := t; refine yd (uL 10 10) [] .z <| yDe (nS ?_); refine yct <| yx 1 <| q9 (rS (yR1 (.bool false) ?_)); refine ⟨?_, Up.ch r⟩; rw [grB_w v]
 have v : G1.w = G2.w := by have := t; omega
 refine yd (uL 10 10) [] (.l (o.c 1) (.l (s.c 1) .z)) <| yDe (nS ?_); refine yc (rI G1.h G2.h) (fun y => ?_) fun y => ?_
 ·have A := y; refine yx 1 <| q9 (rS (yR1 (.bool false) ?_)); refine ⟨?_, Up.ch r⟩; rw [grB_h A]
 have A : G1.h = G2.h := by have := y; omega
 refine yk <| ys <| ysr <| yp 5 [] (.l (o.c 1) .z) <| ye <| qa <| qZ [0, 1, 29, 30] (f' := [(0, pX g1), (1, pX g2), (29, iX G1.h), (30, iX 0)]) <| qD (σ := Nat) (fun k => [(0, pX g1), (1, pX g2), (29, iX G1.h), (30, iX ((k : Nat) : Int))]) (fun k u => k ≤ rows1.length ∧ M1.take k = M2.take k ∧ Ch (fun _ => False) q u) (fun k => rows1.length - k) 0 rfl ?_ ?_
 ·exact ⟨Nat.zero_le _, rfl, Ch.refl _ _⟩
 intro k L Y ai Z; obtain ⟨hk, B, d⟩ := Y; have M := zu r d iZ; have a0 := o.ch d id; have a1 := s.ch d id; have a2 := Ch.rd d W id; have a3 := Ch.rd d X id; have N : ∀ x ∈ rows1, LineAt L x.b x.l x.cap ∧ x.l.length = x.n := fun x hx => ⟨(J x hx).1.ch d id, (J x hx).2⟩
 have O : ∀ x ∈ rows2, LineAt L x.b x.l x.cap ∧ x.l.length = x.n := fun x hx => ⟨(K x hx).1.ch d id, (K x hx).2⟩
 refine yx 1 <| ys <| yc (rL ((k : Nat) : Int) G1.h) (fun a4 => ?_) fun a4 => ?_
 ·obtain ⟨j, C⟩ := qgn (rows := rows1) (k := k) (by omega); obtain ⟨m, D⟩ := qgn (rows := rows2) (k := k) (by omega); obtain ⟨P, Q⟩ := qgm hM1 C; obtain ⟨R, S⟩ := qgm hM2 D; refine yk <| ys <| qa <| yx 2 <| ys <| yD [14] fun T aj f => ?_; have a5 := zu M f iZ; have a6 := zt d f eZ; have a7 := a0.ch f id; have a8 := a1.ch f id; have a9 := Ch.rd f a2 id; have aa := Ch.rd f a3 id; have E : ∀ x ∈ rows1, LineAt T x.b x.l x.cap ∧ x.l.length = x.n := fun x hx => ⟨(N x hx).1.ch f id, (N x hx).2⟩
  have F : ∀ x ∈ rows2, LineAt T x.b x.l x.cap ∧ x.l.length = x.n := fun x hx => ⟨(O x hx).1.ch f id, (O x hx).2⟩
  refine yd (uL 0 14) [] (.l (a7.c 2) (.i ((k : Nat) : Int) (rows1.length) (.l (qgo a9 C) (.l (a8.c 2) (.i ((k : Nat) : Int) (rows2.length) (.l (qgo aa D) .z)))))) ?_; obtain ⟨G, ab⟩ := E j (List.mem_of_getElem? C); obtain ⟨ac, ad⟩ := F m (List.mem_of_getElem? D); refine yK 14 (yQ ((qh3 j.b m.b j.cap m.cap j.l m.l _ G.rd ac.rd (Nat.le_trans G.2.1 G.2.2.1) ab ad)) fun U p => ?_); have ae := zu a5 p iZ; have af := zt a6 p eZ; have ak : ∀ x ∈ rows1, LineAt U x.b x.l x.cap ∧ x.l.length = x.n := fun x hx => ⟨(E x hx).1.ch p id, (E x hx).2⟩
  have al : ∀ x ∈ rows2, LineAt U x.b x.l x.cap ∧ x.l.length = x.n := fun x hx => ⟨(F x hx).1.ch p id, (F x hx).2⟩
  refine q8 <| yd [15] [] .z <| yDe (nS ?_); refine yc (rN (rY (eqLB j.l m.l))) (fun H => ?_) fun H => ?_
  ·have I : ¬ j.l = m.l := of_decide_eq_false H; refine yx 1 <| q9 (rB (rS (qdp (rB (rS (yR1 (.bool false) ?_)))))); refine ⟨?_, Up.ch ae⟩; rw [grB_l (by rw [hG1, hG2]; exact ne_at P R (by rw [Q, S]; exact I))]
  have I : j.l = m.l := of_decide_eq_true H; refine qi (nB (nS ?_)); refine q7 <| yp 2 [] (.q6 (((k : Nat) : Int) + 1) .z) <| yE (fun a ha => Z (k + 1) _ ⟨by omega, qdX B P R (by rw [Q, S]; exact I), af⟩ (by show rows1.length - (k + 1) < rows1.length - k; omega) a (ha.kp [0, 1, 29, 30]))
 have am : k = rows1.length := by omega
 refine qp (eS (qf (qb (nS ?_)))); refine yx 1 <| q9 (yR1 (.bool true) ?_); refine ⟨?_, Up.ch M⟩; have V : M1.length = k := by rw [← hM1, List.length_map]; omega
 have ag : M2.length = k := by rw [← hM2, List.length_map]; omega
 rw [grB_t v A (by rw [hG1, hG2]; rw [← V, List.take_length, V, ← ag, List.take_length] at B; exact B)]
theorem qgp {w : World} {g1 g2 : Nat} {G1 G2 : Gr} {F1 F2 : Nat → Prop} (h1 : GridAt w g1 G1 F1) (h2 : GridAt w g2 G2 F2) : Calls Tryz.prog 17 [pX g1, pX g2].toArray w fun e w' => e = .returned (.bool (grB G1 G2)) ∧ Ch (fun _ => False) w w' := by
 obtain ⟨a, b, c, h1⟩ := h1; obtain ⟨d, f, g, h2⟩ := h2; exact gsame0 g1 a b c G1 G1.lines h1.lines rfl h1.head h1.body.rd h1.line h1.len h1.ok.2.1 g2 d f g G2 G2.lines h2.lines rfl h2.head h2.body.rd h2.line h2.len h2.ok.2.1
theorem qh4 {w : World} {b off : Nat} {rows : List Row} (h : Rd w (some ⟨b, off, none⟩) (rows.map Row.val)) {k : Nat} {x : Row} (hx : rows[k]? = some x) : w.cell? ⟨b, off + ((k : Nat) : Int).toNat * 1, none⟩ = some x.val := by
 rw [Int.toNat_natCast, Nat.mul_one]
 exact qbu h k _ (by rw [List.getElem?_map, hx]; rfl)
theorem qkh {rows : List Row} {k : Nat} (h : k < rows.length) : ∃ q, rows[k]? = some q ∧ q ∈ rows := ⟨_, List.getElem?_eq_getElem h, List.getElem_mem h⟩
def qY (s : Sty) : List Bool := [s.bold, s.under, s.turned, decide (0 < s.fore), decide (0 < s.back)]
def qgq (s : Sty) : List Int := [1, 4, 7, 29 + s.fore, 39 + s.back]
def qcj (s : Sty) : Nat → List Int
 | 0 => [0]
 | k + 1 => if (qY s).getD k false = true then qcj s k ++ [(qgq s).getD k 0] else qcj s k
abbrev qB (s : Sty) : List Int := qcj s 5
theorem qaU {s : Sty} {k : Nat} (h : (qY s).getD k false = true) : qcj s (k + 1) = qcj s k ++ [(qgq s).getD k 0] := if_pos h
theorem qak {s : Sty} {k : Nat} (h : ¬ (qY s).getD k false = true) : qcj s (k + 1) = qcj s k := if_neg h
theorem qbq (s : Sty) (k : Nat) : (qcj s k).length ≤ k + 1 := by
 induction k with
 | zero => exact Nat.le_refl _
 | succ k ih =>
  by_cases h : (qY s).getD k false = true
  ·rw [qaU h, List.length_append]; simp only [List.length_cons, List.length_nil]; omega
  ·rw [qak h]; omega
theorem qfu {s : Sty} (h : (0 ≤ s.fore ∧ s.fore ≤ 8) ∧ 0 ≤ s.back ∧ s.back ≤ 8) (k : Nat) (hk : k ≤ 5) : ∀ x ∈ qcj s k, 0 ≤ x ∧ x ≤ 47 := by
 induction k with
 | zero => intro x hx; simp [qcj] at hx; omega
 | succ k ih =>
  intro x hx
  by_cases e : (qY s).getD k false = true
  ·rw [qaU e, List.mem_append] at hx
   rcases hx with hx | hx
   ·exact ih (by omega) x hx
   ·obtain rfl := List.mem_singleton.1 hx
    match k, hk with
    | 0, _ | 1, _ | 2, _ => simp [qgq]
    | 3, _ | 4, _ => simp [qgq]; omega
  ·rw [qak e] at hx; exact ih (by omega) x hx
def csiB : ByteArray := ⟨#[27, 91]⟩
def semB : ByteArray := ⟨#[59]⟩
def mB : ByteArray := ⟨#[109]⟩
def hB : ByteArray := ⟨#[72]⟩
theorem qb0 : csiB.size = 2 := rfl
theorem qaM : semB.size = 1 := rfl
theorem qck : mB.size = 1 := rfl
theorem qcN : hB.size = 1 := rfl
def qgr (l : List Int) : Nat → ByteArray
 | 0 => csiB
 | k + 1 => (if 0 < k then qgr l k ++ semB else qgr l k) ++ qa0 (l.getD k 0)
theorem qki {l : List Int} {k : Nat} (h : 0 < k) : qgr l (k + 1) = qgr l k ++ semB ++ qa0 (l.getD k 0) := congrArg (· ++ qa0 (l.getD k 0)) (if_pos h)
theorem qhM {l : List Int} {k : Nat} (h : ¬ 0 < k) : qgr l (k + 1) = qgr l k ++ qa0 (l.getD k 0) := congrArg (· ++ qa0 (l.getD k 0)) (if_neg h)
def qfv (s : Sty) : ByteArray := qgr (qB s) (qB s).length ++ mB
def toB (x y : Int) : ByteArray := csiB ++ qa0 (y + 1) ++ semB ++ qa0 (x + 1) ++ hB
theorem qbF {n : Int} (h0 : -99 ≤ n) (h1 : n ≤ 99) : (qa0 n).size ≤ 3 := by
 have key : ∀ k : Nat, k ≤ 198 → (qa0 ((k : Int) - 99)).size ≤ 3 := by decide +kernel
 have := key (n + 99).toNat (by omega)
 rwa [show (((n + 99).toNat : Int) - 99) = n by omega] at this
theorem qkj {l : List Int} {k : Nat} (hk : k < l.length) : l.getD k 0 ∈ l := by
 rw [List.getD_eq_getElem?_getD, List.getElem?_eq_getElem hk, Option.getD_some]
 exact List.getElem_mem hk
theorem qgs {l : List Int} (hl : ∀ x ∈ l, 0 ≤ x ∧ x ≤ 99) (k : Nat) (hk : k ≤ l.length) : (qgr l k).size ≤ 2 + 4 * k := by
 induction k with
 | zero => exact Nat.le_refl _
 | succ k ih =>
  have h1 := ih (by omega)
  have h2 := hl _ (qkj (l := l) (k := k) (by omega))
  have h3 := qbF (n := l.getD k 0) (by omega) (by omega)
  unfold qgr
  rw [ByteArray.size_append]
  split
  ·rw [ByteArray.size_append]
   have := qaM
   omega
  ·omega
theorem qca {s : Sty} (h : (0 ≤ s.fore ∧ s.fore ≤ 8) ∧ 0 ≤ s.back ∧ s.back ≤ 8) : (qfv s).size ≤ 27 := by
 have h1 := qgs (l := qB s) (fun x hx => by have := qfu h 5 (Nat.le_refl _) x hx; omega) _ (Nat.le_refl _)
 have h2 : (qB s).length ≤ 6 := qbq s 5
 unfold qfv
 rw [ByteArray.size_append]
 have := qck
 omega
theorem qfw {x y : Int} (hx : 0 ≤ x ∧ x ≤ 60) (hy : 0 ≤ y ∧ y ≤ 60) : (toB x y).size ≤ 10 := by
 have h1 := qbF (n := x + 1) (by omega) (by omega)
 have h2 := qbF (n := y + 1) (by omega) (by omega)
 unfold toB
 simp only [ByteArray.size_append]
 have := qb0
 have := qaM
 have := qcN
 omega
theorem qfx (c : Cel) (l : List Cel) (k : Nat) : gc (c :: l) ((k + 1 : Nat) : Int) = gc l (k : Int) := by
 unfold gc
 rw [Int.toNat_natCast, Int.toNat_natCast, List.getD_cons_succ]
def qH : List Cel → List Cel → Nat
 | c :: l, d :: m => if c = d then qH l m + 1 else 0
 | _, _ => 0
theorem qcO : ∀ (k : Nat) (a b : List Cel), k ≤ a.length → k ≤ b.length → a.take k = b.take k → (k = a.length ∨ k = b.length ∨ gc a k ≠ gc b k) → qH a b = k
 | 0, [], b, _, _, _, _ => by cases b <;> rfl
 | 0, c :: l, [], _, _, _, _ => rfl
 | 0, c :: l, d :: m, _, _, _, h => by
  have h' : c ≠ d := by
   rcases h with h | h | h
   ·simp at h
   ·simp at h
   ·exact h
  unfold qH
  rw [if_neg h']
 | k + 1, [], b, ha, _, _, _ => by simp at ha
 | k + 1, c :: l, [], _, hb, _, _ => by simp at hb
 | k + 1, c :: l, d :: m, ha, hb, ht, h => by
  simp only [List.take_succ_cons, List.cons.injEq] at ht
  unfold qH
  rw [if_pos ht.1, qcO k l m (by simpa using ha) (by simpa using hb) ht.2]
  rcases h with h | h | h
  ·exact .inl (by simpa using h)
  ·exact .inr (.inl (by simpa using h))
  ·refine .inr (.inr fun e => h ?_)
   rw [qfx, qfx]; exact e
def qaC (a b : List Cel) : Nat × Nat := (qH a b, b.length - qH (a.drop (qH a b)).reverse (b.drop (qH a b)).reverse)
theorem qdx {a b : List Cel} {x j : Nat} (hl : a.length = b.length) (hx : qH a b = x) (h1 : x ≤ j) (h2 : j ≤ b.length) (hd : a.drop j = b.drop j) (he : j = x ∨ gc a ((j : Int) - 1) ≠ gc b ((j : Int) - 1)) : qaC a b = (x, j) := by
 unfold qaC
 rw [hx]
 have hr : ∀ l : List Cel, l.length = b.length → (l.drop x).reverse.take (b.length - j) = (l.drop j).reverse := fun l h => by
  rw [List.take_reverse, List.drop_drop, List.length_drop, h, show x + (b.length - x - (b.length - j)) = j by omega]
 have hg : ∀ l : List Cel, l.length = b.length → x < j → gc (l.drop x).reverse ((b.length - j : Nat) : Int) = gc l ((j : Int) - 1) := fun l h hj => by
  unfold gc
  rw [Int.toNat_natCast, List.getD_eq_getElem?_getD, List.getD_eq_getElem?_getD, List.getElem?_reverse (by rw [List.length_drop]; omega), List.getElem?_drop, List.length_drop, h, show x + (b.length - x - 1 - (b.length - j)) = ((j : Int) - 1).toNat by omega]
 rw [qcO (b.length - j) _ _ (by rw [List.length_reverse, List.length_drop]; omega) (by rw [List.length_reverse, List.length_drop]; omega) (by rw [hr a hl, hr b rfl, hd])]
 ·rw [show b.length - (b.length - j) = j by omega]
 ·by_cases hj : j = x
  ·refine .inl ?_
   rw [List.length_reverse, List.length_drop]; omega
  ·exact .inr (.inr (by rw [hg a hl (by omega), hg b rfl (by omega)]; exact he.resolve_left hj))
def wrK (l : List Cel) : Nat → ByteArray
 | 0 => ByteArray.empty
 | k + 1 =>
  let o := if k = 0 ∨ ¬ (gc l (k : Int)).sty = (gc l ((k : Int) - 1)).sty then wrK l k ++ qfv (gc l (k : Int)).sty else wrK l k
  if (gc l (k : Int)).rune = 0 then o else o ++ Utf8.encode (gc l (k : Int)).rune
def wrB (l : List Cel) : ByteArray := wrK l l.length
theorem qkk (a b : Sty) : ((a.bold == b.bold) && ((a.under == b.under) && ((a.turned == b.turned) && (((a.fore : Int) == b.fore) && (((a.back : Int) == b.back) && true))))) = decide (a = b) := by
 obtain ⟨b1, b2, b3, f, k⟩ := a
 obtain ⟨c1, c2, c3, f', k'⟩ := b
 rw [Bool.eq_iff_iff]
 simp
theorem gc_in {l : List Cel} {k : Nat} (h : k < l.length) : gc l (k : Int) ∈ l := by
 rw [gc_at h]; exact List.getElem_mem h
section
variable {l : List Cel} {k : Nat}
theorem qkl (h : k = 0 ∨ ¬ (gc l (k : Int)).sty = (gc l ((k : Int) - 1)).sty) (h2 : ¬ (gc l (k : Int)).rune = 0) : wrK l (k + 1) = wrK l k ++ qfv (gc l (k : Int)).sty ++ Utf8.encode (gc l (k : Int)).rune := by
 unfold wrK; dsimp only; rw [if_neg h2, if_pos h]; cases k <;> rfl
theorem wrK_sn (h : k = 0 ∨ ¬ (gc l (k : Int)).sty = (gc l ((k : Int) - 1)).sty) (h2 : (gc l (k : Int)).rune = 0) : wrK l (k + 1) = wrK l k ++ qfv (gc l (k : Int)).sty := by
 unfold wrK; dsimp only; rw [if_pos h2, if_pos h]; cases k <;> rfl
theorem wrK_ns (h : ¬ k = 0) (h1 : (gc l (k : Int)).sty = (gc l ((k : Int) - 1)).sty) (h2 : ¬ (gc l (k : Int)).rune = 0) : wrK l (k + 1) = wrK l k ++ Utf8.encode (gc l (k : Int)).rune := by
 unfold wrK; dsimp only; rw [if_neg h2, if_neg (fun h' => h'.elim h fun h' => h' h1)]; cases k <;> rfl
theorem wrK_nn (h : ¬ k = 0) (h1 : (gc l (k : Int)).sty = (gc l ((k : Int) - 1)).sty) (h2 : (gc l (k : Int)).rune = 0) : wrK l (k + 1) = wrK l k := by
 conv => lhs; unfold wrK
 dsimp only; rw [if_pos h2, if_neg (fun h' => h'.elim h fun h' => h' h1)]
end
theorem qgt {l m : List Cel} {j : Nat} (h0 : 0 < j) (hl : l.length = m.length) (hj : j ≤ m.length) (h : l.drop j = m.drop j) (e : gc l ((j : Int) - 1) = gc m ((j : Int) - 1)) : l.drop (j - 1) = m.drop (j - 1) := by
 rw [show ((j : Int) - 1) = ((j - 1 : Nat) : Int) by omega, gc_at (by omega), gc_at (by omega)] at e
 rw [List.drop_eq_getElem_cons (show j - 1 < l.length by omega), List.drop_eq_getElem_cons (show j - 1 < m.length by omega), e, show j - 1 + 1 = j by omega, h]
def dfK (A B : Gr) : Nat → ByteArray
 | 0 => ByteArray.empty
 | k + 1 =>
  let q := qaC (gl A (k : Int)) (gl B (k : Int))
  if q.1 < q.2 then dfK A B k ++ (toB q.1 k ++ wrB (((gl B (k : Int)).take q.2).drop q.1)) else dfK A B k
def hideB : ByteArray := ⟨#[27, 91, 63, 50, 53, 108]⟩
def showB : ByteArray := ⟨#[27, 91, 63, 50, 53, 104]⟩
structure Vw where
 g : Gr
 x : Int
 y : Int
 hid : Bool
abbrev noneB (o : ByteArray) : Bool := o.toList == ByteArray.empty.toList
theorem none_iff {o : ByteArray} : noneB o = true ↔ o.size = 0 := by
 constructor
 ·intro h
  rw [qhH (u := ByteArray.empty) h]; rfl
 ·intro h
  have : o = ByteArray.empty := ByteArray.ext (Array.ext (by simpa using h) (fun i hi => by have : o.data.size = 0 := h; omega))
  rw [this]; exact beq_self_eq_true _
theorem none_f {o : ByteArray} (h : noneB o = false) : ¬ o.size = 0 := fun e => Bool.false_ne_true (h.symm.trans (none_iff.2 e))
def df1 (A B : Vw) : ByteArray := if (dfK A.g B.g B.g.h.toNat).size = 0 then dfK A.g B.g B.g.h.toNat else dfK A.g B.g B.g.h.toNat ++ qfv qaR
def df2 (A B : Vw) : ByteArray := if ¬ (df1 A B).size = 0 ∨ ¬ A.x = B.x ∨ ¬ A.y = B.y then df1 A B ++ toB B.x B.y else df1 A B
def qbe (A B : Vw) : ByteArray := if B.hid = true ∧ A.hid = false then df2 A B ++ hideB else if A.hid = true ∧ B.hid = false then df2 A B ++ showB else df2 A B
theorem qaw : hideB.size = 6 := rfl
theorem qax : showB.size = 6 := rfl
theorem dfK_on {A B : Gr} {k x e : Nat} {l m : List Cel} (e1 : gl A (k : Int) = l) (e2 : gl B (k : Int) = m) (hE : qaC l m = (x, e)) (h : (x : Int) < e) : dfK A B (k + 1) = dfK A B k ++ (toB (x : Int) (k : Int) ++ wrB ((m.take e).drop x)) := by
 conv => lhs; unfold dfK
 dsimp only
 rw [e1, e2, hE, if_pos (by dsimp only; omega)]
theorem dfK_off {A B : Gr} {k x e : Nat} {l m : List Cel} (e1 : gl A (k : Int) = l) (e2 : gl B (k : Int) = m) (hE : qaC l m = (x, e)) (h : ¬ (x : Int) < e) : dfK A B (k + 1) = dfK A B k := by
 conv => lhs; unfold dfK
 dsimp only
 rw [e1, e2, hE, if_neg (by dsimp only; omega)]
def qc3 (s : Sty) : Prop := (0 ≤ s.fore ∧ s.fore ≤ 8) ∧ 0 ≤ s.back ∧ s.back ≤ 8
theorem qhN (r : Int) : (Utf8.encode r).size ≤ 4 := by
 unfold Utf8.encode
 generalize (if Utf8.valid r = true then r.toNat else Utf8.runeError) = c
 dsimp only
 split
 ·exact (show (1 : Nat) ≤ 4 by decide)
 ·split
  ·exact (show (2 : Nat) ≤ 4 by decide)
  ·split
   ·exact (show (3 : Nat) ≤ 4 by decide)
   ·exact Nat.le_refl 4
theorem qfy {l : List Cel} (h : ∀ c ∈ l, qc3 c.sty) (k : Nat) (hk : k ≤ l.length) : (wrK l k).size ≤ 31 * k := by
 induction k with
 | zero => exact Nat.le_refl _
 | succ k ih =>
  have h1 := ih (by omega)
  have hm : gc l (k : Int) ∈ l := by
   unfold gc
   rw [Int.toNat_natCast, List.getD_eq_getElem?_getD, List.getElem?_eq_getElem (by omega), Option.getD_some]
   exact List.getElem_mem _
  have h2 := qca (h _ hm)
  have h3 := qhN (gc l (k : Int)).rune
  unfold wrK
  dsimp only
  split <;> split <;> (try rw [ByteArray.size_append]) <;> (try rw [ByteArray.size_append]) <;> omega
theorem qfz (a b : List Cel) : (qaC a b).2 ≤ b.length := Nat.sub_le _ _
theorem qfA {A B : Gr} (h : ∀ l ∈ B.lines, l.length ≤ 60 ∧ ∀ c ∈ l, qc3 c.sty) (k : Nat) (hk : k ≤ B.lines.length) (hk2 : k ≤ 60) : (dfK A B k).size ≤ 1870 * k := by
 induction k with
 | zero => exact Nat.le_refl _
 | succ k ih =>
  have h1 := ih (by omega) (by omega)
  have hm : gl B (k : Int) ∈ B.lines := by
   unfold gl
   rw [Int.toNat_natCast, List.getD_eq_getElem?_getD, List.getElem?_eq_getElem (by omega), Option.getD_some]
   exact List.getElem_mem _
  have h2 := h _ hm
  have h3 := qfz (gl A (k : Int)) (gl B (k : Int))
  unfold dfK
  dsimp only
  split
  ·rename_i hq
   have h4 := qfw (x := ((qaC (gl A (k : Int)) (gl B (k : Int))).1 : Int)) (y := (k : Int)) (by omega) (by omega)
   have h5 := qfy (l := ((gl B (k : Int)).take (qaC (gl A (k : Int)) (gl B (k : Int))).2).drop (qaC (gl A (k : Int)) (gl B (k : Int))).1) (fun c hc => h2.2 c (List.mem_of_mem_take (List.mem_of_mem_drop hc))) _ (Nat.le_refl _)
   have h6 : (((gl B (k : Int)).take (qaC (gl A (k : Int)) (gl B (k : Int))).2).drop (qaC (gl A (k : Int)) (gl B (k : Int))).1).length ≤ 60 := by
    rw [List.length_drop, List.length_take]; omega
   unfold wrB
   simp only [ByteArray.size_append]
   omega
  ·omega
section
variable {w : World} {b o : Nat} {l : List Cel} {i : Int} (h : Rd w (some ⟨b, o, none⟩) (flat l)) (h0 : 0 ≤ i) (h1 : i < (l.length : Nat))
include h h0 h1
theorem qcP : w.cell? ⟨b, o + i.toNat * 6, none⟩ = some (.int .i32 (gc l i).rune) := qbu h (i.toNat * 6) _ (flat_get l i 0 h0 h1 (by decide))
theorem qt (k : Nat) (v : Value) (hk : k < 6) (hv : (gc l i).vals[k]? = some v) : w.cell? ⟨b, o + i.toNat * 6 + k, none⟩ = some v := by rw [Nat.add_assoc]; exact qbu h (i.toNat * 6 + k) _ (by rw [flat_get l i k h0 h1 hk]; exact hv)
end
section
variable {A B : Vw} (hok : ∀ l ∈ B.g.lines, l.length ≤ 60 ∧ ∀ c ∈ l, qc3 c.sty) (hl : B.g.h.toNat ≤ B.g.lines.length) (h60 : B.g.h.toNat ≤ 60)
include hok hl h60
theorem qhO : (df1 A B).size ≤ 112300 := by
 have h1 := qfA (A := A.g) hok B.g.h.toNat hl h60
 have h2 := qca (s := qaR) ⟨⟨Int.le_refl _, by decide⟩, Int.le_refl _, by decide⟩
 unfold df1
 split
 ·omega
 ·rw [ByteArray.size_append]; omega
theorem qhP (hx : 0 ≤ B.x ∧ B.x ≤ 60) (hy : 0 ≤ B.y ∧ B.y ≤ 60) : (df2 A B).size ≤ 112400 := by
 have h1 := qhO (A := A) hok hl h60
 have h2 := qfw hx hy
 unfold df2
 split
 ·rw [ByteArray.size_append]; omega
 ·omega
theorem qkm (hx : 0 ≤ B.x ∧ B.x ≤ 60) (hy : 0 ≤ B.y ∧ B.y ≤ 60) : (qbe A B).size ≤ 112500 := by
 have h1 := qhP (A := A) hok hl h60 hx hy
 have h2 := qaw
 have h3 := qax
 unfold qbe
 split
 ·rw [ByteArray.size_append]; omega
 ·split
  ·rw [ByteArray.size_append]; omega
  ·omega
end
theorem qiD {w : World} {b cap n : Nat} {l : List Cel} (h : Rd w (some ⟨b, 0, none⟩) (flat l)) (hl : l.length ≤ cap) : Rd w (some ⟨b, if cap = n then 0 else 0 + n * 6, none⟩) (flat (l.drop n)) := by
 by_cases e : cap = n
 ·rw [show l.drop n = [] from List.drop_eq_nil_of_le (by omega)]; exact Rd.nil _ _
 ·rw [if_neg e, ← qfV]
  refine ⟨(fun e => by cases e), fun ad e2 j u hj => ?_⟩
  cases e2
  rw [qbg, Nat.zero_add]
  rw [List.getElem?_drop] at hj
  have := qbu h (n * 6 + j) u hj
  rw [Nat.zero_add] at this
  exact this
theorem glq {w : World} {g r cap : Nat} {rows : List Row} {G : Gr} {F : Nat → Prop} {k : Nat} {q : Row} (h : GridIn w g r cap rows G F) (hq : rows[k]? = some q) : gl G (k : Int) = q.l := by
 unfold gl
 rw [Int.toNat_natCast, List.getD_eq_getElem?_getD, ← h.lines, List.getElem?_map, hq]; rfl
theorem qbG {P : Program} {N : Nat} {Q : Exit → Act → World → Prop} {f : Fr} {w : World} {x y : Code} {σ : Type} (f' : σ → Fr) (I : σ → World → Prop)
  (h1 : ∀ K : Act → World → Prop, (∀ s u, I s u → ∀ a, Has N (f' s) a → K a u) → WC P N (Exit.then K Q) x f w) (h2 : ∀ s u, I s u → WC P N Q y (f' s) u) : WC P N Q (.seq x y) f w :=
 x_seq fun K hK => h1 K fun s u hI a ha => hK (f' s) u (h2 s u hI) a ha
section
variable {w0 w w' : World} {F0 : Nat → Prop} {l : List Asn} {i : Nat}
theorem Sep.toOwn {b : Nat} {cs : List Value} {t : TypeId} (h : Sep w0 F0 w l) (i n sz : Nat) (hi : l[i]? = some (qbN b cs t) := by rfl) (hl : cs.length = n * sz := by rfl) (hn : n ≤ maxLen := by decide) : Sep w0 F0 w (l.set i (qel t sz (some b) n n cs)) := by
 obtain ⟨_, h⟩ := h.ref (B := fun _ : Unit => qel t sz (some b) n n cs) hi fun F hA => ⟨(), Own.blk hA.1 hl hn, fun c e => Option.some.inj e ▸ hA.2⟩
 exact h
theorem SepOn.ch {is : List Nat} (h : SepOn w0 F0 l is w) : Ch F0 w0 w := h.elim fun _ h => h.1.ch
theorem SepOn.rd {is : List Nat} {b o : Nat} {ys : List Value} (h : SepOn w0 (fun _ => False) l is w) (hr : Rd w0 (some ⟨b, o, none⟩) ys) : Rd w (some ⟨b, o, none⟩) ys := hr.ch h.ch fun _ _ h => h
def qdn (p : Nat) (G : Gr) : Asn := ⟨fun w F => GridAt w p G F, fun h hc hn => h.ch hc hn, fun h hF hl => h.mono hF hl⟩
theorem Sep.grid {p : Nat} {G : Gr} (h : Sep w0 F0 w l) (i : Nat) (hi : l[i]? = some (qdn p G) := by rfl) : ∃ F, GridAt w p G F := by
 obtain ⟨F, h1, _⟩ := h.at hi
 exact ⟨F, h1⟩
theorem Sep.gridNew {p : Nat} {G : Gr} (h : Sep w0 (fun _ => False) w l) (i : Nat) (hi : l[i]? = some (qdn p G) := by rfl) : ∃ F, GridAt w p G F ∧ ∀ b, F b → w0.heap.size ≤ b := by
 obtain ⟨F, h1, h2, h3⟩ := h.ex
 exact ⟨F i, h1 i _ hi, fun b hb => (h3 i b hb).1.elim False.elim id⟩
theorem Sep.newGrid {p : Nat} {G : Gr} {F : Nat → Prop} (h : Sep w0 F0 w l) (hG : GridAt w' p G F) (hlo : ∀ b, F b → w.heap.size ≤ b) (hc : Ch (fun _ => False) w w') : Sep w0 F0 w' (l ++ [qdn p G]) :=
 h.add (A := qdn p G) hG (fun b hb => ⟨hlo b hb, hG.lt b hb⟩) hc
theorem Sep.gwh {p : Nat} {G : Gr} (h : Sep w0 F0 w l) (i : Nat) (hi : l[i]? = some (qdn p G) := by rfl) : w.cell? ⟨p, 0, none⟩ = some (.int .i64 G.w) ∧ w.cell? ⟨p, 1, none⟩ = some (.int .i64 G.h) := by
 obtain ⟨F, r, rc, rows, hI⟩ := h.grid i hi
 exact ⟨hI.head.c 0, hI.head.c 1⟩
theorem Sep.glines {p : Nat} {G : Gr} (h : Sep w0 F0 w l) (i : Nat) (hi : l[i]? = some (qdn p G) := by rfl) : ∃ r rc, w.cell? ⟨p, 2, none⟩ = some (.slice (some ⟨r, 0, none⟩) G.h.toNat rc) := by
 obtain ⟨F, r, rc, rows, hI⟩ := h.grid i hi
 exact ⟨r, rc, hI.len ▸ hI.head.c 2⟩
theorem SepOn.gwh {is : List Nat} {p : Nat} {G : Gr} (h : SepOn w0 F0 l is w) (i : Nat) (hm : is.contains i = true := by rfl) (hi : l[i]? = some (qdn p G) := by rfl) : w.cell? ⟨p, 0, none⟩ = some (.int .i64 G.w) ∧ w.cell? ⟨p, 1, none⟩ = some (.int .i64 G.h) := by
 obtain ⟨l', h, e⟩ := h
 exact h.gwh i ((List.map_inj_left.1 e i (by simpa using hm)).trans hi)
theorem Sep.ownRd {e : TypeId} {sz b n cap : Nat} {xs : List Value} (h : Sep w0 F0 w l) (i : Nat) (hi : l[i]? = some (qel e sz (some b) n cap xs) := by rfl) : Rd w (some ⟨b, 0, none⟩) xs := (h.own i hi).rd
theorem Sep.own0 (h : Sep w0 F0 w l) (e : TypeId) (sz : Nat) : Sep w0 F0 w (l ++ [qel e sz none 0 0 []]) := h.fresh (Own.nil w e sz) (fun g e => by cases e) (Ch.refl _ _)
end
theorem qiE (s : Sty) (w : World) (hs : qc3 s) : Calls Tryz.prog 66 [.agg #[.bool s.bold, .bool s.under, .bool s.turned, iX s.fore, iX s.back]].toArray w fun e w' => ∃ b n c, e = .returned (.slice (some ⟨b, 0, none⟩) n c) ∧ (qB s).length = n ∧ Own w' tInt 1 (some b) n c ((qB s).map (Value.int .i64)) ∧ w.heap.size ≤ b ∧ Ch (fun _ => False) w w' := by
 obtain ⟨⟨O, P⟩, Q, R⟩ := hs; have h := Sep.nil w; refine yA Tryz.func66 rfl <| ysr <| yo (zN [.bool s.bold, .bool s.under, .bool s.turned, iX s.fore, iX s.back] 33 h fun u f h => ?_); refine yz 2 <| ysr <| yo (zB [iX 0] 3 1 h fun u x h => ?_); refine yz 2 <| ys <| ysr <| yp 14 [] (.l (h.c 0 0) (.l (h.c 0 1) (.l (h.c 0 2) (.l (h.c 0 3) (.l (h.c 0 4) .z))))) <| ye <| qa ?_; have h := h.toOwn 1 1 1; refine yU 6 (yU1 ?_); refine yx 1 <| ys <| yct <| yk <| qbG (σ := Nat × Nat × Nat) (fun ⟨o, n, c⟩ => [(1, pX f), (3, .slice (some ⟨o, 0, none⟩) n c), (19, .agg #[.bool s.bold, .bool s.under, .bool s.turned, .bool (decide (0 < s.fore)), .bool (decide (0 < s.back))]), (20, iX 0)]) (fun ⟨o, n, c⟩ u => (qcj s 1).length = n ∧ Sep w (fun _ => False) u [qbN f [.bool s.bold, .bool s.under, .bool s.turned, iX s.fore, iX s.back] 33, qel 3 1 (some o) n c ((qcj s 1).map (Value.int .i64))]) (fun S p => ?_) (fun gs u h => ?_)
 ·refine qa <| yx 4 <| yx 1 <| yc (rY s.bold) (fun g => ?_) fun g => ?_
  ·have d : (qY s).getD 0 false = true := by simp [qY, g]
   refine q7 <| yp 10 [] (.l (h.c 0 3) (.q6 (29 + s.fore) (.l (h.c 0 4) (.q6 (39 + s.back) .z)))) <| yo (zB [iX 1] 3 1 h fun u T h => ?_); refine yo (zA 1 8 1 1 (1 + 1) ((qcj s 1).map (Value.int .i64)) h (Rd.all (h.b 2)) rfl (hz := by rw [qaU d, List.map_append]; rfl) (hb := by have := qbq s 0; simp only [maxLen]; omega) fun u U y h A => ?_); obtain ⟨B, rfl⟩ := A (by omega); refine yq 13 <| yE (nB (fun a ha => p (B, (1 + 1), y) _ ⟨by rw [qaU d, List.length_append, (show (qcj s 0).length = 1 from rfl)]; rfl, h.take 2⟩ a (ha.kp [1, 3, 19, 20])))
  have d : ¬ (qY s).getD 0 false = true := by simp [qY, g]
  refine qi (nB (fun a ha => p (x, 1, 1) _ ⟨by rw [qak d]; exact (show (qcj s 0).length = 1 from rfl), by rw [qak d]; exact h.take 2⟩ a (ha.kp [1, 3, 19, 20])))
 obtain ⟨o, n, c⟩ := gs; obtain ⟨hl, h⟩ := h; refine q7 <| yp 2 [] (.q6 1 .z) <| yE (nU (yU1 ?_)); refine yx 1 <| ys <| yct <| yk <| qbG (σ := Nat × Nat × Nat) (fun ⟨o, n, c⟩ => [(1, pX f), (3, .slice (some ⟨o, 0, none⟩) n c), (19, .agg #[.bool s.bold, .bool s.under, .bool s.turned, .bool (decide (0 < s.fore)), .bool (decide (0 < s.back))]), (20, iX 1)]) (fun ⟨o, n, c⟩ u => (qcj s 2).length = n ∧ Sep w (fun _ => False) u [qbN f [.bool s.bold, .bool s.under, .bool s.turned, iX s.fore, iX s.back] 33, qel 3 1 (some o) n c ((qcj s 2).map (Value.int .i64))]) (fun V q => ?_) (fun gs u h => ?_)
 ·refine qa <| yx 4 <| yx 1 <| yc (rY s.under) (fun i => ?_) fun i => ?_
  ·have d : (qY s).getD 1 false = true := by simp [qY, i]
   refine q7 <| yp 10 [] (.l (h.c 0 3) (.q6 (29 + s.fore) (.l (h.c 0 4) (.q6 (39 + s.back) .z)))) <| yo (zB [iX 4] 3 1 h fun u W h => ?_); refine yo (zA 1 8 1 1 (n + 1) ((qcj s 2).map (Value.int .i64)) h (Rd.all (h.b 2)) rfl (hz := by rw [qaU d, List.map_append]; rfl) (hb := by have := qbq s 1; simp only [maxLen]; omega) fun u X C h D => ?_); obtain ⟨E, rfl⟩ := D (by omega); refine yq 13 <| yE (nB (fun a ha => q (E, (n + 1), C) _ ⟨by rw [qaU d, List.length_append, hl]; rfl, h.take 2⟩ a (ha.kp [1, 3, 19, 20])))
  have d : ¬ (qY s).getD 1 false = true := by simp [qY, i]
  refine qi (nB (fun a ha => q (o, n, c) _ ⟨by rw [qak d]; exact hl, by rw [qak d]; exact h.take 2⟩ a (ha.kp [1, 3, 19, 20])))
 obtain ⟨o, n, c⟩ := gs; obtain ⟨hl, h⟩ := h; refine q7 <| yp 2 [] (.q6 2 .z) <| yE (nU (yU1 ?_)); refine yx 1 <| ys <| yct <| yk <| qbG (σ := Nat × Nat × Nat) (fun ⟨o, n, c⟩ => [(1, pX f), (3, .slice (some ⟨o, 0, none⟩) n c), (19, .agg #[.bool s.bold, .bool s.under, .bool s.turned, .bool (decide (0 < s.fore)), .bool (decide (0 < s.back))]), (20, iX 2)]) (fun ⟨o, n, c⟩ u => (qcj s 3).length = n ∧ Sep w (fun _ => False) u [qbN f [.bool s.bold, .bool s.under, .bool s.turned, iX s.fore, iX s.back] 33, qel 3 1 (some o) n c ((qcj s 3).map (Value.int .i64))]) (fun Y r => ?_) (fun gs u h => ?_)
 ·refine qa <| yx 4 <| yx 1 <| yc (rY s.turned) (fun j => ?_) fun j => ?_
  ·have d : (qY s).getD 2 false = true := by simp [qY, j]
   refine q7 <| yp 10 [] (.l (h.c 0 3) (.q6 (29 + s.fore) (.l (h.c 0 4) (.q6 (39 + s.back) .z)))) <| yo (zB [iX 7] 3 1 h fun u Z h => ?_); refine yo (zA 1 8 1 1 (n + 1) ((qcj s 3).map (Value.int .i64)) h (Rd.all (h.b 2)) rfl (hz := by rw [qaU d, List.map_append]; rfl) (hb := by have := qbq s 2; simp only [maxLen]; omega) fun u a0 F h G => ?_); obtain ⟨H, rfl⟩ := G (by omega); refine yq 13 <| yE (nB (fun a ha => r (H, (n + 1), F) _ ⟨by rw [qaU d, List.length_append, hl]; rfl, h.take 2⟩ a (ha.kp [1, 3, 19, 20])))
  have d : ¬ (qY s).getD 2 false = true := by simp [qY, j]
  refine qi (nB (fun a ha => r (o, n, c) _ ⟨by rw [qak d]; exact hl, by rw [qak d]; exact h.take 2⟩ a (ha.kp [1, 3, 19, 20])))
 obtain ⟨o, n, c⟩ := gs; obtain ⟨hl, h⟩ := h; refine q7 <| yp 2 [] (.q6 3 .z) <| yE (nU (yU1 ?_)); refine yx 1 <| ys <| yct <| yk <| qbG (σ := Nat × Nat × Nat) (fun ⟨o, n, c⟩ => [(1, pX f), (3, .slice (some ⟨o, 0, none⟩) n c), (19, .agg #[.bool s.bold, .bool s.under, .bool s.turned, .bool (decide (0 < s.fore)), .bool (decide (0 < s.back))]), (20, iX 3)]) (fun ⟨o, n, c⟩ u => (qcj s 4).length = n ∧ Sep w (fun _ => False) u [qbN f [.bool s.bold, .bool s.under, .bool s.turned, iX s.fore, iX s.back] 33, qel 3 1 (some o) n c ((qcj s 4).map (Value.int .i64))]) (fun a1 t => ?_) (fun gs u h => ?_)
 ·refine qa <| yx 4 <| yx 1 <| yc (rL 0 s.fore) (fun k => ?_) fun k => ?_
  ·have d : (qY s).getD 3 false = true := by simp [qY, k]
   refine q7 <| yp 10 [] (.l (h.c 0 3) (.q6 (29 + s.fore) (.l (h.c 0 4) (.q6 (39 + s.back) .z)))) <| yo (zB [iX (29 + s.fore)] 3 1 h fun u a2 h => ?_); refine yo (zA 1 8 1 1 (n + 1) ((qcj s 4).map (Value.int .i64)) h (Rd.all (h.b 2)) rfl (hz := by rw [qaU d, List.map_append]; rfl) (hb := by have := qbq s 3; simp only [maxLen]; omega) fun u a3 I h J => ?_); obtain ⟨K, rfl⟩ := J (by omega); refine yq 13 <| yE (nB (fun a ha => t (K, (n + 1), I) _ ⟨by rw [qaU d, List.length_append, hl]; rfl, h.take 2⟩ a (ha.kp [1, 3, 19, 20])))
  have d : ¬ (qY s).getD 3 false = true := by simp [qY, k]
  refine qi (nB (fun a ha => t (o, n, c) _ ⟨by rw [qak d]; exact hl, by rw [qak d]; exact h.take 2⟩ a (ha.kp [1, 3, 19, 20])))
 obtain ⟨o, n, c⟩ := gs; obtain ⟨hl, h⟩ := h; refine q7 <| yp 2 [] (.q6 4 .z) <| yE (nU (yU1 ?_)); refine yx 1 <| ys <| yct <| yk <| qbG (σ := Nat × Nat × Nat) (fun ⟨o, n, c⟩ => [(1, pX f), (3, .slice (some ⟨o, 0, none⟩) n c), (19, .agg #[.bool s.bold, .bool s.under, .bool s.turned, .bool (decide (0 < s.fore)), .bool (decide (0 < s.back))]), (20, iX 4)]) (fun ⟨o, n, c⟩ u => (qcj s 5).length = n ∧ Sep w (fun _ => False) u [qbN f [.bool s.bold, .bool s.under, .bool s.turned, iX s.fore, iX s.back] 33, qel 3 1 (some o) n c ((qcj s 5).map (Value.int .i64))]) (fun a4 v => ?_) (fun gs u h => ?_)
 ·refine qa <| yx 4 <| yx 1 <| yc (rL 0 s.back) (fun m => ?_) fun m => ?_
  ·have d : (qY s).getD 4 false = true := by simp [qY, m]
   refine q7 <| yp 10 [] (.l (h.c 0 3) (.q6 (29 + s.fore) (.l (h.c 0 4) (.q6 (39 + s.back) .z)))) <| yo (zB [iX (39 + s.back)] 3 1 h fun u a5 h => ?_); refine yo (zA 1 8 1 1 (n + 1) ((qcj s 5).map (Value.int .i64)) h (Rd.all (h.b 2)) rfl (hz := by rw [qaU d, List.map_append]; rfl) (hb := by have := qbq s 4; simp only [maxLen]; omega) fun u a6 L h M => ?_); obtain ⟨N, rfl⟩ := M (by omega); refine yq 13 <| yE (nB (fun a ha => v (N, (n + 1), L) _ ⟨by rw [qaU d, List.length_append, hl]; rfl, h.take 2⟩ a (ha.kp [1, 3, 19, 20])))
  have d : ¬ (qY s).getD 4 false = true := by simp [qY, m]
  refine qi (nB (fun a ha => v (o, n, c) _ ⟨by rw [qak d]; exact hl, by rw [qak d]; exact h.take 2⟩ a (ha.kp [1, 3, 19, 20])))
 obtain ⟨o, n, c⟩ := gs; obtain ⟨hl, h⟩ := h; refine q7 <| yp 2 [] (.q6 5 .z) <| yE (nU (yU1 ?_)); refine yx 1 <| ys <| ycf <| qp (eS (qf (qb (nS ?_)))); refine yx 2 <| q9 (yR1 (.slice (some ⟨o, 0, none⟩) n c) ?_); exact ⟨o, n, c, rfl, hl, h.own 1, ((h.newo 1) _ rfl).1, h.ch⟩
theorem qd8 (s : Sty) (w : World) (hT : LT w) (hs : qc3 s) : Calls Tryz.prog 39 [.agg #[.bool s.bold, .bool s.under, .bool s.turned, iX s.fore, iX s.back]].toArray w fun e w' => e = .returned (.string (qfv s)) ∧ Ch (fun _ => False) w w' := by
 have h := Sep.nil w; refine yA Tryz.func39 rfl <| ysr <| yo (zN [.bool s.bold, .bool s.under, .bool s.turned, iX s.fore, iX s.back] 33 h fun u j h => ?_); refine yz 2 <| yx 1 <| ys <| ysr <| yp 1 [] (.a (h.cs 0 0 5) .z) <| yo (yC (qiE s _ hs) ?_); rintro _ u ⟨c, b, d, rfl, m, r, t, v⟩; refine ⟨_, rfl, ?_⟩; have h := h.fresh r (fun g e => zi e ▸ t) v; refine yz 4 <| qa <| qZ [3, 7, 8, 9] (f' := [(3, .string csiB), (7, .slice (some ⟨c, 0, none⟩) b d), (8, iX ((b : Nat) : Int)), (9, iX 0)]) <| qD (σ := Nat) (fun k => [(3, .string (qgr (qB s) k)), (7, .slice (some ⟨c, 0, none⟩) b d), (8, iX ((b : Nat) : Int)), (9, iX ((k : Nat) : Int))]) (fun k u => k ≤ (qB s).length ∧ Sep w (fun _ => False) u [qbN j [.bool s.bold, .bool s.under, .bool s.turned, iX s.fore, iX s.back] 33, qel 3 1 (some c) b d ((qB s).map (Value.int .i64))]) (fun k => (qB s).length - k) 0 rfl ?_ ?_
 ·exact ⟨Nat.zero_le _, h.take 2⟩
 intro k u y D f; obtain ⟨hk, h⟩ := y; have E : (qgr (qB s) k).size ≤ 2 + 4 * k := qgs (fun x hx => by have := qfu hs 5 (Nat.le_refl _) x hx; omega) k (by omega); have F : (qB s).length ≤ 6 := qbq s 5; refine yx 1 <| ys <| yc (rL ((k : Nat) : Int) ((b : Nat) : Int)) (fun A => ?_) fun A => ?_
 ·have hg := qfu hs 5 (Nat.le_refl _) _ (qkj (l := qB s) (k := k) (by omega)); have G := qbF (n := (qB s).getD k 0) (by omega) (by omega); refine yk <| ys <| qa <| ysr <| yp 5 [] (.i ((k : Nat) : Int) (b) (.l (o := (0 + (((k : Nat) : Int)).toNat * 1)) (qb6 (h.own 1).rd k (by omega)) .z)) <| ye <| ys <| yx 2 <| yc (rL 0 ((k : Nat) : Int)) (fun B => ?_) fun B => ?_
  ·refine q7 <| yp 3 [] (.p (q := ((qgr (qB s) k)).size + (semB).size ≤ 9223372036854775807) (by (try simp only [ByteArray.size_append, qb0, qaM, qck, qcN]); omega) .z) <| ye <| q7 <| yq 2 <| yo (yQ (h.look (qbo ((qB s).getD k 0) _ (qC h.ch hT (fun _ h => h.elim)).pt (by omega) (by omega))) fun u h => ?_); refine yp 5 [] (.p (q := (((qgr (qB s) k) ++ semB)).size + ((qa0 ((qB s).getD k 0))).size ≤ 9223372036854775807) (by (try simp only [ByteArray.size_append, qb0, qaM, qck, qcN]); omega) .z) <| yE (nB (nS ?_)); refine q7 <| yp 2 [] (.q6 (((k : Nat) : Int) + 1) .z) <| yE (fun a ha => f (k + 1) _ ⟨by omega, h.take 2⟩ (by show (qB s).length - (k + 1) < (qB s).length - k; omega) a (by rw [qki (by omega)]; exact ha.kp [3, 7, 8, 9]))
  refine yk <| q7 <| yq 2 <| yo (yQ (h.look (qbo ((qB s).getD k 0) _ (qC h.ch hT (fun _ h => h.elim)).pt (by omega) (by omega))) fun u h => ?_); refine yp 5 [] (.p (q := ((qgr (qB s) k)).size + ((qa0 ((qB s).getD k 0))).size ≤ 9223372036854775807) (by (try simp only [ByteArray.size_append, qb0, qaM, qck, qcN]); omega) .z) <| yE (nB (nS ?_)); refine q7 <| yp 2 [] (.q6 (((k : Nat) : Int) + 1) .z) <| yE (fun a ha => f (k + 1) _ ⟨by omega, h.take 2⟩ (by show (qB s).length - (k + 1) < (qB s).length - k; omega) a (by rw [qhM (by omega)]; exact ha.kp [3, 7, 8, 9]))
 have C : k = b := by omega
 refine qp (eS (qf (qb (nS ?_)))); refine ysr <| yp 3 [] (.p (q := ((qgr (qB s) k)).size + (mB).size ≤ 9223372036854775807) (by (try simp only [ByteArray.size_append, qb0, qaM, qck, qcN]); omega) .z) <| ye <| q9 (yR1 (.string ((qgr (qB s) k) ++ mB)) ?_); refine ⟨?_, h.ch⟩; unfold qfv; rw [m, ← C]
theorem qhQ (x y : Int) (w : World) (hT : LT w) (hx : 0 ≤ x ∧ x ≤ 60) (hy : 0 ≤ y ∧ y ≤ 60) : Calls Tryz.prog 37 [iX x, iX y].toArray w fun e w' => e = .returned (.string (toB x y)) ∧ Ch (fun _ => False) w w' := by
 have a := qbF (n := x + 1) (by omega) (by omega); have b := qbF (n := y + 1) (by omega) (by omega); have h := Sep.nil w; refine yA Tryz.func37 rfl <| yx 1 <| ysr <| yp 2 [] (.q6 (y + 1) .z) <| yo (yQ (h.look (qbo (y + 1) _ (qC h.ch hT (fun _ h => h.elim)).pt (by omega) (by omega))) fun u h => ?_); refine yp 7 [] (.p (q := (csiB).size + ((qa0 (y + 1))).size ≤ 9223372036854775807) (by (try simp only [ByteArray.size_append, qb0, qaM, qck, qcN]); omega) (.p (q := ((csiB ++ (qa0 (y + 1)))).size + (semB).size ≤ 9223372036854775807) (by (try simp only [ByteArray.size_append, qb0, qaM, qck, qcN]); omega) (.q6 (x + 1) .z))) <| yo (yQ (h.look (qbo (x + 1) _ (qC h.ch hT (fun _ h => h.elim)).pt (by omega) (by omega))) fun u h => ?_); refine yp 11 [] (.p (q := (((csiB ++ (qa0 (y + 1))) ++ semB)).size + ((qa0 (x + 1))).size ≤ 9223372036854775807) (by (try simp only [ByteArray.size_append, qb0, qaM, qck, qcN]); omega) (.p (q := ((((csiB ++ (qa0 (y + 1))) ++ semB) ++ (qa0 (x + 1)))).size + (hB).size ≤ 9223372036854775807) (by (try simp only [ByteArray.size_append, qb0, qaM, qck, qcN]); omega) .z)) <| ye <| q9 (yR1 (.string ((((csiB ++ (qa0 (y + 1))) ++ semB) ++ (qa0 (x + 1))) ++ hB)) ?_); exact ⟨rfl, h.ch⟩
theorem ends_any (b1 b2 c1 c2 n1 n2 x e : Nat) (l m : List Cel) (w : World) (h1 : Rd w (some ⟨b1, 0, none⟩) (flat l)) (h2 : Rd w (some ⟨b2, 0, none⟩) (flat m)) (hn1 : l.length = n1) (hn2 : m.length = n2) (hl : l.length = m.length) (hm : m.length ≤ 60) (hE : qaC l m = (x, e)) : Calls Tryz.prog 36 [.slice (some ⟨b1, 0, none⟩) n1 c1, .slice (some ⟨b2, 0, none⟩) n2 c2].toArray w fun r w' => r = .returned (.tuple #[iX (x : Int), iX (e : Int)]) ∧ Ch (fun _ => False) w w' := by
 subst hn1 hn2; have h := Sep.nil w; refine yA Tryz.func36 rfl <| yx 2 <| yx 4 <| ys <| qa <| qZ [0, 1, 6, 7] (f' := [(0, .slice (some ⟨b1, 0, none⟩) l.length c1), (1, .slice (some ⟨b2, 0, none⟩) m.length c2), (6, iX 0), (7, iX ((m.length : Nat) : Int))]) <| qD (σ := Nat) (fun k => [(0, .slice (some ⟨b1, 0, none⟩) l.length c1), (1, .slice (some ⟨b2, 0, none⟩) m.length c2), (6, iX ((k : Nat) : Int)), (7, iX ((m.length : Nat) : Int))]) (fun k u => k ≤ m.length ∧ l.take k = m.take k ∧ Sep w (fun _ => False) u []) (fun k => m.length - k) 0 rfl ?_ ?_
 ·exact ⟨Nat.zero_le _, rfl, h.take 0⟩
 intro k u s E t; obtain ⟨hk, o, h⟩ := s; refine ys <| ys <| zD [] h fun u h => yd (uL 0 4) [] .z <| yv [13] (rL ((k : Nat) : Int) ((m.length : Nat) : Int)) (fun v => ?_) fun v => ?_
 ·refine yd (uL 4 10) [] (.i ((k : Nat) : Int) (l.length) (.m (qcP (i := ((k : Nat) : Int)) (h.rd h1) (by omega) (by omega)) (.m (qt (i := ((k : Nat) : Int)) (h.rd h1) (by omega) (by omega) 1 _ (by decide) rfl) (.m (qt (i := ((k : Nat) : Int)) (h.rd h1) (by omega) (by omega) 2 _ (by decide) rfl) (.m (qt (i := ((k : Nat) : Int)) (h.rd h1) (by omega) (by omega) 3 _ (by decide) rfl) (.m (qt (i := ((k : Nat) : Int)) (h.rd h1) (by omega) (by omega) 4 _ (by decide) rfl) (.m (qt (i := ((k : Nat) : Int)) (h.rd h1) (by omega) (by omega) 5 _ (by decide) rfl) (.e (.i ((k : Nat) : Int) (m.length) (.m (qcP (i := ((k : Nat) : Int)) (h.rd h2) (by omega) (by omega)) (.m (qt (i := ((k : Nat) : Int)) (h.rd h2) (by omega) (by omega) 1 _ (by decide) rfl) (.m (qt (i := ((k : Nat) : Int)) (h.rd h2) (by omega) (by omega) 2 _ (by decide) rfl) (.m (qt (i := ((k : Nat) : Int)) (h.rd h2) (by omega) (by omega) 3 _ (by decide) rfl) (.m (qt (i := ((k : Nat) : Int)) (h.rd h2) (by omega) (by omega) 4 _ (by decide) rfl) (.m (qt (i := ((k : Nat) : Int)) (h.rd h2) (by omega) (by omega) 5 _ (by decide) rfl) (.e .z)))))))))))))))) <| yDe (nS ?_); refine yc (rY ((((gc l ((k : Nat) : Int)).rune : Int) == (gc m ((k : Nat) : Int)).rune) && ((((gc l ((k : Nat) : Int)).sty.bold == (gc m ((k : Nat) : Int)).sty.bold) && (((gc l ((k : Nat) : Int)).sty.under == (gc m ((k : Nat) : Int)).sty.under) && (((gc l ((k : Nat) : Int)).sty.turned == (gc m ((k : Nat) : Int)).sty.turned) && ((((gc l ((k : Nat) : Int)).sty.fore : Int) == (gc m ((k : Nat) : Int)).sty.fore) && ((((gc l ((k : Nat) : Int)).sty.back : Int) == (gc m ((k : Nat) : Int)).sty.back) && true))))) && true))) (fun c => ?_) fun c => ?_
  ·rw [qc2] at c; have d := eq_of_beq c; refine yk <| qa <| q7 <| yp 3 [] (.q6 (((k : Nat) : Int) + 1) .z) <| yE (nB  (fun a ha => t (k + 1) _ ⟨by omega, qdX o (by omega) (by omega) (by rw [← gc_at (by omega), ← gc_at (by omega)]; exact d), h.take 0⟩ (by show m.length - (k + 1) < m.length - k; omega) a (ha.kp [0, 1, 6, 7])))
  rw [qc2] at c; have y : ¬ _ := fun e => absurd (beq_iff_eq.2 e) (by rw [c]; decide); have hx : qH l m = k := qcO k l m (by omega) (by omega) o (.inr (.inr y)); refine qp (eS (qf (qb (nS ?_)))); refine ys <| qa <| qZ [0, 1, 6, 7] (f' := [(0, .slice (some ⟨b1, 0, none⟩) l.length c1), (1, .slice (some ⟨b2, 0, none⟩) m.length c2), (6, iX ((k : Nat) : Int)), (7, iX ((m.length : Nat) : Int))]) <| qD (σ := Nat) (fun j => [(0, .slice (some ⟨b1, 0, none⟩) l.length c1), (1, .slice (some ⟨b2, 0, none⟩) m.length c2), (6, iX ((k : Nat) : Int)), (7, iX ((j : Nat) : Int))]) (fun j u => k ≤ j ∧ j ≤ m.length ∧ l.drop j = m.drop j ∧ Sep w (fun _ => False) u []) (fun j => j) m.length rfl ?_ ?_
  ·exact ⟨hk, Nat.le_refl _, by rw [List.drop_length, ← hl, List.drop_length], h.take 0⟩
  intro j u A F B; obtain ⟨f, b, hd, h⟩ := A; refine ys <| ys <| zD [] h fun u h => yd (uL 0 4) [] .z <| yv [29] (rL ((k : Nat) : Int) ((j : Nat) : Int)) (fun p => ?_) fun p => ?_
  ·refine yd (uL 4 12) [] (.q6 (((j : Nat) : Int) - 1) (.i (((j : Nat) : Int) - 1) (l.length) (.m (qcP (i := (((j : Nat) : Int) - 1)) (h.rd h1) (by omega) (by omega)) (.m (qt (i := (((j : Nat) : Int) - 1)) (h.rd h1) (by omega) (by omega) 1 _ (by decide) rfl) (.m (qt (i := (((j : Nat) : Int) - 1)) (h.rd h1) (by omega) (by omega) 2 _ (by decide) rfl) (.m (qt (i := (((j : Nat) : Int) - 1)) (h.rd h1) (by omega) (by omega) 3 _ (by decide) rfl) (.m (qt (i := (((j : Nat) : Int) - 1)) (h.rd h1) (by omega) (by omega) 4 _ (by decide) rfl) (.m (qt (i := (((j : Nat) : Int) - 1)) (h.rd h1) (by omega) (by omega) 5 _ (by decide) rfl) (.e (.q6 (((j : Nat) : Int) - 1) (.i (((j : Nat) : Int) - 1) (m.length) (.m (qcP (i := (((j : Nat) : Int) - 1)) (h.rd h2) (by omega) (by omega)) (.m (qt (i := (((j : Nat) : Int) - 1)) (h.rd h2) (by omega) (by omega) 1 _ (by decide) rfl) (.m (qt (i := (((j : Nat) : Int) - 1)) (h.rd h2) (by omega) (by omega) 2 _ (by decide) rfl) (.m (qt (i := (((j : Nat) : Int) - 1)) (h.rd h2) (by omega) (by omega) 3 _ (by decide) rfl) (.m (qt (i := (((j : Nat) : Int) - 1)) (h.rd h2) (by omega) (by omega) 4 _ (by decide) rfl) (.m (qt (i := (((j : Nat) : Int) - 1)) (h.rd h2) (by omega) (by omega) 5 _ (by decide) rfl) (.e .z)))))))))))))))))) <| yDe (nS ?_); refine yc (rY ((((gc l (((j : Nat) : Int) - 1)).rune : Int) == (gc m (((j : Nat) : Int) - 1)).rune) && ((((gc l (((j : Nat) : Int) - 1)).sty.bold == (gc m (((j : Nat) : Int) - 1)).sty.bold) && (((gc l (((j : Nat) : Int) - 1)).sty.under == (gc m (((j : Nat) : Int) - 1)).sty.under) && (((gc l (((j : Nat) : Int) - 1)).sty.turned == (gc m (((j : Nat) : Int) - 1)).sty.turned) && ((((gc l (((j : Nat) : Int) - 1)).sty.fore : Int) == (gc m (((j : Nat) : Int) - 1)).sty.fore) && ((((gc l (((j : Nat) : Int) - 1)).sty.back : Int) == (gc m (((j : Nat) : Int) - 1)).sty.back) && true))))) && true))) (fun g => ?_) fun g => ?_
   ·rw [qc2] at g; have d := eq_of_beq g; refine yk <| qa <| q7 <| yp 3 [] (.q6 (((j : Nat) : Int) - 1) .z) <| yE (nB  (fun a ha => B (j - 1) _ ⟨by omega, by omega, qgt (by omega) hl b hd d, h.take 0⟩ (by show j - 1 < j; omega) a (by rw [show ((j - 1 : Nat) : Int) = (j : Int) - 1 by omega]; exact ha.kp [0, 1, 6, 7])))
   rw [qc2] at g; have q : ¬ _ := fun e => absurd (beq_iff_eq.2 e) (by rw [g]; decide); refine qp (eS (qf (qb (nS ?_)))); refine yx 4 <| q9 (yR2 [iX ((k : Nat) : Int), iX ((j : Nat) : Int)] .z ?_); obtain ⟨rfl, rfl⟩ := Prod.mk.inj ((qdx hl hx f b hd (.inr q)).symm.trans hE); exact ⟨rfl, h.ch⟩
  refine yd (uL 4 12) [] .z <| yDe (nS ?_); refine ycf <| qp (eS (qf (qb (nS ?_)))); refine yx 4 <| q9 (yR2 [iX ((k : Nat) : Int), iX ((j : Nat) : Int)] .z ?_); obtain ⟨rfl, rfl⟩ := Prod.mk.inj ((qdx hl hx f b hd (.inl (by omega))).symm.trans hE); exact ⟨rfl, h.ch⟩
 have hx : qH l m = k := qcO k l m (by omega) (by omega) o (.inl (by omega)); refine yd (uL 4 10) [] .z <| yDe (nS ?_); refine ycf <| qp (eS (qf (qb (nS ?_)))); refine ys <| qa <| qZ [0, 1, 6, 7] (f' := [(0, .slice (some ⟨b1, 0, none⟩) l.length c1), (1, .slice (some ⟨b2, 0, none⟩) m.length c2), (6, iX ((k : Nat) : Int)), (7, iX ((m.length : Nat) : Int))]) <| qD (σ := Nat) (fun j => [(0, .slice (some ⟨b1, 0, none⟩) l.length c1), (1, .slice (some ⟨b2, 0, none⟩) m.length c2), (6, iX ((k : Nat) : Int)), (7, iX ((j : Nat) : Int))]) (fun j u => k ≤ j ∧ j ≤ m.length ∧ l.drop j = m.drop j ∧ Sep w (fun _ => False) u []) (fun j => j) m.length rfl ?_ ?_
 ·exact ⟨hk, Nat.le_refl _, by rw [List.drop_length, ← hl, List.drop_length], h.take 0⟩
 intro j u C G D; obtain ⟨f, b, hd, h⟩ := C; refine ys <| ys <| zD [] h fun u h => yd (uL 0 4) [] .z <| yv [29] (rL ((k : Nat) : Int) ((j : Nat) : Int)) (fun p => ?_) fun p => ?_
 ·refine yd (uL 4 12) [] (.q6 (((j : Nat) : Int) - 1) (.i (((j : Nat) : Int) - 1) (l.length) (.m (qcP (i := (((j : Nat) : Int) - 1)) (h.rd h1) (by omega) (by omega)) (.m (qt (i := (((j : Nat) : Int) - 1)) (h.rd h1) (by omega) (by omega) 1 _ (by decide) rfl) (.m (qt (i := (((j : Nat) : Int) - 1)) (h.rd h1) (by omega) (by omega) 2 _ (by decide) rfl) (.m (qt (i := (((j : Nat) : Int) - 1)) (h.rd h1) (by omega) (by omega) 3 _ (by decide) rfl) (.m (qt (i := (((j : Nat) : Int) - 1)) (h.rd h1) (by omega) (by omega) 4 _ (by decide) rfl) (.m (qt (i := (((j : Nat) : Int) - 1)) (h.rd h1) (by omega) (by omega) 5 _ (by decide) rfl) (.e (.q6 (((j : Nat) : Int) - 1) (.i (((j : Nat) : Int) - 1) (m.length) (.m (qcP (i := (((j : Nat) : Int) - 1)) (h.rd h2) (by omega) (by omega)) (.m (qt (i := (((j : Nat) : Int) - 1)) (h.rd h2) (by omega) (by omega) 1 _ (by decide) rfl) (.m (qt (i := (((j : Nat) : Int) - 1)) (h.rd h2) (by omega) (by omega) 2 _ (by decide) rfl) (.m (qt (i := (((j : Nat) : Int) - 1)) (h.rd h2) (by omega) (by omega) 3 _ (by decide) rfl) (.m (qt (i := (((j : Nat) : Int) - 1)) (h.rd h2) (by omega) (by omega) 4 _ (by decide) rfl) (.m (qt (i := (((j : Nat) : Int) - 1)) (h.rd h2) (by omega) (by omega) 5 _ (by decide) rfl) (.e .z)))))))))))))))))) <| yDe (nS ?_); refine yc (rY ((((gc l (((j : Nat) : Int) - 1)).rune : Int) == (gc m (((j : Nat) : Int) - 1)).rune) && ((((gc l (((j : Nat) : Int) - 1)).sty.bold == (gc m (((j : Nat) : Int) - 1)).sty.bold) && (((gc l (((j : Nat) : Int) - 1)).sty.under == (gc m (((j : Nat) : Int) - 1)).sty.under) && (((gc l (((j : Nat) : Int) - 1)).sty.turned == (gc m (((j : Nat) : Int) - 1)).sty.turned) && ((((gc l (((j : Nat) : Int) - 1)).sty.fore : Int) == (gc m (((j : Nat) : Int) - 1)).sty.fore) && ((((gc l (((j : Nat) : Int) - 1)).sty.back : Int) == (gc m (((j : Nat) : Int) - 1)).sty.back) && true))))) && true))) (fun n => ?_) fun n => ?_
  ·rw [qc2] at n; have d := eq_of_beq n; refine yk <| qa <| q7 <| yp 3 [] (.q6 (((j : Nat) : Int) - 1) .z) <| yE (nB  (fun a ha => D (j - 1) _ ⟨by omega, by omega, qgt (by omega) hl b hd d, h.take 0⟩ (by show j - 1 < j; omega) a (by rw [show ((j - 1 : Nat) : Int) = (j : Int) - 1 by omega]; exact ha.kp [0, 1, 6, 7])))
  rw [qc2] at n; have q : ¬ _ := fun e => absurd (beq_iff_eq.2 e) (by rw [n]; decide); refine qp (eS (qf (qb (nS ?_)))); refine yx 4 <| q9 (yR2 [iX ((k : Nat) : Int), iX ((j : Nat) : Int)] .z ?_); obtain ⟨rfl, rfl⟩ := Prod.mk.inj ((qdx hl hx f b hd (.inr q)).symm.trans hE); exact ⟨rfl, h.ch⟩
 refine yd (uL 4 12) [] .z <| yDe (nS ?_); refine ycf <| qp (eS (qf (qb (nS ?_)))); refine yx 4 <| q9 (yR2 [iX ((k : Nat) : Int), iX ((j : Nat) : Int)] .z ?_); obtain ⟨rfl, rfl⟩ := Prod.mk.inj ((qdx hl hx f b hd (.inl (by omega))).symm.trans hE); exact ⟨rfl, h.ch⟩
theorem qiF (b o c n : Nat) (l : List Cel) (w : World) (hT : LT w) (hr : Rd w (some ⟨b, o, none⟩) (flat l)) (hn : l.length = n) (hl : l.length ≤ 60) (hok : ∀ c ∈ l, qc3 c.sty) : Calls Tryz.prog 38 [.slice (some ⟨b, o, none⟩) n c].toArray w fun e w' => e = .returned (.string (wrB l)) ∧ Ch (fun _ => False) w w' := by
 subst hn; have h := Sep.nil w; refine yA Tryz.func38 rfl <| yx 1 <| yx 1 <| ys <| yx 3 <| qa <| qZ [0, 3, 6, 7, 8] (f' := [(0, .slice (some ⟨b, o, none⟩) l.length c), (3, oX), (6, .slice (some ⟨b, o, none⟩) l.length c), (7, iX ((l.length : Nat) : Int)), (8, iX 0)]) <| qD (σ := Nat) (fun k => [(0, .slice (some ⟨b, o, none⟩) l.length c), (3, .string (wrK l k)), (6, .slice (some ⟨b, o, none⟩) l.length c), (7, iX ((l.length : Nat) : Int)), (8, iX ((k : Nat) : Int))]) (fun k u => k ≤ l.length ∧ Sep w (fun _ => False) u []) (fun k => l.length - k) 0 rfl ?_ ?_
 ·exact ⟨Nat.zero_le _, h.take 0⟩
 intro k u t A f; obtain ⟨hk, h⟩ := t; have B : (wrK l k).size ≤ 31 * k := qfy hok k (by omega); refine yx 1 <| ys <| yc (rL ((k : Nat) : Int) ((l.length : Nat) : Int)) (fun v => ?_) fun v => ?_
 ·have s := hok _ (gc_in (l := l) (k := k) (by omega)); have C := qca s; have D := qhN (gc l ((k : Nat) : Int)).rune; refine yk <| ys <| qa <| ysr <| yp 3 [] (.i ((k : Nat) : Int) (l.length) (.m (qcP (i := ((k : Nat) : Int)) (h.rd hr) (by omega) (by omega)) (.m (qt (i := ((k : Nat) : Int)) (h.rd hr) (by omega) (by omega) 1 _ (by decide) rfl) (.m (qt (i := ((k : Nat) : Int)) (h.rd hr) (by omega) (by omega) 2 _ (by decide) rfl) (.m (qt (i := ((k : Nat) : Int)) (h.rd hr) (by omega) (by omega) 3 _ (by decide) rfl) (.m (qt (i := ((k : Nat) : Int)) (h.rd hr) (by omega) (by omega) 4 _ (by decide) rfl) (.m (qt (i := ((k : Nat) : Int)) (h.rd hr) (by omega) (by omega) 5 _ (by decide) rfl) (.e .z)))))))) <| yo (zN [rX 0, .bool false, .bool false, .bool false, iX 0, iX 0] 66 h fun u E h => ?_); refine yq 5 <| yo (zs h 0 fun u h => ?_); refine ye <| ys <| ys <| zD [] h fun u h => yd (uL 0 3) [] .z <| yv [15] (rE ((k : Nat) : Int) 0) (fun x => ?_) fun x => ?_
  ·have g : k = 0 := by omega
   refine yd (uL 3 10) [] .z <| yDe (nS ?_); refine yct <| q7 <| yp 3 [] (.a (h.cs 0 1 5) .z) <| yo (yQ (h.look (qd8 (gc l ((k : Nat) : Int)).sty _ (qC h.ch hT (fun _ h => h.elim)) s)) fun u h => ?_); refine yp 6 [] (.p (q := ((wrK l k)).size + ((qfv (gc l ((k : Nat) : Int)).sty)).size ≤ 9223372036854775807) (by (try simp only [ByteArray.size_append]); omega) .z) <| ye <| ysr <| yp 3 [] (.l (h.c 0 0) .z) <| ye <| yc (rI (gc l ((k : Nat) : Int)).rune 0) (fun d => ?_) fun d => ?_
   ·refine q7 <| yp 6 [] (.l (h.c 0 0) (.p (q := (((wrK l k) ++ (qfv (gc l ((k : Nat) : Int)).sty))).size + ((Utf8.encode (gc l ((k : Nat) : Int)).rune)).size ≤ 9223372036854775807) (by (try simp only [ByteArray.size_append]); omega) .z)) <| yE (nB (nS ?_)); refine q7 <| yp 2 [] (.q6 (((k : Nat) : Int) + 1) .z) ?_; have h := h.nrm 0 [rX (gc l ((k : Nat) : Int)).rune, .bool (gc l ((k : Nat) : Int)).sty.bold, .bool (gc l ((k : Nat) : Int)).sty.under, .bool (gc l ((k : Nat) : Int)).sty.turned, iX (gc l ((k : Nat) : Int)).sty.fore, iX (gc l ((k : Nat) : Int)).sty.back]; refine yE (fun a ha => f (k + 1) _ ⟨by omega, h.take 0⟩ (by show l.length - (k + 1) < l.length - k; omega) a (by rw [qkl (.inl g) d]; exact ha.kp [0, 3, 6, 7, 8]))
   refine qi (nB (nS ?_)); refine q7 <| yp 2 [] (.q6 (((k : Nat) : Int) + 1) .z) ?_; have h := h.nrm 0 [rX (gc l ((k : Nat) : Int)).rune, .bool (gc l ((k : Nat) : Int)).sty.bold, .bool (gc l ((k : Nat) : Int)).sty.under, .bool (gc l ((k : Nat) : Int)).sty.turned, iX (gc l ((k : Nat) : Int)).sty.fore, iX (gc l ((k : Nat) : Int)).sty.back]; refine yE (fun a ha => f (k + 1) _ ⟨by omega, h.take 0⟩ (by show l.length - (k + 1) < l.length - k; omega) a (by rw [wrK_sn (.inl g) d]; exact ha.kp [0, 3, 6, 7, 8]))
  have g : ¬ k = 0 := by omega
  refine yd (uL 3 10) [] (.a (h.cs 0 1 5) (.q6 (((k : Nat) : Int) - 1) (.i (((k : Nat) : Int) - 1) (l.length) (.m (qt (i := (((k : Nat) : Int) - 1)) (h.rd hr) (by omega) (by omega) 1 _ (by decide) rfl) (.m (qt (i := (((k : Nat) : Int) - 1)) (h.rd hr) (by omega) (by omega) 2 _ (by decide) rfl) (.m (qt (i := (((k : Nat) : Int) - 1)) (h.rd hr) (by omega) (by omega) 3 _ (by decide) rfl) (.m (qt (i := (((k : Nat) : Int) - 1)) (h.rd hr) (by omega) (by omega) 4 _ (by decide) rfl) (.m (qt (i := (((k : Nat) : Int) - 1)) (h.rd hr) (by omega) (by omega) 5 _ (by decide) rfl) (.e .z))))))))) <| yDe (nS ?_); refine yc (rN (rY (((gc l ((k : Nat) : Int)).sty.bold == (gc l (((k : Nat) : Int) - 1)).sty.bold) && (((gc l ((k : Nat) : Int)).sty.under == (gc l (((k : Nat) : Int) - 1)).sty.under) && (((gc l ((k : Nat) : Int)).sty.turned == (gc l (((k : Nat) : Int) - 1)).sty.turned) && ((((gc l ((k : Nat) : Int)).sty.fore : Int) == (gc l (((k : Nat) : Int) - 1)).sty.fore) && ((((gc l ((k : Nat) : Int)).sty.back : Int) == (gc l (((k : Nat) : Int) - 1)).sty.back) && true))))))) (fun j => ?_) fun j => ?_
  ·rw [qkk] at j; have r := of_decide_eq_false j; refine q7 <| yp 3 [] (.a (h.cs 0 1 5) .z) <| yo (yQ (h.look (qd8 (gc l ((k : Nat) : Int)).sty _ (qC h.ch hT (fun _ h => h.elim)) s)) fun u h => ?_); refine yp 6 [] (.p (q := ((wrK l k)).size + ((qfv (gc l ((k : Nat) : Int)).sty)).size ≤ 9223372036854775807) (by (try simp only [ByteArray.size_append]); omega) .z) <| ye <| ysr <| yp 3 [] (.l (h.c 0 0) .z) <| ye <| yc (rI (gc l ((k : Nat) : Int)).rune 0) (fun d => ?_) fun d => ?_
   ·refine q7 <| yp 6 [] (.l (h.c 0 0) (.p (q := (((wrK l k) ++ (qfv (gc l ((k : Nat) : Int)).sty))).size + ((Utf8.encode (gc l ((k : Nat) : Int)).rune)).size ≤ 9223372036854775807) (by (try simp only [ByteArray.size_append]); omega) .z)) <| yE (nB (nS ?_)); refine q7 <| yp 2 [] (.q6 (((k : Nat) : Int) + 1) .z) ?_; have h := h.nrm 0 [rX (gc l ((k : Nat) : Int)).rune, .bool (gc l ((k : Nat) : Int)).sty.bold, .bool (gc l ((k : Nat) : Int)).sty.under, .bool (gc l ((k : Nat) : Int)).sty.turned, iX (gc l ((k : Nat) : Int)).sty.fore, iX (gc l ((k : Nat) : Int)).sty.back]; refine yE (fun a ha => f (k + 1) _ ⟨by omega, h.take 0⟩ (by show l.length - (k + 1) < l.length - k; omega) a (by rw [qkl (.inr r) d]; exact ha.kp [0, 3, 6, 7, 8]))
   refine qi (nB (nS ?_)); refine q7 <| yp 2 [] (.q6 (((k : Nat) : Int) + 1) .z) ?_; have h := h.nrm 0 [rX (gc l ((k : Nat) : Int)).rune, .bool (gc l ((k : Nat) : Int)).sty.bold, .bool (gc l ((k : Nat) : Int)).sty.under, .bool (gc l ((k : Nat) : Int)).sty.turned, iX (gc l ((k : Nat) : Int)).sty.fore, iX (gc l ((k : Nat) : Int)).sty.back]; refine yE (fun a ha => f (k + 1) _ ⟨by omega, h.take 0⟩ (by show l.length - (k + 1) < l.length - k; omega) a (by rw [wrK_sn (.inr r) d]; exact ha.kp [0, 3, 6, 7, 8]))
  rw [qkk] at j; have r := of_decide_eq_true j; refine yk <| ysr <| yp 3 [] (.l (h.c 0 0) .z) <| ye <| yc (rI (gc l ((k : Nat) : Int)).rune 0) (fun d => ?_) fun d => ?_
  ·refine q7 <| yp 6 [] (.l (h.c 0 0) (.p (q := ((wrK l k)).size + ((Utf8.encode (gc l ((k : Nat) : Int)).rune)).size ≤ 9223372036854775807) (by (try simp only [ByteArray.size_append]); omega) .z)) <| yE (nB (nS ?_)); refine q7 <| yp 2 [] (.q6 (((k : Nat) : Int) + 1) .z) ?_; have h := h.nrm 0 [rX (gc l ((k : Nat) : Int)).rune, .bool (gc l ((k : Nat) : Int)).sty.bold, .bool (gc l ((k : Nat) : Int)).sty.under, .bool (gc l ((k : Nat) : Int)).sty.turned, iX (gc l ((k : Nat) : Int)).sty.fore, iX (gc l ((k : Nat) : Int)).sty.back]; refine yE (fun a ha => f (k + 1) _ ⟨by omega, h.take 0⟩ (by show l.length - (k + 1) < l.length - k; omega) a (by rw [wrK_ns g r d]; exact ha.kp [0, 3, 6, 7, 8]))
  refine qi (nB (nS ?_)); refine q7 <| yp 2 [] (.q6 (((k : Nat) : Int) + 1) .z) ?_; have h := h.nrm 0 [rX (gc l ((k : Nat) : Int)).rune, .bool (gc l ((k : Nat) : Int)).sty.bold, .bool (gc l ((k : Nat) : Int)).sty.under, .bool (gc l ((k : Nat) : Int)).sty.turned, iX (gc l ((k : Nat) : Int)).sty.fore, iX (gc l ((k : Nat) : Int)).sty.back]; refine yE (fun a ha => f (k + 1) _ ⟨by omega, h.take 0⟩ (by show l.length - (k + 1) < l.length - k; omega) a (by rw [wrK_nn g r d]; exact ha.kp [0, 3, 6, 7, 8]))
 have y : k = l.length := by omega
 refine qp (eS (qf (qb (nS ?_)))); refine yx 2 <| q9 (yR1 (.string (wrK l k)) ?_); refine ⟨?_, h.ch⟩; unfold wrB; rw [← y]
theorem qcQ {p q : Nat} {A B : Vw} {F1 F2 : Nat → Prop} (w : World) (hT : LT w) (hA : GridAt w p A.g F1) (hB : GridAt w q B.g F2) (hw : A.g.w = B.g.w) (hh : A.g.h = B.g.h) (hx : 0 ≤ B.x ∧ B.x ≤ 60) (hy : 0 ≤ B.y ∧ B.y ≤ 60) (hst : ∀ l ∈ B.g.lines, ∀ c ∈ l, qc3 c.sty) : Calls Tryz.prog 14 [.agg #[pX p, iX A.x, iX A.y, .bool A.hid], .agg #[pX q, iX B.x, iX B.y, .bool B.hid]].toArray w fun e w' => e = .returned (.string (qbe A B)) ∧ Ch (fun _ => False) w w' := by
 obtain ⟨r1, aq, V, o⟩ := hA; obtain ⟨r2, au, F, f⟩ := hB; have av := o.len; have aw := f.len; have ax := f.ok.2.1; have ay := f.ok.1; have az := f.ok.2.2.1; have C : ∀ l ∈ B.g.lines, l.length ≤ 60 ∧ ∀ c ∈ l, qc3 c.sty := fun l hl => ⟨by have := f.ok.2.2.2 l hl; omega, hst l hl⟩
 have aA := qhO (A := A) C (by omega) (by omega); have aB := qhP (A := A) C (by omega) (by omega) hx hy; have aC := qfA (A := A.g) C B.g.h.toNat (by omega) (by omega); have W : qc3 qaR := ⟨⟨Int.le_refl _, by decide⟩, Int.le_refl _, by decide⟩
 have aD := qca W; have aE := qfw hx hy; have h := Sep.nil w; refine yA Tryz.func14 rfl <| ysr <| yo (zN [pX p, iX A.x, iX A.y, .bool A.hid] 30 h fun u r h => ?_); refine yo (zN [pX q, iX B.x, iX B.y, .bool B.hid] 30 h fun u t h => ?_); refine yz 3 <| yx 1 <| ys <| ysr <| yp 6 [] (.l (h.c 1 0) (.l (qm h.ch (f.head.c 1) id) .z)) <| ye <| qa <| qZ [2, 3, 5, 13, 14] (f' := [(2, pX r), (3, pX t), (5, oX), (13, iX B.g.h), (14, iX 0)]) <| qD (σ := Nat) (fun k => [(2, pX r), (3, pX t), (5, .string (dfK A.g B.g k)), (13, iX B.g.h), (14, iX ((k : Nat) : Int))]) (fun k u => k ≤ B.g.h.toNat ∧ Sep w (fun _ => False) u [qbN r [pX p, iX A.x, iX A.y, .bool A.hid] 30, qbN t [pX q, iX B.x, iX B.y, .bool B.hid] 30]) (fun k => B.g.h.toNat - k) 0 rfl ?_ ?_
 ·exact ⟨Nat.zero_le _, h.take 2⟩
 intro k u a8 aF X; obtain ⟨hk, h⟩ := a8; have aG := qfA (A := A.g) C k (by omega) (by omega); refine yx 1 <| ys <| yc (rL ((k : Nat) : Int) B.g.h) (fun a9 => ?_) fun a9 => ?_
 ·obtain ⟨m, Y, G⟩ := qkh (rows := V) (k := k) (by omega); obtain ⟨d, H, v⟩ := qkh (rows := F) (k := k) (by omega); have Z := glq o Y; have e2 := glq f H; have aH : m.l.length = A.g.w.toNat := o.ok.2.2.2 _ (o.lines ▸ List.mem_map_of_mem G); have a1 : d.l ∈ B.g.lines := f.lines ▸ List.mem_map_of_mem v; have aI : d.l.length = B.g.w.toNat := f.ok.2.2.2 _ a1; have aJ : d.l.length ≤ d.cap := (f.line d v).1.2.1; have aK := (f.line d v).2; obtain ⟨x, e, hE⟩ : ∃ x e, qaC m.l d.l = (x, e) := ⟨_, _, rfl⟩
  have aL : e ≤ d.l.length := by have := qfz m.l d.l; rw [hE] at this; exact this
  refine yk <| ys <| qa <| yx 2 <| ys <| zD [16] h fun u h => yd (uL 0 16) [] (.l (h.c 0 0) (.l (qm h.ch (o.head.c 2) id) (.i ((k : Nat) : Int) (V.length) (.l (qh4 (Ch.rd h.ch o.body.rd id) Y) (.l (h.c 1 0) (.l (qm h.ch (f.head.c 2) id) (.i ((k : Nat) : Int) (F.length) (.l (qh4 (Ch.rd h.ch f.body.rd id) H) .z)))))))) <| yK 16 (yQ (h.look (ends_any m.b d.b m.cap d.cap m.n d.n x e m.l d.l _ (Ch.rd h.ch (o.line m G).1.rd id) (Ch.rd h.ch (f.line d v).1.rd id) (o.line m G).2 (f.line d v).2 (by omega) (by omega) hE)) fun u h => ?_); refine q8 <| yd (uL 17 5) [] .z <| yDe (nS ?_); refine yx 3 <| yc (rL ((x : Nat) : Int) ((e : Nat) : Int)) (fun I => ?_) fun I => ?_
  ·have aM := qfw (x := (x : Int)) (y := ((k : Nat) : Int)) (by omega) (by omega); have a2 : ∀ c ∈ (d.l.take e).drop x, qc3 c.sty := fun c hc => (C _ a1).2 c (List.mem_of_mem_take (List.mem_of_mem_drop hc)); have a3 : ((d.l.take e).drop x).length = e - x := by rw [List.length_drop, List.length_take]; omega
   have aN : (wrB ((d.l.take e).drop x)).size ≤ 31 * (e - x) := a3 ▸ qfy a2 _ (Nat.le_refl _); refine zDC [15] [0, 1] h fun u h => ydF [0, 1, 2, 4, 5, 6, 7, 8, 9, 10, 11, 12, 13, 14] [] h.on (fun u h => (.l (h.c 1 0) (.l (qm h.ch (f.head.c 2) id) (.i ((k : Nat) : Int) (F.length) (.l (qh4 (Ch.rd h.ch f.body.rd id) H) (.j ((e : Nat) : Int) (d.cap) (.j ((x : Nat) : Int) ((((e : Nat) : Int) : Int).toNat) .z))))))) <| yH 3 (yQ (h.look (qhQ (((x : Nat) : Int)) (((k : Nat) : Int)) _ (qC h.ch hT (fun _ h => h.elim)) (by omega) (by omega))) fun u h => ?_); refine zH h <| yK 15 (yQ (h.look (qiF d.b ((if d.cap = (((x : Nat) : Int) : Int).toNat then 0 else 0 + (((x : Nat) : Int) : Int).toNat * 6)) ((d.cap - (((x : Nat) : Int) : Int).toNat)) (((((e : Nat) : Int) : Int).toNat - (((x : Nat) : Int) : Int).toNat)) ((d.l.take e).drop x) _ (qC h.ch hT (fun _ h => h.elim)) (qiD (qjN (Ch.rd h.ch (f.line d v).1.rd id) e) (by rw [List.length_take]; omega)) (by rw [a3, Int.toNat_natCast, Int.toNat_natCast]) (by omega) a2)) fun u h => ?_); refine q8 <| yd (uL 16 3) [] (.p (q := ((toB ((x : Nat) : Int) ((k : Nat) : Int))).size + ((wrB ((d.l.take e).drop x))).size ≤ 9223372036854775807) (by (try simp only [ByteArray.size_append, qaw, qax]); omega) (.p (q := ((dfK A.g B.g k)).size + (((toB ((x : Nat) : Int) ((k : Nat) : Int)) ++ (wrB ((d.l.take e).drop x)))).size ≤ 9223372036854775807) (by (try simp only [ByteArray.size_append, qaw, qax]); omega) .z)) <| yDe (nB (nS ?_))
   refine q7 <| yp 2 [] (.q6 (((k : Nat) : Int) + 1) .z) <| yE (fun a ha => X (k + 1) _ ⟨by omega, h.take 2⟩ (by show B.g.h.toNat - (k + 1) < B.g.h.toNat - k; omega) a (by rw [dfK_on Z e2 hE I]; exact ha.kp [2, 3, 5, 13, 14]))
  refine qi (nB (nS ?_)); refine q7 <| yp 2 [] (.q6 (((k : Nat) : Int) + 1) .z) <| yE (fun a ha => X (k + 1) _ ⟨by omega, h.take 2⟩ (by show B.g.h.toNat - (k + 1) < B.g.h.toNat - k; omega) a (by rw [dfK_off Z e2 hE I]; exact ha.kp [2, 3, 5, 13, 14]))
 have D : k = B.g.h.toNat := by omega
 refine qp (eS (qf (qb (nS ?_)))); refine qai ([(2, pX r), (3, pX t), (5, .string (df1 A B))]) (fun u => Sep w (fun _ => False) u [qbN r [pX p, iX A.x, iX A.y, .bool A.hid] 30, qbN t [pX q, iX B.x, iX B.y, .bool B.hid] 30]) (fun aO a4 => ?_) (fun u h => ?_)
 ·refine yx 2 <| yc (rN (rY (((dfK A.g B.g k)).toList == (ByteArray.empty).toList))) (fun J => ?_) fun J => ?_
  ·have a5 := J; rw [D] at a5; refine q7 <| yq 2 <| yo (yQ (h.look (qd8 qaR _ (qC h.ch hT (fun _ h => h.elim)) W)) fun u h => ?_); refine yp 5 [] (.p (q := ((dfK A.g B.g k)).size + ((qfv qaR)).size ≤ 9223372036854775807) (by (try simp only [ByteArray.size_append, qaw, qax]); omega) .z) <| yE (fun a ha => a4 _ h a (by rw [show (df1 A B) = ((dfK A.g B.g k) ++ (qfv qaR)) from by rw [D]; exact if_neg (none_f a5)]; exact ha.kp [2, 3, 5]))
  have a6 := J; rw [D] at a6; refine qi (fun a ha => a4 _ h a (by rw [show (df1 A B) = (dfK A.g B.g k) from by rw [D]; exact if_pos (none_iff.1 a6)]; exact ha.kp [2, 3, 5]))
 refine qai ([(2, pX r), (3, pX t), (5, .string (df2 A B))]) (fun u => Sep w (fun _ => False) u [qbN r [pX p, iX A.x, iX A.y, .bool A.hid] 30, qbN t [pX q, iX B.x, iX B.y, .bool B.hid] 30]) (fun aP E => ?_) (fun u h => ?_)
 ·refine ysr <| yq 3 <| yw [67] (rN (rY (((df1 A B)).toList == (ByteArray.empty).toList))) (fun K => ?_) fun K => ?_
  ·have aa := K; refine yz 16 <| yct <| q7 <| yp 5 [] (.l (h.c 1 1) (.l (h.c 1 2) .z)) <| yo (yQ (h.look (qhQ (B.x) (B.y) _ (qC h.ch hT (fun _ h => h.elim)) (by omega) (by omega))) fun u h => ?_); refine yp 8 [] (.p (q := ((df1 A B)).size + ((toB B.x B.y)).size ≤ 9223372036854775807) (by (try simp only [ByteArray.size_append, qaw, qax]); omega) .z) <| yE (fun a ha => E _ h a (by rw [show (df2 A B) = ((df1 A B) ++ (toB B.x B.y)) from by exact if_pos (.inl (none_f aa))]; exact ha.kp [2, 3, 5]))
  have ab := K; refine yp 10 [] (.l (h.c 0 1) (.l (h.c 1 1) .z)) <| yw [74] (rI A.x B.x) (fun L => ?_) fun L => ?_
  ·have ac := L; refine yz 16 <| yct <| q7 <| yp 5 [] (.l (h.c 1 1) (.l (h.c 1 2) .z)) <| yo (yQ (h.look (qhQ (B.x) (B.y) _ (qC h.ch hT (fun _ h => h.elim)) (by omega) (by omega))) fun u h => ?_); refine yp 8 [] (.p (q := ((df1 A B)).size + ((toB B.x B.y)).size ≤ 9223372036854775807) (by (try simp only [ByteArray.size_append, qaw, qax]); omega) .z) <| yE (fun a ha => E _ h a (by rw [show (df2 A B) = ((df1 A B) ++ (toB B.x B.y)) from by exact if_pos (.inr (.inl ac))]; exact ha.kp [2, 3, 5]))
  have ad := L; refine yp 16 [] (.l (h.c 0 2) (.l (h.c 1 2) .z)) <| ye <| yc (rI A.y B.y) (fun M => ?_) fun M => ?_
  ·have ae := M; refine q7 <| yp 5 [] (.l (h.c 1 1) (.l (h.c 1 2) .z)) <| yo (yQ (h.look (qhQ (B.x) (B.y) _ (qC h.ch hT (fun _ h => h.elim)) (by omega) (by omega))) fun u h => ?_); refine yp 8 [] (.p (q := ((df1 A B)).size + ((toB B.x B.y)).size ≤ 9223372036854775807) (by (try simp only [ByteArray.size_append, qaw, qax]); omega) .z) <| yE (fun a ha => E _ h a (by rw [show (df2 A B) = ((df1 A B) ++ (toB B.x B.y)) from by exact if_pos (.inr (.inr ae))]; exact ha.kp [2, 3, 5]))
  have af := M; refine qi (fun a ha => E _ h a (by rw [show (df2 A B) = (df1 A B) from by exact if_neg (fun h => h.elim (fun h => h (none_iff.1 ab)) fun h => h.elim (fun h => h ad) fun h => h af)]; exact ha.kp [2, 3, 5]))
 refine ys <| qa <| ysr <| yp 3 [] (.l (h.c 1 3) .z) <| yw [91] (rY B.hid) (fun N => ?_) fun N => ?_
 ·have O := N; refine yp 8 [] (.l (h.c 0 3) .z) <| ye <| yc (rN (rY A.hid)) (fun P => ?_) fun P => ?_
  ·have ag := P; refine q7 <| yp 3 [] (.p (q := ((df2 A B)).size + (hideB).size ≤ 9223372036854775807) (by (try simp only [ByteArray.size_append, qaw, qax]); omega) .z) <| yE (nB (nS ?_)); refine yx 2 <| q9 (yR1 (.string ((df2 A B) ++ hideB)) ?_); refine ⟨congrArg (fun s => Ending.returned (Value.string s)) ?_, h.ch⟩; unfold qbe; simp [O, ag]
  have a7 := P; refine ysr <| yp 3 [] (.l (h.c 0 3) .z) <| yw [101] (rY A.hid) (fun Q => ?_) fun Q => ?_
  ·have ah := Q; refine yp 8 [] (.l (h.c 1 3) .z) <| ye <| yc (rN (rY B.hid)) (fun R => ?_) fun R => ?_
   ·have ai := R; exact absurd (O.symm.trans ai) (by decide)
   have aj := R; refine qi (nB (nS ?_)); refine yx 2 <| q9 (yR1 (.string (df2 A B)) ?_); refine ⟨congrArg (fun s => Ending.returned (Value.string s)) ?_, h.ch⟩; unfold qbe; simp [O, a7, ah, aj]
  have ak := Q; exact absurd (a7.symm.trans ak) (by decide)
 have S := N; refine yz 8 <| ycf <| ysr <| yp 3 [] (.l (h.c 0 3) .z) <| yw [101] (rY A.hid) (fun T => ?_) fun T => ?_
 ·have al := T; refine yp 8 [] (.l (h.c 1 3) .z) <| ye <| yc (rN (rY B.hid)) (fun U => ?_) fun U => ?_
  ·have am := U; refine q7 <| yp 3 [] (.p (q := ((df2 A B)).size + (showB).size ≤ 9223372036854775807) (by (try simp only [ByteArray.size_append, qaw, qax]); omega) .z) <| yE (nB (nS ?_)); refine yx 2 <| q9 (yR1 (.string ((df2 A B) ++ showB)) ?_); refine ⟨congrArg (fun s => Ending.returned (Value.string s)) ?_, h.ch⟩; unfold qbe; simp [S, al, am]
  have an := U; exact absurd (S.symm.trans an) (by decide)
 have ao := T; refine yz 8 <| ycf <| qi (nB (nS ?_)); refine yx 2 <| q9 (yR1 (.string (df2 A B)) ?_); refine ⟨congrArg (fun s => Ending.returned (Value.string s)) ?_, h.ch⟩; unfold qbe; simp [S, ao]
def qcR (s : Sty) : Bool := decide ((0 ≤ s.fore ∧ s.fore ≤ 8) ∧ 0 ≤ s.back ∧ s.back ≤ 8)
def tameC (c : Cel) : Cel := ⟨if ¬ c.rune = 0 ∧ qR c.rune = false then 120 else c.rune, if qcR c.sty = true then c.sty else qaR⟩
abbrev qaa (l : List Cel) : List Cel := l.map tameC
theorem qbH {l : List Cel} {k : Nat} {c : Cel} (hk : k < l.length) (e : tameC (gc l (k : Int)) = c) : flat ((qaa l).take k) ++ c.vals = flat ((qaa l).take (k + 1)) := by
 rw [List.take_succ_eq_append_getElem (by rw [List.length_map]; exact hk), qaK, List.getElem_map, ← gc_at hk, e]
 simp [flat]
theorem qd9 {c d : Cel} (h1 : (if ¬ c.rune = 0 ∧ qR c.rune = false then 120 else c.rune) = d.rune) (h2 : (if qcR c.sty = true then c.sty else qaR) = d.sty) : tameC c = d := by
 unfold tameC
 rw [h1, h2]
theorem tame_all {l : List Cel} {k : Nat} (hk : k = l.length) : (qaa l).take k = qaa l := List.take_of_length_le (by rw [List.length_map]; omega)
def qda : List Cel → Gr → Int → Gr
 | [], G, _ => G
 | c :: l, G, i => if G.w * G.h ≤ i then G else qda l (qdg G (i % G.w) (i / G.w) c) (if qL c.rune = true then i + 2 else i + 1)
abbrev qdY (p1 p2 : Int) (l : List Cel) : Gr := qda (qaa l) (qbS p1 p2) 0
theorem qiG {l : List Cel} {k : Nat} {G : Gr} {i : Int} (hk : k < l.length) (h : ¬ G.w * G.h ≤ i) : qda (l.drop k) G i = qda (l.drop (k + 1)) (qdg G (i % G.w) (i / G.w) (gc l (k : Int))) (if qL (gc l (k : Int)).rune = true then i + 2 else i + 1) := by
 rw [List.drop_eq_getElem_cons hk, gc_at hk]
 conv => lhs; unfold qda
 rw [if_neg h]
theorem qiH {l : List Cel} {k : Nat} {G : Gr} {i : Int} (hk : k < l.length) (h : G.w * G.h ≤ i) : qda (l.drop k) G i = G := by
 rw [List.drop_eq_getElem_cons hk]
 unfold qda
 rw [if_pos h]
theorem qkn {l : List Cel} {k : Nat} {G : Gr} {i : Int} (hk : k = l.length) : qda (l.drop k) G i = G := by
 rw [hk, List.drop_length]; rfl
theorem mul_bd {w h : Int} (hw : 1 ≤ w ∧ w ≤ 60) (hh : 1 ≤ h ∧ h ≤ 60) : 1 ≤ w * h ∧ w * h ≤ 3600 :=
 ⟨by have := Int.mul_le_mul hw.1 hh.1 (by omega) (by omega); omega, by have := Int.mul_le_mul hw.2 hh.2 (by omega) (by omega); omega⟩
theorem div_bd {i w : Int} (hi : 0 ≤ i) (hw : 1 ≤ w) : (0 ≤ i / w ∧ i / w ≤ i) ∧ 0 ≤ i % w ∧ i % w < w :=
 ⟨⟨Int.ediv_nonneg hi (by omega), Int.ediv_le_self _ hi⟩, Int.emod_nonneg _ (by omega), Int.emod_lt_of_pos _ (by omega)⟩
structure Lk where
 a : Option Addr
 n : Nat
 cap : Nat
 x : Int
 y : Int
 hid : Bool
def Lk.vals (k : Lk) : List Value := [.slice k.a k.n k.cap, .int .i64 k.x, .int .i64 k.y, .bool k.hid]
def qiI (p1 p2 : Int) (l : List Cel) (x y : Int) (hid : Bool) : Vw := let G := qdY p1 p2 l; ⟨G, qu .and .i64 x 65535 % G.w, qu .and .i64 y 65535 % G.h, hid⟩
def qfB (A B : Vw) : Bool := decide (A.x = B.x) && decide (A.y = B.y) && (A.hid == B.hid) && grB A.g B.g
def lkV : List Lk → List Value
 | [] => []
 | k :: l => k.vals ++ lkV l
def gk (ls : List Lk) (i : Nat) : Lk := ls.getD i ⟨none, 0, 0, 0, 0, false⟩
theorem qko : ∀ (ls : List Lk) (i j : Nat), i < ls.length → j < 4 → (lkV ls)[i * 4 + j]? = (gk ls i).vals[j]?
 | [], i, j, h, _ => by simp at h
 | k :: l, 0, j, _, hj => by
  show (k.vals ++ lkV l)[0 * 4 + j]? = k.vals[j]?
  rw [Nat.zero_mul, Nat.zero_add, List.getElem?_append_left (by exact hj)]
 | k :: l, i + 1, j, h, hj => by
  show (k.vals ++ lkV l)[(i + 1) * 4 + j]? = _
  rw [List.getElem?_append_right (by show 4 ≤ _; omega), show (i + 1) * 4 + j - k.vals.length = i * 4 + j by show (i + 1) * 4 + j - 4 = _; omega, qko l i j (by simpa using h) hj]; rfl
theorem qdZ {w : World} {b o : Nat} {ls : List Lk} {i : Nat} (h : Rd w (some ⟨b, o, none⟩) (lkV ls)) (hi : i < ls.length) (j : Nat) (v : Value) (hj : j < 4) (hv : (gk ls i).vals[j]? = some v) : w.cell? ⟨b, o + ((i : Nat) : Int).toNat * 4 + j, none⟩ = some v := by
 rw [Nat.add_assoc, Int.toNat_natCast]
 exact qbu h _ v (by rw [qko ls i j hi hj]; exact hv)
def qkp (ls : List Lk) : Bool := decide (ls.length ≤ 12) && ls.all fun k => decide (k.n ≤ 400)
theorem few_len {ls : List Lk} (h : 12 < ls.length) : false = qkp ls := by
 unfold qkp
 rw [decide_eq_false (by omega)]; rfl
theorem few_at {ls : List Lk} {k : Nat} (hk : k < ls.length) (h : 400 < (gk ls k).n) : false = qkp ls := by
 unfold qkp
 symm
 rw [Bool.and_eq_false_iff]
 refine .inr (Bool.eq_false_iff.2 fun e => ?_)
 have := List.all_eq_true.1 e (gk ls k) (by unfold gk; rw [List.getD_eq_getElem?_getD, List.getElem?_eq_getElem hk, Option.getD_some]; exact List.getElem_mem hk)
 have := of_decide_eq_true this
 omega
theorem few_t {ls : List Lk} (h1 : ls.length ≤ 12) (h : ∀ j, j < ls.length → (gk ls j).n ≤ 400) : true = qkp ls := by
 unfold qkp
 rw [decide_eq_true h1, Bool.true_and]
 symm
 refine List.all_eq_true.2 fun x hx => ?_
 obtain ⟨i, hi, rfl⟩ := List.getElem_of_mem hx
 have := h i hi
 unfold gk at this
 rw [List.getD_eq_getElem?_getD, List.getElem?_eq_getElem hi, Option.getD_some] at this
 exact decide_eq_true this
def qT (r a b : Int) : Bool := decide (a ≤ r) && decide (r ≤ b)
theorem qP (r a b : Int) (w : World) : Calls Tryz.prog 67 [rX r, rX a, rX b].toArray w fun e w' => e = .returned (.bool (qT r a b)) ∧ Ch (fun _ => False) w w' := by
 refine yA Tryz.func67 rfl <| yx 1 <| ysr <| yq 4 <| yw [10] (rM a r) (fun c => ?_) fun c => ?_
 ·refine yz 9 <| q9 (yR1 (.bool (decide (r ≤ b))) ?_); refine ⟨zc ?_, Up.ch (zm w)⟩; unfold qT; simp [*]
 refine yz 9 <| q9 (yR1 (.bool false) ?_); refine ⟨zc ?_, Up.ch (zm w)⟩; unfold qT; simp [*]
theorem ite_no {c : Prop} [Decidable c] {b : Bool} : (if c then false else b) = (!decide c && b) := by by_cases h : c <;> simp [h]
theorem ite_yes {c : Prop} [Decidable c] {b : Bool} : (if c then true else b) = (decide c || b) := by by_cases h : c <;> simp [h]
theorem qe0 (r : Int) : qR r = (qT r 32 126 || qT r 128 55295 || qT r 57344 1114111) := by
 unfold qR qT; rw [Bool.eq_iff_iff]; simp only [Bool.and_eq_true, Bool.or_eq_true, decide_eq_true_eq]; omega
theorem qaN (r : Int) : qL r = (qT r 4352 4447 || qT r 11904 12350 || qT r 12352 42191 || qT r 44032 55203 || qT r 63744 64255 || qT r 65072 65135 || qT r 65280 65376 || qT r 65504 65510 || qT r 127744 128591 || qT r 131072 262141) := by
 unfold qL wideL qT; rw [Bool.eq_iff_iff]; simp only [qdD, ite_no, ite_yes, Bool.and_eq_true, Bool.or_eq_true, Bool.not_eq_true', decide_eq_true_eq, decide_eq_false_iff_not, beq_eq_false_iff_ne, Bool.false_eq_true, or_false]; omega
theorem qeR (r : Int) (w : World) : Calls Tryz.prog 71 [rX r].toArray w fun e w' => e = .returned (.bool (qR r)) ∧ Ch (fun _ => False) w w' := by
 refine yA Tryz.func71 rfl <| yx 1 <| ysr <| yq 1 <| yo (yQ (qP r 32 126 _) fun j f => ?_); have c := zu (zm w) f iZ; refine yq 3 <| yw [5] (rY (qT r 32 126)) (fun a => ?_) fun a => ?_
 ·have k := a; refine yz 11 <| q9 (yR1 (.bool true) ?_); refine ⟨zc ?_, Up.ch c⟩; rw [qe0]; simp [*]
 have l := a; refine yq 4 <| yo (yQ (qP r 128 55295 _) fun m g => ?_); have d := zu c g iZ; refine yq 7 <| yw [9] (rY (qT r 128 55295)) (fun b => ?_) fun b => ?_
 ·have n := b; refine yz 11 <| q9 (yR1 (.bool true) ?_); refine ⟨zc ?_, Up.ch d⟩; rw [qe0]; simp [*]
 have o := b; refine yq 8 <| yo (yQ (qP r 57344 1114111 _) fun p h => ?_); have i := zu d h iZ; refine yz 11 <| q9 (yR1 (.bool (qT r 57344 1114111)) ?_); refine ⟨zc ?_, Up.ch i⟩; rw [qe0]; simp [*]
theorem qkq (r : Int) (w : World) : Calls Tryz.prog 44 [rX r].toArray w fun e w' => e = .returned (.bool (qL r)) ∧ Ch (fun _ => False) w w' := by
 refine yA Tryz.func44 rfl <| yx 1 <| ys <| ysr <| yq 1 <| yo (yQ (qP r 4352 4447 _) fun G u => ?_); have k := zu (zm w) u iZ; refine yq 3 <| yw [5] (rY (qT r 4352 4447)) (fun a => ?_) fun a => ?_
 ·have H := a; refine yz 14 <| yct <| yx 1 <| q9 (rS (yR1 (.bool true) ?_)); refine ⟨zc ?_, Up.ch k⟩; rw [qaN]; simp [*]
 have I := a; refine yq 4 <| yo (yQ (qP r 11904 12350 _) fun J v => ?_); have l := zu k v iZ; refine yq 7 <| yw [9] (rY (qT r 11904 12350)) (fun b => ?_) fun b => ?_
 ·have K := b; refine yz 14 <| yct <| yx 1 <| q9 (rS (yR1 (.bool true) ?_)); refine ⟨zc ?_, Up.ch l⟩; rw [qaN]; simp [*]
 have L := b; refine yq 8 <| yo (yQ (qP r 12352 42191 _) fun M x => ?_); have m := zu l x iZ; refine yq 11 <| yw [13] (rY (qT r 12352 42191)) (fun c => ?_) fun c => ?_
 ·have N := c; refine yz 14 <| yct <| yx 1 <| q9 (rS (yR1 (.bool true) ?_)); refine ⟨zc ?_, Up.ch m⟩; rw [qaN]; simp [*]
 have O := c; refine yq 12 <| yo (yQ (qP r 44032 55203 _) fun P y => ?_); have n := zu m y iZ; refine yz 14 <| yc (rY (qT r 44032 55203)) (fun d => ?_) fun d => ?_
 ·have Q := d; refine yx 1 <| q9 (rS (yR1 (.bool true) ?_)); refine ⟨zc ?_, Up.ch n⟩; rw [qaN]; simp [*]
 have R := d; refine yk <| ys <| ysr <| yq 1 <| yo (yQ (qP r 63744 64255 _) fun S z => ?_); have o := zu n z iZ; refine yq 3 <| yw [19] (rY (qT r 63744 64255)) (fun f => ?_) fun f => ?_
 ·have T := f; refine yz 14 <| yct <| yx 1 <| q9 (rS (yR1 (.bool true) ?_)); refine ⟨zc ?_, Up.ch o⟩; rw [qaN]; simp [*]
 have U := f; refine yq 4 <| yo (yQ (qP r 65072 65135 _) fun V A => ?_); have p := zu o A iZ; refine yq 7 <| yw [23] (rY (qT r 65072 65135)) (fun g => ?_) fun g => ?_
 ·have W := g; refine yz 14 <| yct <| yx 1 <| q9 (rS (yR1 (.bool true) ?_)); refine ⟨zc ?_, Up.ch p⟩; rw [qaN]; simp [*]
 have X := g; refine yq 8 <| yo (yQ (qP r 65280 65376 _) fun Y B => ?_); have q := zu p B iZ; refine yq 11 <| yw [27] (rY (qT r 65280 65376)) (fun h => ?_) fun h => ?_
 ·have Z := h; refine yz 14 <| yct <| yx 1 <| q9 (rS (yR1 (.bool true) ?_)); refine ⟨zc ?_, Up.ch q⟩; rw [qaN]; simp [*]
 have a0 := h; refine yq 12 <| yo (yQ (qP r 65504 65510 _) fun a1 C => ?_); have s := zu q C iZ; refine yz 14 <| yc (rY (qT r 65504 65510)) (fun i => ?_) fun i => ?_
 ·have a2 := i; refine yx 1 <| q9 (rS (yR1 (.bool true) ?_)); refine ⟨zc ?_, Up.ch s⟩; rw [qaN]; simp [*]
 have a3 := i; refine yk <| ysr <| yq 1 <| yo (yQ (qP r 127744 128591 _) fun a4 D => ?_); have t := zu s D iZ; refine yq 3 <| yw [33] (rY (qT r 127744 128591)) (fun j => ?_) fun j => ?_
 ·have a5 := j; refine yz 7 <| q9 (yR1 (.bool true) ?_); refine ⟨zc ?_, Up.ch t⟩; rw [qaN]; simp [*]
 have a6 := j; refine yq 4 <| yo (yQ (qP r 131072 262141 _) fun a7 E => ?_); have F := zu t E iZ; refine yz 7 <| q9 (yR1 (.bool (qT r 131072 262141)) ?_); refine ⟨zc ?_, Up.ch F⟩; rw [qaN]; simp [*]
def Fine (T : TS) : Prop := (∃ W H, Lim W H T) ∧ T.parser.lim
theorem qcb (p1 p2 : Int) : Fine (startT zeroT p1 p2) := ⟨⟨_, _, qcJ zeroT p1 p2 (by decide)⟩, qaJ 0⟩
theorem qbI {T : TS} (h : Fine T) (s : ByteArray) : Fine (qG T s) := by
 obtain ⟨⟨W, H, h⟩, hp⟩ := h
 exact ⟨⟨W, H, qgk h s _⟩, qeQ hp s _⟩
structure Sys (w0 w : World) (bs : List (Nat × List Value × TypeId)) (ts : List (Nat × TS)) : Prop where
 ch : Ch (fun _ => False) w0 w
 lt : LT w
 top : gTop ≤ w0.heap.size
 blk : ∀ (i : Nat) x, bs[i]? = some x → Blk w x.1 x.2.1 x.2.2
 lo : ∀ (i : Nat) x, bs[i]? = some x → w0.heap.size ≤ x.1
 df : ∀ (i j : Nat) x y, bs[i]? = some x → bs[j]? = some y → i ≠ j → x.1 ≠ y.1
 tm : ∃ F : Nat → Nat → Prop, (∀ (i : Nat) x, ts[i]? = some x → TermAt w x.1 x.2 (F i) ∧ Fine x.2) ∧ (∀ i j, i ≠ j → ∀ b, F i b → ¬ F j b) ∧ (∀ i b, F i b → w0.heap.size ≤ b ∧ b < w.heap.size) ∧ ∀ (i j : Nat) x, bs[i]? = some x → ¬ F j x.1
section
variable {w0 w w' : World} {bs : List (Nat × List Value × TypeId)} {ts : List (Nat × TS)}
theorem Sys.same (h : Sys w0 w bs ts) (hc : Ch (fun _ => False) w w') : Sys w0 w' bs ts := by
 obtain ⟨F, h1, h2, h3, h4⟩ := h.tm
 exact ⟨h.ch.trans hc (fun _ _ h => h), qC hc h.lt (fun _ h => h.elim), h.top, fun i x e => (h.blk i x e).ch hc (fun h => h), h.lo, h.df, F, fun i x e => ⟨(h1 i x e).1.ch hc (fun _ _ h => h), (h1 i x e).2⟩, h2, fun i b hb => ⟨(h3 i b hb).1, Nat.lt_of_lt_of_le (h3 i b hb).2 hc.size⟩, h4⟩
theorem Sys.box (h : Sys w0 w bs ts) (hc : Ch (fun _ => False) w w') {b : Nat} {vs : List Value} {ty : TypeId} (hb : Blk w' b vs ty) (hz : w.heap.size ≤ b) : Sys w0 w' (bs ++ [(b, vs, ty)]) ts := by
 have h' := h.same hc
 obtain ⟨F, h1, h2, h3, h4⟩ := h.tm
 obtain ⟨F', g1, g2, g3, g4⟩ := h'.tm
 have one : ∀ i x, (bs ++ [(b, vs, ty)])[i]? = some x → bs[i]? = some x ∨ (i = bs.length ∧ x = (b, vs, ty)) := fun i x e => by
  rcases Nat.lt_or_ge i bs.length with hi | hi
  ·rw [List.getElem?_append_left hi] at e; exact .inl e
  ·rw [List.getElem?_append_right hi] at e
   rcases Nat.eq_zero_or_pos (i - bs.length) with h0 | h0
   ·rw [h0] at e; exact .inr ⟨by omega, (Option.some.inj e).symm⟩
   ·rw [List.getElem?_eq_none (by simp only [List.length_cons, List.length_nil]; omega)] at e; cases e
 refine ⟨h'.ch, h'.lt, h'.top, fun i x e => ?_, fun i x e => ?_, fun i j x y e e' hne => ?_, F, fun i x e => ⟨(h1 i x e).1.ch hc (fun _ _ h => h), (h1 i x e).2⟩, h2, fun i b hb => ⟨(h3 i b hb).1, Nat.lt_of_lt_of_le (h3 i b hb).2 hc.size⟩, fun i j x e => ?_⟩
 ·rcases one i x e with e | ⟨_, rfl⟩
  ·exact h'.blk i x e
  ·exact hb
 ·rcases one i x e with e | ⟨_, rfl⟩
  ·exact h.lo i x e
  ·have := h.ch.size; dsimp only; omega
 ·rcases one i x e with e1 | ⟨h1, rfl⟩
  ·rcases one j y e' with e2 | ⟨h2, rfl⟩
   ·exact h.df i j x y e1 e2 hne
   ·have := (h.blk i x e1).lt; dsimp only; omega
  ·rcases one j y e' with e2 | ⟨h2, rfl⟩
   ·have := (h.blk j y e2).lt; dsimp only; omega
   ·omega
 ·rcases one i x e with e | ⟨_, rfl⟩
  ·exact h4 i j x e
  ·exact fun hf => by have := (h3 j b hf).2; omega
theorem Sys.set (h : Sys w0 w bs ts) (i : Nat) {b : Nat} {vs vs' : List Value} {ty : TypeId} (hi : bs[i]? = some (b, vs, ty)) (hc : Ch (fun j => j = b) w w') (hb : Blk w' b vs' ty) : Sys w0 w' (bs.set i (b, vs', ty)) ts := by
 obtain ⟨F, h1, h2, h3, h4⟩ := h.tm
 have hlo := h.lo i _ hi
 have hlen : i < bs.length := (List.getElem?_eq_some_iff.1 hi).1
 have key : ∀ j x, (bs.set i (b, vs', ty))[j]? = some x → (j = i ∧ x = (b, vs', ty)) ∨ (j ≠ i ∧ bs[j]? = some x) := fun j x e => by
  by_cases hj : j = i
  ·subst hj; rw [List.getElem?_set_self hlen] at e; exact .inl ⟨rfl, (Option.some.inj e).symm⟩
  ·rw [List.getElem?_set_ne (fun h => hj h.symm)] at e; exact .inr ⟨hj, e⟩
 have nF : ∀ j, ¬ F j b := fun j => h4 i j _ hi
 refine ⟨h.ch.trans hc (fun k hk e => by dsimp only at hlo; omega), qC hc h.lt (fun k e => by have := h.top; dsimp only at hlo; omega), h.top, fun j x e => ?_, fun j x e => ?_, fun j k x y e e' hne => ?_, F, fun j x e => ⟨(h1 j x e).1.ch hc (fun k hk e' => nF j (e' ▸ hk)), (h1 j x e).2⟩, h2, fun j k hk => ⟨(h3 j k hk).1, Nat.lt_of_lt_of_le (h3 j k hk).2 hc.size⟩, fun j k x e => ?_⟩
 ·rcases key j x e with ⟨_, rfl⟩ | ⟨hj, e⟩
  ·exact hb
  ·exact (h.blk j x e).ch hc (h.df j i x _ e hi hj)
 ·rcases key j x e with ⟨_, rfl⟩ | ⟨hj, e⟩
  ·exact hlo
  ·exact h.lo j x e
 ·rcases key j x e with ⟨h5, rfl⟩ | ⟨hj, e⟩
  ·rcases key k y e' with ⟨h6, rfl⟩ | ⟨hk, e'⟩
   ·omega
   ·exact h.df i k (b, vs, ty) y hi e' (by omega)
  ·rcases key k y e' with ⟨h6, rfl⟩ | ⟨hk, e'⟩
   ·exact h.df j i x (b, vs, ty) e hi hj
   ·exact h.df j k x y e e' hne
 ·rcases key j x e with ⟨_, rfl⟩ | ⟨hj, e⟩
  ·exact nF k
  ·exact h4 j k x e
theorem Sys.pre {bs' : List (Nat × List Value × TypeId)} (h : Sys w0 w (bs ++ bs') ts) : Sys w0 w bs ts := by
 obtain ⟨F, h1, h2, h3, h4⟩ := h.tm
 have key : ∀ (i : Nat) x, bs[i]? = some x → (bs ++ bs')[i]? = some x := fun i x e => by rw [List.getElem?_append_left (List.getElem?_eq_some_iff.1 e).1]; exact e
 exact ⟨h.ch, h.lt, h.top, fun i x e => h.blk i x (key i x e), fun i x e => h.lo i x (key i x e), fun i j x y e e' => h.df i j x y (key i x e) (key j y e'), F, h1, h2, h3, fun i j x e => h4 i j x (key i x e)⟩
theorem Sys.new (h : Sys w0 w bs ts) (p1 p2 : Int) : Calls Tryz.prog 10 [.int .i64 p1, .int .i64 p2].toArray w fun e w' => ∃ t, e = .returned (.pointer (some ⟨t, 0, none⟩)) ∧ Sys w0 w' bs (ts ++ [(t, startT zeroT p1 p2)]) ∧ Ch (fun _ => False) w w' := by
 refine (qdw p1 p2 w h.lt (Nat.le_trans h.top h.ch.size)).mono fun e w' ⟨t, he, hA, hc⟩ => ⟨t, he, ?_, hc⟩
 obtain ⟨F, h1, h2, h3, h4⟩ := h.tm
 have h' := h.same hc
 have hz := hc.size
 have hz0 := h.ch.size
 have ht : TermAt w' t (startT zeroT p1 p2) (fun b => w.heap.size ≤ b ∧ b < w'.heap.size) := hA
 refine ⟨h'.ch, h'.lt, h'.top, h'.blk, h'.lo, h'.df, fun i b => if i = ts.length then w.heap.size ≤ b ∧ b < w'.heap.size else i < ts.length ∧ F i b, fun i x e => ?_, fun i j hij b hb hb' => ?_, fun i b hb => ?_, fun i j x e hb => ?_⟩
 ·rcases Nat.lt_or_ge i ts.length with hi | hi
  ·rw [List.getElem?_append_left hi] at e
   refine ⟨?_, (h1 i x e).2⟩
   have e2 : (fun b => if i = ts.length then w.heap.size ≤ b ∧ b < w'.heap.size else i < ts.length ∧ F i b) = F i := by
    funext b; rw [if_neg (by omega)]; exact propext ⟨fun h => h.2, fun h => ⟨hi, h⟩⟩
   show TermAt w' x.1 x.2 (fun b => if i = ts.length then w.heap.size ≤ b ∧ b < w'.heap.size else i < ts.length ∧ F i b)
   rw [e2]
   exact (h1 i x e).1.ch hc (fun _ _ h => h)
  ·rw [List.getElem?_append_right hi] at e
   rcases Nat.eq_zero_or_pos (i - ts.length) with h0 | h0
   ·rw [h0] at e
    obtain rfl := (Option.some.inj e).symm
    obtain rfl : i = ts.length := by omega
    simp only [if_true]
    exact ⟨ht, qcb p1 p2⟩
   ·rw [List.getElem?_eq_none (by simp only [List.length_cons, List.length_nil]; omega)] at e; cases e
 ·dsimp only at hb hb'
  split at hb
  ·split at hb'
   ·omega
   ·have := (h3 j b hb'.2).2; omega
  ·split at hb'
   ·have := (h3 i b hb.2).2; omega
   ·exact h2 i j hij b hb.2 hb'.2
 ·dsimp only at hb
  split at hb
  ·omega
  ·have := h3 i b hb.2; omega
 ·dsimp only at hb
  split at hb
  ·have := (h.blk i x e).lt; omega
  ·exact h4 i j x e hb.2
theorem Sys.step (h : Sys w0 w bs ts) {i t : Nat} {T T' : TS} (hi : ts[i]? = some (t, T)) {k : FuncId} {args : Array Value} {v : Value}
  (hk : ∀ F, TermAt w t T F → LT w → Fine T → Calls Tryz.prog k args w fun e w' => e = .returned v ∧ TermAt w' t T' (more F w w') ∧ Ch F w w') (hf : Fine T → Fine T') :
  Calls Tryz.prog k args w fun e w' => e = .returned v ∧ Sys w0 w' bs (ts.set i (t, T')) := by
 obtain ⟨F, h1, h2, h3, h4⟩ := h.tm
 have hlen : i < ts.length := (List.getElem?_eq_some_iff.1 hi).1
 refine (hk (F i) (h1 i _ hi).1 h.lt (h1 i _ hi).2).mono fun e w' ⟨he, hA, hc⟩ => ⟨he, ?_⟩
 have hz := hc.size
 refine ⟨Ch.trans h.ch hc (fun b hb hb' => ?_), qC hc h.lt (fun b hb => by have := h3 i b hb; have := h.top; omega), h.top, fun j x e => (h.blk j x e).ch hc (h4 j i x e), h.lo, h.df, fun j b => if j = i then more (F i) w w' b else F j b, fun j x e => ?_, fun j k hjk b hb hb' => ?_, fun j b hb => ?_, fun j k x e hb => ?_⟩
 ·have := (h3 i b hb').1; omega
 ·by_cases hj : j = i
  ·subst hj
   rw [List.getElem?_set_self hlen] at e
   obtain rfl := (Option.some.inj e).symm
   simp only [if_true]
   exact ⟨hA, hf (h1 j _ hi).2⟩
  ·rw [List.getElem?_set_ne (fun h => hj h.symm)] at e
   simp only [if_neg hj]
   exact ⟨(h1 j x e).1.ch hc (fun b hb => h2 j i hj b hb), (h1 j x e).2⟩
 ·dsimp only at hb hb'
  split at hb
  ·rename_i hji
   subst hji
   rw [if_neg (fun h => hjk h.symm)] at hb'
   rcases hb with hb | hb
   ·exact h2 j k hjk b hb hb'
   ·have := (h3 k b hb').2; omega
  ·split at hb'
   ·rename_i hji hki
    subst hki
    rcases hb' with hb' | hb'
    ·exact h2 j k hjk b hb hb'
    ·have := (h3 j b hb).2; omega
   ·exact h2 j k hjk b hb hb'
 ·dsimp only at hb
  have hz0 := h.ch.size
  split at hb
  ·rcases hb with hb | hb
   ·have := h3 i b hb; omega
   ·omega
  ·have := h3 j b hb; omega
 ·dsimp only at hb
  split at hb
  ·rcases hb with hb | hb
   ·exact h4 j i x e hb
   ·have := (h.blk j x e).lt; omega
  ·exact h4 j k x e hb
theorem Sys.look (h : Sys w0 w bs ts) {k : FuncId} {args : Array Value} {v : Value} (hk : Calls Tryz.prog k args w fun e w' => e = .returned v ∧ Ch (fun _ => False) w w') : Calls Tryz.prog k args w fun e w' => e = .returned v ∧ Sys w0 w' bs ts :=
 hk.mono fun _ _ ⟨he, hc⟩ => ⟨he, h.same hc⟩
theorem Sys.at (h : Sys w0 w bs ts) {i t : Nat} {T : TS} (hi : ts[i]? = some (t, T)) : ∃ F, TermAt w t T F := by
 obtain ⟨F, h1, _⟩ := h.tm
 exact ⟨_, (h1 i _ hi).1⟩
theorem Sys.cell (h : Sys w0 w bs ts) {i t : Nat} {T : TS} (hi : ts[i]? = some (t, T)) (c : Nat) {v : Value} (hv : ∀ g o bk ps, (T.vals g o bk ps)[c]? = some v) : w.cell? ⟨t, c, none⟩ = some v := by
 obtain ⟨F, g, o, ba, bn, bc, pa, pn, pc, F1, F2, FB, FP, hI⟩ := h.at hi
 exact (hI.blk.cell c).trans (hv _ _ _ _)
theorem Sys.grid (h : Sys w0 w bs ts) {i t : Nat} {T : TS} (hi : ts[i]? = some (t, T)) : ∃ g F, w.cell? ⟨t, 0, none⟩ = some (.pointer (some ⟨g, 0, none⟩)) ∧ GridAt w g T.grid F := by
 obtain ⟨F, g, o, ba, bn, bc, pa, pn, pc, F1, F2, FB, FP, hI⟩ := h.at hi
 exact ⟨g, F1, (hI.blk.cell 0).trans rfl, hI.g1⟩
theorem Sys.other (h : Sys w0 w bs ts) {i t : Nat} {T : TS} (hi : ts[i]? = some (t, T)) : ∃ g F, w.cell? ⟨t, 1, none⟩ = some (.pointer (some ⟨g, 0, none⟩)) ∧ GridAt w g T.other F := by
 obtain ⟨F, g, o, ba, bn, bc, pa, pn, pc, F1, F2, FB, FP, hI⟩ := h.at hi
 exact ⟨o, F2, (hI.blk.cell 1).trans rfl, hI.g2⟩
theorem Sys.outs (h : Sys w0 w bs ts) {i t : Nat} {T : TS} (hi : ts[i]? = some (t, T)) : ∃ ba bn bc rows FB, w.cell? ⟨t, 97, none⟩ = some (.slice ba bn bc) ∧ bn = T.back.length ∧ LinesAt w ba bn rows FB ∧ rows.map Row.l = T.back ∧ (ba = none ∨ ∃ b off, ba = some ⟨b, off, none⟩) := by
 obtain ⟨F, g, o, ba, bn, bc, pa, pn, pc, F1, F2, FB, FP, hI⟩ := h.at hi
 obtain ⟨rows, hL, hm⟩ := hI.bk
 exact ⟨ba, bn, bc, rows, FB, (hI.blk.cell 97).trans (by kernel_rfl), by rw [← hm, List.length_map, hL.len], hL, hm, hI.bz⟩
theorem Fine.back {T : TS} (h : Fine T) : T.back.length ≤ 1000 := by obtain ⟨⟨W, H, h⟩, _⟩ := h; exact Nat.le_trans h.bk (by decide)
theorem Fine.params {T : TS} (h : Fine T) : T.parser.params.length ≤ 1000 := Nat.le_trans h.2.n (by decide)
end
theorem and16 (x : Int) : 0 ≤ qu .and .i64 x 65535 ∧ qu .and .i64 x 65535 ≤ 65535 := by
 have h : (BitVec.ofInt 64 x &&& BitVec.ofInt 64 65535).toNat ≤ 65535 := by
  rw [BitVec.toNat_and]
  exact Nat.and_le_right
 unfold qu
 show 0 ≤ IntKind.wrap .i64 (((BitVec.ofInt 64 x &&& BitVec.ofInt 64 65535).toNat : Nat) : Int) ∧ IntKind.wrap .i64 (((BitVec.ofInt 64 x &&& BitVec.ofInt 64 65535).toNat : Nat) : Int) ≤ 65535
 generalize (BitVec.ofInt 64 x &&& BitVec.ofInt 64 65535).toNat = n at h
 rw [qbL (k := .i64) (n := ((n : Nat) : Int)) (show -9223372036854775808 ≤ ((n : Nat) : Int) ∧ ((n : Nat) : Int) ≤ 9223372036854775807 by omega)]
 omega
theorem styR_any (s : Sty) (w : World) : Calls Tryz.prog 70 [.agg #[.bool s.bold, .bool s.under, .bool s.turned, iX s.fore, iX s.back]].toArray w fun e w' => e = .returned (.bool (qcR s)) ∧ Ch (fun _ => False) w w' := by
 have h := Sep.nil w; refine yA Tryz.func70 rfl <| ysr <| yo (zN [.bool s.bold, .bool s.under, .bool s.turned, iX s.fore, iX s.back] 33 h fun u f h => ?_); refine yz 2 <| ysr <| yp 4 [] (.l (h.c 0 3) .z) <| yw [6] (rM 0 s.fore) (fun a => ?_) fun a => ?_
 ·have g := a; refine yp 9 [] (.l (h.c 0 3) .z) <| yw [11] (rM s.fore 8) (fun b => ?_) fun b => ?_
  ·have i := b; refine yp 14 [] (.l (h.c 0 4) .z) <| yw [16] (rM 0 s.back) (fun d => ?_) fun d => ?_
   ·have j := d; refine yp 19 [] (.l (h.c 0 4) .z) <| ye <| q9 (yR1 (.bool (decide (s.back ≤ 8))) ?_); refine ⟨zc ?_, h.ch⟩; unfold qcR; rw [Bool.eq_iff_iff]; simp only [decide_eq_true_eq, Bool.false_eq_true, true_iff, false_iff, iff_true, iff_false, not_and]; omega
   have k := d; refine yz 19 <| q9 (yR1 (.bool false) ?_); refine ⟨zc ?_, h.ch⟩; unfold qcR; rw [Bool.eq_iff_iff]; simp only [decide_eq_true_eq, Bool.false_eq_true, true_iff, false_iff, iff_true, iff_false, not_and]; omega
  have m := b; refine yz 19 <| q9 (yR1 (.bool false) ?_); refine ⟨zc ?_, h.ch⟩; unfold qcR; rw [Bool.eq_iff_iff]; simp only [decide_eq_true_eq, Bool.false_eq_true, true_iff, false_iff, iff_true, iff_false, not_and]; omega
 have n := a; refine yz 19 <| q9 (yR1 (.bool false) ?_); refine ⟨zc ?_, h.ch⟩; unfold qcR; rw [Bool.eq_iff_iff]; simp only [decide_eq_true_eq, Bool.false_eq_true, true_iff, false_iff, iff_true, iff_false, not_and]; omega
theorem qkr (b off n cap : Nat) (l : List Cel) (w : World) (hr : Rd w (some ⟨b, off, none⟩) (flat l)) (hn : l.length = n) (hnb : n ≤ 1000) : Calls Tryz.prog 46 [.slice (some ⟨b, off, none⟩) n cap].toArray w fun e w' => ∃ o c, e = .returned (.slice (o.map at0) n c) ∧ Own w' qdF 6 o n c (flat (qaa l)) ∧ (∀ b, o = some b → w.heap.size ≤ b) ∧ Ch (fun _ => False) w w' := by
 subst hn; have h := Sep.nil w; refine yA Tryz.func46 rfl <| yx 1 <| yx 1 <| ys <| yx 3 <| qa <| qZ [3, 6, 7, 8] (f' := [(3, nX), (6, .slice (some ⟨b, off, none⟩) l.length cap), (7, iX ((l.length : Nat) : Int)), (8, iX 0)]) <| qD (σ := Nat × Option Nat × Nat) (fun ⟨k, o, c⟩ => [(3, .slice (o.map at0) k c), (6, .slice (some ⟨b, off, none⟩) l.length cap), (7, iX ((l.length : Nat) : Int)), (8, iX ((k : Nat) : Int))]) (fun ⟨k, o, c⟩ u => k ≤ l.length ∧ Sep w (fun _ => False) u [qel 66 6 o k c (flat ((qaa l).take k))]) (fun ⟨k, o, c⟩ => l.length - k) (0, none, 0) rfl ?_ ?_
 ·exact ⟨Nat.zero_le _, h.own0 66 6⟩
 intro p u G V d; obtain ⟨k, o, c⟩ := p; obtain ⟨hk, h⟩ := G; refine yx 1 <| ys <| yc (rL ((k : Nat) : Int) ((l.length : Nat) : Int)) (fun H => ?_) fun H => ?_
 ·refine yk <| ys <| qa <| ysr <| yp 2 [] (.i ((k : Nat) : Int) (l.length) (.m (qcP (i := ((k : Nat) : Int)) (h.rd hr) (by omega) (by omega)) (.m (qt (i := ((k : Nat) : Int)) (h.rd hr) (by omega) (by omega) 1 _ (by decide) rfl) (.m (qt (i := ((k : Nat) : Int)) (h.rd hr) (by omega) (by omega) 2 _ (by decide) rfl) (.m (qt (i := ((k : Nat) : Int)) (h.rd hr) (by omega) (by omega) 3 _ (by decide) rfl) (.m (qt (i := ((k : Nat) : Int)) (h.rd hr) (by omega) (by omega) 4 _ (by decide) rfl) (.m (qt (i := ((k : Nat) : Int)) (h.rd hr) (by omega) (by omega) 5 _ (by decide) rfl) (.e .z)))))))) <| yo (zN [rX 0, .bool false, .bool false, .bool false, iX 0, iX 0] 66 h fun u W h => ?_); refine yo (zs h 1 fun u h => ?_); refine ye <| ys <| ysr <| yp 2 [] (.a (h.cs 1 1 5) .z) <| yo (yQ (h.look (styR_any (gc l ((k : Nat) : Int)).sty _)) fun u h => ?_); refine yz 4 <| yc (rN (rY (qcR (gc l ((k : Nat) : Int)).sty))) (fun r => ?_) fun r => ?_
  ·have f := r; refine q7 <| yq 2 <| yo (zs h 1 fun u h => ?_); refine ye <| ys <| ysr <| yp 4 [] (.l (h.c 1 0) .z) <| yw [21] (rI (gc l ((k : Nat) : Int)).rune 0) (fun s => ?_) fun s => ?_
   ·have j := s; refine yp 6 [] (.l (h.c 1 0) .z) <| yo (yQ (h.look (qeR ((gc l ((k : Nat) : Int)).rune) _)) fun u h => ?_); refine yz 9 <| yc (rN (rY (qR (gc l ((k : Nat) : Int)).rune))) (fun t => ?_) fun t => ?_
    ·have A := t; refine q7 <| yq 1 <| yo (zs h 1 fun u h => ?_); refine ye <| q7 <| yp 2 [] (.a (h.cs 1 0 6) .z) <| yo (zB [rX 120, .bool false, .bool false, .bool false, iX 0, iX 0] 66 1 h fun u X h => ?_); refine yo (zA 0 32 1 1 (k + 1) (flat ((qaa l).take (k + 1))) h (Rd.all (h.b 2)) rfl (hz := qbH (c := (Cel.mk 120 qaR)) (by omega) (qd9 (by simp [f, j, A]) (by simp [f, j, A]))) (hb := by simp only [maxLen]; omega) fun u I J h Y => ?_); refine yq 5 <| yE (nB (nS ?_)); refine q7 <| yp 2 [] (.q6 (((k : Nat) : Int) + 1) .z) ?_; have h := h.nrm 1 [rX 120, .bool false, .bool false, .bool false, iX 0, iX 0]; refine yE (fun a ha => d (k + 1, I, J) _ ⟨by omega, h.take 1⟩ (by show l.length - (k + 1) < l.length - k; omega) a (ha.kp [3, 6, 7, 8]))
    have B := t; refine yk <| q7 <| yp 2 [] (.a (h.cs 1 0 6) .z) <| yo (zB [rX (gc l ((k : Nat) : Int)).rune, .bool false, .bool false, .bool false, iX 0, iX 0] 66 1 h fun u Z h => ?_); refine yo (zA 0 32 1 1 (k + 1) (flat ((qaa l).take (k + 1))) h (Rd.all (h.b 2)) rfl (hz := qbH (c := (Cel.mk (gc l ((k : Nat) : Int)).rune qaR)) (by omega) (qd9 (by simp [f, j, B]) (by simp [f, j, B]))) (hb := by simp only [maxLen]; omega) fun u K L h a0 => ?_); refine yq 5 <| yE (nB (nS ?_)); refine q7 <| yp 2 [] (.q6 (((k : Nat) : Int) + 1) .z) ?_; have h := h.nrm 1 [rX (gc l ((k : Nat) : Int)).rune, .bool false, .bool false, .bool false, iX 0, iX 0]; refine yE (fun a ha => d (k + 1, K, L) _ ⟨by omega, h.take 1⟩ (by show l.length - (k + 1) < l.length - k; omega) a (ha.kp [3, 6, 7, 8]))
   have C := s; refine yz 9 <| ycf <| yk <| q7 <| yp 2 [] (.a (h.cs 1 0 6) .z) <| yo (zB [rX (gc l ((k : Nat) : Int)).rune, .bool false, .bool false, .bool false, iX 0, iX 0] 66 1 h fun u a1 h => ?_); refine yo (zA 0 32 1 1 (k + 1) (flat ((qaa l).take (k + 1))) h (Rd.all (h.b 2)) rfl (hz := qbH (c := (Cel.mk (gc l ((k : Nat) : Int)).rune qaR)) (by omega) (qd9 (by simp [f, C]) (by simp [f, C]))) (hb := by simp only [maxLen]; omega) fun u M N h a2 => ?_); refine yq 5 <| yE (nB (nS ?_)); refine q7 <| yp 2 [] (.q6 (((k : Nat) : Int) + 1) .z) ?_; have h := h.nrm 1 [rX (gc l ((k : Nat) : Int)).rune, .bool false, .bool false, .bool false, iX 0, iX 0]; refine yE (fun a ha => d (k + 1, M, N) _ ⟨by omega, h.take 1⟩ (by show l.length - (k + 1) < l.length - k; omega) a (ha.kp [3, 6, 7, 8]))
  have g := r; refine yk <| ys <| ysr <| yp 4 [] (.l (h.c 1 0) .z) <| yw [21] (rI (gc l ((k : Nat) : Int)).rune 0) (fun v => ?_) fun v => ?_
  ·have q := v; refine yp 6 [] (.l (h.c 1 0) .z) <| yo (yQ (h.look (qeR ((gc l ((k : Nat) : Int)).rune) _)) fun u h => ?_); refine yz 9 <| yc (rN (rY (qR (gc l ((k : Nat) : Int)).rune))) (fun x => ?_) fun x => ?_
   ·have D := x; refine q7 <| yq 1 <| yo (zs h 1 fun u h => ?_); refine ye <| q7 <| yp 2 [] (.a (h.cs 1 0 6) .z) <| yo (zB [rX 120, .bool (gc l ((k : Nat) : Int)).sty.bold, .bool (gc l ((k : Nat) : Int)).sty.under, .bool (gc l ((k : Nat) : Int)).sty.turned, iX (gc l ((k : Nat) : Int)).sty.fore, iX (gc l ((k : Nat) : Int)).sty.back] 66 1 h fun u a3 h => ?_); refine yo (zA 0 32 1 1 (k + 1) (flat ((qaa l).take (k + 1))) h (Rd.all (h.b 2)) rfl (hz := qbH (c := (Cel.mk 120 (gc l ((k : Nat) : Int)).sty)) (by omega) (qd9 (by simp [g, q, D]) (by simp [g, q, D]))) (hb := by simp only [maxLen]; omega) fun u O P h a4 => ?_); refine yq 5 <| yE (nB (nS ?_)); refine q7 <| yp 2 [] (.q6 (((k : Nat) : Int) + 1) .z) ?_; have h := h.nrm 1 [rX 120, .bool (gc l ((k : Nat) : Int)).sty.bold, .bool (gc l ((k : Nat) : Int)).sty.under, .bool (gc l ((k : Nat) : Int)).sty.turned, iX (gc l ((k : Nat) : Int)).sty.fore, iX (gc l ((k : Nat) : Int)).sty.back]; refine yE (fun a ha => d (k + 1, O, P) _ ⟨by omega, h.take 1⟩ (by show l.length - (k + 1) < l.length - k; omega) a (ha.kp [3, 6, 7, 8]))
   have E := x; refine yk <| q7 <| yp 2 [] (.a (h.cs 1 0 6) .z) <| yo (zB [rX (gc l ((k : Nat) : Int)).rune, .bool (gc l ((k : Nat) : Int)).sty.bold, .bool (gc l ((k : Nat) : Int)).sty.under, .bool (gc l ((k : Nat) : Int)).sty.turned, iX (gc l ((k : Nat) : Int)).sty.fore, iX (gc l ((k : Nat) : Int)).sty.back] 66 1 h fun u a5 h => ?_); refine yo (zA 0 32 1 1 (k + 1) (flat ((qaa l).take (k + 1))) h (Rd.all (h.b 2)) rfl (hz := qbH (c := (gc l ((k : Nat) : Int))) (by omega) (qd9 (by simp [g, q, E]) (by simp [g, q, E]))) (hb := by simp only [maxLen]; omega) fun u Q R h a6 => ?_); refine yq 5 <| yE (nB (nS ?_)); refine q7 <| yp 2 [] (.q6 (((k : Nat) : Int) + 1) .z) ?_; have h := h.nrm 1 [rX (gc l ((k : Nat) : Int)).rune, .bool (gc l ((k : Nat) : Int)).sty.bold, .bool (gc l ((k : Nat) : Int)).sty.under, .bool (gc l ((k : Nat) : Int)).sty.turned, iX (gc l ((k : Nat) : Int)).sty.fore, iX (gc l ((k : Nat) : Int)).sty.back]; refine yE (fun a ha => d (k + 1, Q, R) _ ⟨by omega, h.take 1⟩ (by show l.length - (k + 1) < l.length - k; omega) a (ha.kp [3, 6, 7, 8]))
  have F := v; refine yz 9 <| ycf <| yk <| q7 <| yp 2 [] (.a (h.cs 1 0 6) .z) <| yo (zB [rX (gc l ((k : Nat) : Int)).rune, .bool (gc l ((k : Nat) : Int)).sty.bold, .bool (gc l ((k : Nat) : Int)).sty.under, .bool (gc l ((k : Nat) : Int)).sty.turned, iX (gc l ((k : Nat) : Int)).sty.fore, iX (gc l ((k : Nat) : Int)).sty.back] 66 1 h fun u a7 h => ?_); refine yo (zA 0 32 1 1 (k + 1) (flat ((qaa l).take (k + 1))) h (Rd.all (h.b 2)) rfl (hz := qbH (c := (gc l ((k : Nat) : Int))) (by omega) (qd9 (by simp [g, F]) (by simp [g, F]))) (hb := by simp only [maxLen]; omega) fun u S T h a8 => ?_); refine yq 5 <| yE (nB (nS ?_)); refine q7 <| yp 2 [] (.q6 (((k : Nat) : Int) + 1) .z) ?_; have h := h.nrm 1 [rX (gc l ((k : Nat) : Int)).rune, .bool (gc l ((k : Nat) : Int)).sty.bold, .bool (gc l ((k : Nat) : Int)).sty.under, .bool (gc l ((k : Nat) : Int)).sty.turned, iX (gc l ((k : Nat) : Int)).sty.fore, iX (gc l ((k : Nat) : Int)).sty.back]; refine yE (fun a ha => d (k + 1, S, T) _ ⟨by omega, h.take 1⟩ (by show l.length - (k + 1) < l.length - k; omega) a (ha.kp [3, 6, 7, 8]))
 have y : k = l.length := by omega
 refine qp (eS (qf (qb (nS ?_)))); refine yx 2 <| q9 (yR1 (.slice (o.map at0) k c) ?_); refine ⟨o, c, by rw [y], ?_, fun b e => ((h.newo 0) b e).1, h.ch⟩; have U := h.own 0; rwa [tame_all y, y] at U
theorem qks (a : Option Addr) (cap : Nat) (w : World) : Calls Tryz.prog 46 [.slice a 0 cap].toArray w fun e w' => e = .returned (nX) ∧ Ch (fun _ => False) w w' := by
 have h := Sep.nil w; refine yA Tryz.func46 rfl <| yx 1 <| yx 1 <| ys <| yx 3 <| qa <| yU 1 (yU1 ?_); refine yx 1 <| ys <| ycf <| qp (eS (qf (qb (nS ?_)))); refine yx 2 <| q9 (yR1 (nX) ?_); exact ⟨rfl, h.ch⟩
theorem qkt (p1 p2 : Int) (b off cap : Nat) (l : List Cel) (w : World) (hT : LT w) (h7 : gTop ≤ w.heap.size) (hr : Rd w (some ⟨b, off, none⟩) (flat l)) (hn0 : 0 < l.length) (hnb : l.length ≤ 400) : Calls Tryz.prog 27 [iX p1, iX p2, .slice (some ⟨b, off, none⟩) l.length cap].toArray w fun e w' => ∃ g F, e = .returned (pX g) ∧ GridAt w' g (qdY p1 p2 l) F ∧ (∀ b, F b → w.heap.size ≤ b) ∧ Ch (fun _ => False) w w' := by
 have h := Sep.nil w; refine yA Tryz.func27 rfl <| yx 1 <| ysr <| yq 2 <| yo (yC (qdJ (p1) (p2) _ (qC h.ch hT (fun _ h => h.elim)).tb (Nat.le_trans h7 h.ch.size)) ?_); rintro _ u ⟨f, O, rfl, A, B, C⟩; refine ⟨_, rfl, ?_⟩; have h := h.newGrid A B C; refine yz 4 <| yx 1 <| ys <| ysr <| yq 1 <| yo (yC (qkr b off l.length cap l _ (h.rd hr) rfl (by omega)) ?_); rintro _ u ⟨v, j, rfl, x, D, E⟩; refine ⟨_, rfl, ?_⟩; have h := h.fresh x D E; obtain ⟨n, rfl⟩ : ∃ b, v = some b := by
  cases hq : v with
  | some b => exact ⟨b, rfl⟩
  | none => have := (x.2.2.2.1 hq).1; omega
 refine yz 4 <| qa <| qZ [7, 8, 15, 16, 17] (f' := [(7, pX f), (8, iX 0), (15, .slice (some ⟨n, 0, none⟩) l.length j), (16, iX ((l.length : Nat) : Int)), (17, iX 0)]) <| qD (σ := Nat × Gr × Int) (fun ⟨k, G, i⟩ => [(7, pX f), (8, iX i), (15, .slice (some ⟨n, 0, none⟩) l.length j), (16, iX ((l.length : Nat) : Int)), (17, iX ((k : Nat) : Int))]) (fun ⟨k, G, i⟩ u => k ≤ l.length ∧ 0 ≤ i ∧ i ≤ 2 * (k : Int) ∧ qda ((qaa l).drop k) G i = qdY p1 p2 l ∧ Sep w (fun _ => False) u [qdn f G, qel 66 6 (some n) l.length j (flat (qaa l))]) (fun ⟨k, G, i⟩ => l.length - k) (0, qbS p1 p2, 0) rfl ?_ ?_
 ·exact ⟨Nat.zero_le _, Int.le_refl _, Int.le_refl _, rfl, h.take 2⟩
 intro p u H P y; obtain ⟨k, G, i⟩ := p; obtain ⟨hk, hi0, Q, d, h⟩ := H; have o : G.ok := (h.grid 0).elim fun _ h => h.ok; have R := mul_bd o.1 o.2.1; have S := div_bd (w := G.w) hi0 o.1.1; have T : (qaa l).length = l.length := List.length_map _; refine yx 1 <| ys <| yc (rL ((k : Nat) : Int) ((l.length : Nat) : Int)) (fun I => ?_) fun I => ?_
 ·refine yk <| ys <| qa <| ysr <| yp 2 [] (.i ((k : Nat) : Int) (l.length) (.m (qcP (i := ((k : Nat) : Int)) (h.ownRd 1) (by omega) (by omega)) (.m (qt (i := ((k : Nat) : Int)) (h.ownRd 1) (by omega) (by omega) 1 _ (by decide) rfl) (.m (qt (i := ((k : Nat) : Int)) (h.ownRd 1) (by omega) (by omega) 2 _ (by decide) rfl) (.m (qt (i := ((k : Nat) : Int)) (h.ownRd 1) (by omega) (by omega) 3 _ (by decide) rfl) (.m (qt (i := ((k : Nat) : Int)) (h.ownRd 1) (by omega) (by omega) 4 _ (by decide) rfl) (.m (qt (i := ((k : Nat) : Int)) (h.ownRd 1) (by omega) (by omega) 5 _ (by decide) rfl) (.e .z)))))))) <| yo (zN [rX 0, .bool false, .bool false, .bool false, iX 0, iX 0] 66 h fun u U h => ?_); refine yo (zs h 2 fun u h => ?_); refine ye <| ys <| ys <| zD [] h fun u h => yd (uL 0 11) [] (.l (h.gwh 0).1 (.l (h.gwh 0).2 (.q6 (G.w * G.h) .z))) <| yDe (nS ?_); refine yc (rM (G.w * G.h) i) (fun r => ?_) fun r => ?_
  ·have J := r; rw [qiH (by omega) J] at d; refine qp (eS (eB (eS (qf (qb (nS ?_)))))); refine yx 2 <| q9 (yR1 (pX f) ?_); obtain ⟨F, hG, s⟩ := h.gridNew 0; exact ⟨f, F, rfl, d ▸ hG, s, h.ch⟩
  have K := r; rw [qiG (by omega) K] at d; refine yk <| ys <| zD [14] h fun u h => ?_; refine yd (uL 0 14) [] (.l (h.gwh 0).1 (.p (q := 0 ≤ (i : Int) ∧ 0 < (G.w : Int)) (by constructor <;> omega) (.l (h.gwh 0).1 (.p (q := 0 ≤ (i : Int) ∧ 0 < (G.w : Int)) (by constructor <;> omega) (.q6 (i / G.w) (.a (h.cs 2 0 6) .z)))))) ?_; refine yK 14 (yQ (h.step 0 (A' := qdn f (qdg G ((i % G.w)) ((i / G.w)) (gc (qaa l) ((k : Nat) : Int)))) (fun F hA _ => qgV _ _ F ((i % G.w)) ((i / G.w)) (gc (qaa l) ((k : Nat) : Int)) _ (qC h.ch hT (fun _ h => h.elim)).tb hA)) fun u h => ?_); refine q8 <| yDe (nS ?_); refine ysr <| yp 3 [] (.q6 (i + 1) .z) <| ye <| ysr <| yp 2 [] (.l (h.c 2 0) .z) <| yo (yQ (h.look (qkq ((gc (qaa l) ((k : Nat) : Int)).rune) _)) fun u h => ?_); refine ye <| yc (rY (qL (gc (qaa l) ((k : Nat) : Int)).rune)) (fun t => ?_) fun t => ?_
  ·have L := t; rw [if_pos L] at d; refine q7 <| yp 3 [] (.q6 ((i + 1) + 1) .z) <| yE (nB (nS ?_)); refine q7 <| yp 2 [] (.q6 (((k : Nat) : Int) + 1) .z) ?_; have h := h.nrm 2 [rX (gc (qaa l) ((k : Nat) : Int)).rune, .bool (gc (qaa l) ((k : Nat) : Int)).sty.bold, .bool (gc (qaa l) ((k : Nat) : Int)).sty.under, .bool (gc (qaa l) ((k : Nat) : Int)).sty.turned, iX (gc (qaa l) ((k : Nat) : Int)).sty.fore, iX (gc (qaa l) ((k : Nat) : Int)).sty.back]; refine yE (fun a ha => y (k + 1, (qdg G ((i % G.w)) ((i / G.w)) (gc (qaa l) ((k : Nat) : Int))), i + 2) _ ⟨by omega, by omega, by omega, d, h.take 2⟩ (by show l.length - (k + 1) < l.length - k; omega) a (by rw [show i + 2 = i + 1 + 1 by omega]; exact ha.kp [7, 8, 15, 16, 17]))
  have M := t; rw [if_neg (fun h => Bool.false_ne_true (M.symm.trans h))] at d; refine qi (nB (nS ?_)); refine q7 <| yp 2 [] (.q6 (((k : Nat) : Int) + 1) .z) ?_; have h := h.nrm 2 [rX (gc (qaa l) ((k : Nat) : Int)).rune, .bool (gc (qaa l) ((k : Nat) : Int)).sty.bold, .bool (gc (qaa l) ((k : Nat) : Int)).sty.under, .bool (gc (qaa l) ((k : Nat) : Int)).sty.turned, iX (gc (qaa l) ((k : Nat) : Int)).sty.fore, iX (gc (qaa l) ((k : Nat) : Int)).sty.back]; refine yE (fun a ha => y (k + 1, (qdg G ((i % G.w)) ((i / G.w)) (gc (qaa l) ((k : Nat) : Int))), i + 1) _ ⟨by omega, by omega, by omega, d, h.take 2⟩ (by show l.length - (k + 1) < l.length - k; omega) a (ha.kp [7, 8, 15, 16, 17]))
 have N : k = (qaa l).length := by omega
 rw [qkn N] at d; refine qp (eS (qf (qb (nS ?_)))); refine yx 2 <| q9 (yR1 (pX f) ?_); obtain ⟨F, hG, s⟩ := h.gridNew 0; exact ⟨f, F, rfl, d ▸ hG, s, h.ch⟩
theorem qku (p1 p2 : Int) (a : Option Addr) (cap : Nat) (w : World) (hT : LT w) (h7 : gTop ≤ w.heap.size) : Calls Tryz.prog 27 [iX p1, iX p2, .slice a 0 cap].toArray w fun e w' => ∃ g F, e = .returned (pX g) ∧ GridAt w' g (qdY p1 p2 []) F ∧ (∀ b, F b → w.heap.size ≤ b) ∧ Ch (fun _ => False) w w' := by
 have h := Sep.nil w; refine yA Tryz.func27 rfl <| yx 1 <| ysr <| yq 2 <| yo (yC (qdJ (p1) (p2) _ (qC h.ch hT (fun _ h => h.elim)).tb (Nat.le_trans h7 h.ch.size)) ?_); rintro _ u ⟨c, k, rfl, d, f, i⟩; refine ⟨_, rfl, ?_⟩; have h := h.newGrid d f i; refine yz 4 <| yx 1 <| ys <| ysr <| yq 1 <| yo (yQ (h.look (qks a cap _)) fun u h => ?_); refine yz 4 <| qa <| yU 1 (yU1 ?_); refine yx 1 <| ys <| ycf <| qp (eS (qf (qb (nS ?_)))); refine yx 2 <| q9 (yR1 (pX c) ?_); obtain ⟨F, hG, j⟩ := h.gridNew 0; exact ⟨c, F, rfl, hG, j, h.ch⟩
theorem fill_any (p1 p2 : Int) (a : Option Addr) (n cap : Nat) (l : List Cel) (w : World) (hT : LT w) (h7 : gTop ≤ w.heap.size) (ha : n = 0 ∨ ∃ b off, a = some ⟨b, off, none⟩) (hr : Rd w a (flat l)) (hn : l.length = n) (hnb : n ≤ 400) : Calls Tryz.prog 27 [iX p1, iX p2, .slice a n cap].toArray w fun e w' => ∃ g F, e = .returned (pX g) ∧ GridAt w' g (qdY p1 p2 l) F ∧ (∀ b, F b → w.heap.size ≤ b) ∧ Ch (fun _ => False) w w' := by
 subst hn; by_cases c : l.length = 0
 ·obtain rfl := List.eq_nil_of_length_eq_zero c; exact qku p1 p2 a cap w hT h7
 obtain ⟨b, off, rfl⟩ := ha.resolve_left c; exact qkt p1 p2 b off cap l w hT h7 hr (by omega) hnb
theorem qdy (p1 p2 : Int) (a : Option Addr) (n cap : Nat) (l : List Cel) (x y : Int) (hid : Bool) (w : World) (hT : LT w) (h7 : gTop ≤ w.heap.size) (ha : n = 0 ∨ ∃ b off, a = some ⟨b, off, none⟩) (hr : Rd w a (flat l)) (hn : l.length = n) (hnb : n ≤ 400) (V : Vw) (hV : V = qiI p1 p2 l x y hid) : Calls Tryz.prog 12 [iX p1, iX p2, .agg #[.slice a n cap, iX x, iX y, .bool hid]].toArray w fun e w' => ∃ g F, e = .returned (.agg #[pX g, iX V.x, iX V.y, .bool V.hid]) ∧ GridAt w' g V.g F ∧ (∀ b, F b → w.heap.size ≤ b) ∧ Ch (fun _ => False) w w' := by
 subst hV; have o := and16 x; have r := and16 y; have h := Sep.nil w; refine yA Tryz.func12 rfl <| ysr <| yo (zN [.slice a n cap, iX x, iX y, .bool hid] 51 h fun u s h => ?_); refine yo (zN [.pointer none, iX 0, iX 0, .bool false] 30 h fun u t h => ?_); refine ye <| ysr <| yp 4 [] (.l (h.c 0 0) .z) <| yo (yC (fill_any p1 p2 a n cap l _ (qC h.ch hT (fun _ h => h.elim)) (Nat.le_trans h7 h.ch.size) ha (hr.ch h.ch iZ) hn hnb) ?_); rintro _ u ⟨f, v, rfl, i, j, k⟩; refine ⟨_, rfl, ?_⟩; have d := i.ok; have h := h.newGrid i j k; refine yz 6 <| ys <| zD [20] h fun u h => ?_; refine yd (uL 0 20) [] (.l (h.c 0 1) (.l (h.gwh 2).1 (.p (q := 0 ≤ ((qu .and .i64 x 65535) : Int) ∧ 0 < ((qdY p1 p2 l).w : Int)) (by constructor <;> (have := d.1; have := d.2.1; omega)) (.l (h.c 0 2) (.l (h.gwh 2).2 (.p (q := 0 ≤ ((qu .and .i64 y 65535) : Int) ∧ 0 < ((qdY p1 p2 l).h : Int)) (by constructor <;> (have := d.1; have := d.2.1; omega)) (.l (h.c 0 3) .z))))))) ?_; refine yK 20 (zs h 1 fun u h => ?_); refine q8 <| yDe (nS ?_); refine q9 (qee (.agg #[pX f, iX ((qu .and .i64 x 65535) % (qdY p1 p2 l).w), iX ((qu .and .i64 y 65535) % (qdY p1 p2 l).h), .bool hid]) (.a (h.cs 1 0 4) .z) ?_); obtain ⟨F, hG, m⟩ := h.gridNew 2; exact ⟨f, F, rfl, hG, m, h.ch⟩
theorem qcc (p1 p2 : Int) (w : World) (hT : LT w) (h7 : gTop ≤ w.heap.size) : Calls Tryz.prog 11 [iX p1, iX p2].toArray w fun e w' => ∃ g F, e = .returned (.agg #[pX g, iX 0, iX 0, .bool false]) ∧ GridAt w' g (qbS p1 p2) F ∧ (∀ b, F b → w.heap.size ≤ b) ∧ Ch (fun _ => False) w w' := by
 have h := Sep.nil w; refine yA Tryz.func11 rfl <| ysr <| yo (zN [.pointer none, iX 0, iX 0, .bool false] 30 h fun u k h => ?_); refine ye <| ysr <| yq 2 <| yo (yC (qdJ (p1) (p2) _ (qC h.ch hT (fun _ h => h.elim)).tb (Nat.le_trans h7 h.ch.size)) ?_); rintro _ u ⟨c, l, rfl, d, f, i⟩; refine ⟨_, rfl, ?_⟩; have h := h.newGrid d f i; refine yq 4 <| yo (zs h 0 fun u h => ?_); refine ye <| q9 (qee (.agg #[pX c, iX 0, iX 0, .bool false]) (.a (h.cs 0 0 4) .z) ?_); obtain ⟨F, hG, j⟩ := h.gridNew 1; exact ⟨c, F, rfl, hG, j, h.ch⟩
theorem qgu {p q : Nat} {A B : Vw} {F1 F2 : Nat → Prop} (w : World) (hA : GridAt w p A.g F1) (hB : GridAt w q B.g F2) : Calls Tryz.prog 18 [.agg #[pX p, iX A.x, iX A.y, .bool A.hid], .agg #[pX q, iX B.x, iX B.y, .bool B.hid]].toArray w fun e w' => e = .returned (.bool (qfB A B)) ∧ Ch (fun _ => False) w w' := by
 have h := Sep.nil w; refine yA Tryz.func18 rfl <| ysr <| yo (zN [pX p, iX A.x, iX A.y, .bool A.hid] 30 h fun u o h => ?_); refine yo (zN [pX q, iX B.x, iX B.y, .bool B.hid] 30 h fun u r h => ?_); refine yz 3 <| ysr <| yp 6 [] (.l (h.c 0 1) (.l (h.c 1 1) .z)) <| yw [10] (rE A.x B.x) (fun a => ?_) fun a => ?_
 ·have b := a; refine yp 13 [] (.l (h.c 0 2) (.l (h.c 1 2) .z)) <| yw [17] (rE A.y B.y) (fun d => ?_) fun d => ?_
  ·have i := d; refine yp 20 [] (.l (h.c 0 3) (.l (h.c 1 3) .z)) <| yw [24] (rY (A.hid == B.hid)) (fun f => ?_) fun f => ?_
   ·have j := f; refine yp 24 [] (.l (h.c 0 0) (.l (h.c 1 0) .z)) <| yo (yQ (h.look (qgp (hA.ch h.ch fun _ _ h => h) (hB.ch h.ch fun _ _ h => h))) fun u h => ?_); refine yz 27 <| q9 (yR1 (.bool (grB A.g B.g)) ?_); refine ⟨zc ?_, h.ch⟩; unfold qfB; simp [b, i, j]
   have k := f; refine yz 27 <| q9 (yR1 (.bool false) ?_); refine ⟨zc ?_, h.ch⟩; unfold qfB; simp [b, i, k]
  have m := d; refine yz 27 <| q9 (yR1 (.bool false) ?_); refine ⟨zc ?_, h.ch⟩; unfold qfB; simp [b, m]
 have n := a; refine yz 27 <| q9 (yR1 (.bool false) ?_); refine ⟨zc ?_, h.ch⟩; unfold qfB; simp [n]
theorem qiJ (b off cap : Nat) (ls : List Lk) (w : World) (hr : Rd w (some ⟨b, off, none⟩) (lkV ls)) (hb : ls.length ≤ 9223372036854775807) : Calls Tryz.prog 9 [.slice (some ⟨b, off, none⟩) ls.length cap].toArray w fun e w' => e = .returned (.bool (qkp ls)) ∧ Ch (fun _ => False) w w' := by
 have h := Sep.nil w; refine yA Tryz.func9 rfl <| yx 1 <| ys <| yx 3 <| yc (rL 12 ((ls.length : Nat) : Int)) (fun f => ?_) fun f => ?_
 ·refine yx 1 <| q9 (rS (yR1 (.bool false) ?_)); exact ⟨congrArg Ending.returned (congrArg Value.bool (few_len (by omega))), h.ch⟩
 refine yk <| ys <| yx 3 <| qa <| qZ [8, 9, 10] (f' := [(8, .slice (some ⟨b, off, none⟩) ls.length cap), (9, iX ((ls.length : Nat) : Int)), (10, iX 0)]) <| qD (σ := Nat) (fun k => [(8, .slice (some ⟨b, off, none⟩) ls.length cap), (9, iX ((ls.length : Nat) : Int)), (10, iX ((k : Nat) : Int))]) (fun k u => k ≤ ls.length ∧ (∀ j, j < k → (gk ls j).n ≤ 400) ∧ Sep w (fun _ => False) u []) (fun k => ls.length - k) 0 rfl ?_ ?_
 ·exact ⟨Nat.zero_le _, fun j hj => absurd hj (Nat.not_lt_zero j), h.take 0⟩
 intro k u g q o; obtain ⟨hk, d, h⟩ := g; refine yx 1 <| ys <| yc (rL ((k : Nat) : Int) ((ls.length : Nat) : Int)) (fun p => ?_) fun p => ?_
 ·refine yk <| ys <| qa <| ysr <| yp 2 [] (.i ((k : Nat) : Int) (ls.length) (.m (qdZ (i := k) (h.rd hr) (by omega) 0 _ (by decide) rfl) (.m (qdZ (i := k) (h.rd hr) (by omega) 1 _ (by decide) rfl) (.m (qdZ (i := k) (h.rd hr) (by omega) 2 _ (by decide) rfl) (.m (qdZ (i := k) (h.rd hr) (by omega) 3 _ (by decide) rfl) (.e .z)))))) <| yo (zN [nX, iX 0, iX 0, .bool false] 51 h fun u r h => ?_); refine yo (zs h 0 fun u h => ?_); refine ye <| ysr <| yp 4 [] (.l (h.c 0 0) .z) <| ye <| yc (rL 400 (((gk ls k).n : Nat) : Int)) (fun hf => ?_) fun hf => ?_
  ·refine yx 1 <| q9 (rB (rS (qdp (rB (rS (yR1 (.bool false) ?_)))))); exact ⟨congrArg Ending.returned (congrArg Value.bool (few_at (k := k) (by omega) (by omega))), h.ch⟩
  refine qi (nB (nS ?_)); refine q7 <| yp 2 [] (.q6 (((k : Nat) : Int) + 1) .z) ?_; have h := h.nrm 0 [.slice (gk ls k).a (gk ls k).n (gk ls k).cap, iX (gk ls k).x, iX (gk ls k).y, .bool (gk ls k).hid]; refine yE (fun a ha => o (k + 1) _ ⟨by omega, fun j hj => (Nat.lt_or_ge j k).elim (d j) (fun h => by rw [show j = k by omega]; omega), h.take 0⟩ (by show ls.length - (k + 1) < ls.length - k; omega) a (ha.kp [8, 9, 10]))
 have s : k = ls.length := by omega
 refine qp (eS (qf (qb (nS ?_)))); refine yx 1 <| q9 (yR1 (.bool true) ?_); exact ⟨congrArg Ending.returned (congrArg Value.bool (few_t (by omega) (fun j hj => d j (by omega)))), h.ch⟩
theorem qiK (a : Option Addr) (cap : Nat) (w : World) : Calls Tryz.prog 9 [.slice a 0 cap].toArray w fun e w' => e = .returned (.bool (qkp [])) ∧ Ch (fun _ => False) w w' := by
 have h := Sep.nil w; refine yA Tryz.func9 rfl <| yx 1 <| ys <| yx 3 <| ycf <| yk <| ys <| yx 3 <| qa <| yU 1 (yU1 ?_); refine yx 1 <| ys <| ycf <| qp (eS (qf (qb (nS ?_)))); refine yx 1 <| q9 (yR1 (.bool true) ?_); exact ⟨congrArg Ending.returned (congrArg Value.bool (rfl)), h.ch⟩
section
variable {w0 w w' : World} {F0 : Nat → Prop} {l : List Asn} {i t g o : Nat} {T : TS}
theorem Sep.newT (h : Sep w0 F0 w l) (hA : TermAt w' t T (fun b => w.heap.size ≤ b ∧ b < w'.heap.size)) (hc : Ch (fun _ => False) w w') : Sep w0 F0 w' (l ++ [qb9 t T]) :=
 h.add (A := qb9 t T) (tmA.of hA) (fun _ hb => hb) hc
theorem Sep.wr (h : Sep w0 (fun _ => False) w l) (hT : LT w0) (i : Nat) {x : Option (Nat × Nat)} (hF : Fine T) (s : ByteArray) (hs : s.size ≤ 1000000) (hi : l[i]? = some (tmA x t T) := by rfl) : Calls Tryz.prog 13 [.pointer (some ⟨t, 0, none⟩), .string s].toArray w fun e w' => e = .returned (.tuple #[]) ∧ Sep w0 (fun _ => False) w' (l.set i (qb9 t (qG T s))) :=
 h.met i (fun F hA _ => by obtain ⟨⟨W, H, hL⟩, hp⟩ := hF; exact qhL hA (qC h.ch hT (fun _ h => h.elim)) hL hp s hs) hi
theorem Sep.lookG {P : Program} {k : FuncId} {args : Array Value} {v : Value} (h : Sep w0 F0 w l) (i : Nat) (hk : ∀ F1, GridAt w g T.grid F1 → Calls P k args w fun e w' => e = .returned v ∧ Ch (fun _ => False) w w') (hi : l[i]? = some (tmA (some (g, o)) t T) := by rfl) : Calls P k args w fun e w' => e = .returned v ∧ Sep w0 F0 w' l := by
 obtain ⟨F, hA, _⟩ := h.at hi
 obtain ⟨F1, hG, _⟩ := tmA.grd (w' := w) (G' := T.grid) hA
 exact h.look (hk F1 hG)
end
def qiL : Vw := ⟨qbS 2 1, 0, 0, false⟩
def fitB : Vw := ⟨qdg (qbS 2 1) 1 0 ⟨120, qaR⟩, 0, 0, false⟩
def fitT : TS := qG (startT zeroT 2 1) (qbe qiL fitB)
theorem qh5 : (atG fitT.grid 1 0).rune = 120 ∧ fitT.cursor.x = 0 ∧ qfB qiL qiL = true ∧ qfB qiL fitB = false ∧ fitB.g.h = 1 := by decide +kernel
theorem qkv : ∀ l ∈ fitB.g.lines, ∀ c ∈ l, qc3 c.sty := by
 have : (fitB.g.lines.all fun l => l.all fun c => qcR c.sty) = true := by decide +kernel
 intro l hl c hc
 exact of_decide_eq_true (p := (0 ≤ c.sty.fore ∧ c.sty.fore ≤ 8) ∧ 0 ≤ c.sty.back ∧ c.sty.back ≤ 8) (List.all_eq_true.1 (List.all_eq_true.1 this l hl) c hc)
theorem qiM : (qbe qiL fitB).size ≤ 1000000 := by decide +kernel
def PS.gr (p : PS) : Prop := p.state = 0 → p = { atP 0 with utf := p.utf }
theorem qe1 (T : TS) (s u : ByteArray) : ∀ k, k ≤ s.size → qaW T (s ++ u) k = qaW T s k
 | 0, _ => rfl
 | k + 1, h => by
  rw [qaW, qaW, qe1 T s u k (by omega)]
  congr 1
  unfold bt
  simp only [Int.toNat_natCast]
  rw [dif_pos (show k < (s ++ u).size by rw [ByteArray.size_append]; omega), dif_pos (show k < s.size by omega), ByteArray.getElem_append_left (by omega)]
theorem qe2 (T : TS) (s u : ByteArray) : ∀ k, k ≤ u.size → qaW T (s ++ u) (s.size + k) = qaW (qG T s) u k
 | 0, _ => qe1 T s u _ (Nat.le_refl _)
 | k + 1, h => by
  rw [← Nat.add_assoc, qaW, qaW, qe2 T s u k (by omega)]
  congr 1
  unfold bt
  simp only [Int.toNat_natCast]
  rw [dif_pos (show s.size + k < (s ++ u).size by rw [ByteArray.size_append]; omega), dif_pos (show k < u.size by omega), ByteArray.getElem_append_right (by omega)]
  congr 2
  simp
theorem qN (T : TS) (s u : ByteArray) : qG T (s ++ u) = qG (qG T s) u := by
 rw [show qG T (s ++ u) = qaW T (s ++ u) (s.size + u.size) by unfold qG; rw [ByteArray.size_append]]
 exact qe2 T s u _ (Nat.le_refl _)
abbrev b24 : ByteArray := ⟨#[24]⟩
def usB (u v : US) : Bool := decide (u.b0 = v.b0) && decide (u.b1 = v.b1) && decide (u.b2 = v.b2) && decide (u.n = v.n)
theorem usB_eq {u v : US} (h : usB u v = true) : u = v := by
 obtain ⟨a, b, c, d⟩ := u
 obtain ⟨a', b', c', d'⟩ := v
 simp only [usB, Bool.and_eq_true, decide_eq_true_eq] at h
 obtain ⟨⟨⟨rfl, rfl⟩, rfl⟩, rfl⟩ := h
 rfl
theorem asc_all : ((List.range 95).all fun k => usB (qaI u0 (32 + (k : Int))).1 u0 && decide ((qaI u0 (32 + (k : Int))).2 = [32 + (k : Int)]) && qR (32 + (k : Int)) && !qL (32 + (k : Int)) && qR (qK (32 + (k : Int))) && !qL (qK (32 + (k : Int))) && decide (qK (32 + (k : Int)) ≠ 0)) = true := by decide +kernel
theorem asc_one {c : Int} (h : 32 ≤ c ∧ c ≤ 126) : qaI u0 c = (u0, [c]) ∧ qR c = true ∧ qL c = false ∧ qR (qK c) = true ∧ qL (qK c) = false ∧ qK c ≠ 0 := by
 have := List.all_eq_true.1 asc_all (c - 32).toNat (List.mem_range.2 (by omega))
 rw [show 32 + (((c - 32).toNat : Nat) : Int) = c by omega] at this
 simp only [Bool.and_eq_true, decide_eq_true_eq, Bool.not_eq_true'] at this
 obtain ⟨⟨⟨⟨⟨⟨h1, h2⟩, h3⟩, h4⟩, h5⟩, h6⟩, h7⟩ := this
 exact ⟨Prod.ext (usB_eq h1) h2, h3, h4, h5, h6, h7⟩
theorem feed_asc {T : TS} (h : T.parser = atP 0) {c : Int} (hc : 32 ≤ c ∧ c ≤ 126) : qw T c = qb8 T c := by
 have e : qad T.parser c = (atP 0, [acP c]) := by
  rw [h]
  have hp : qad (atP 0) c = qv (atP 0) c := rfl
  rw [hp]
  unfold qv
  rw [if_pos (by omega), if_neg (by omega), if_neg (by omega), (asc_one hc).1]
  rfl
 unfold qw
 rw [e]
 show qcI { T with parser := atP 0 } (acP c) = _
 have e2 : ({ T with parser := atP 0 } : TS) = T := by rw [← h]
 rw [e2]; rfl
structure Kp (T U : TS) : Prop where
 alt : U.alt = true
 other : U.other = T.other
 away : U.away = T.away
 saved : U.saved = T.saved
 top : U.top = T.top
 bot : U.bot = T.bot
 title : U.title = T.title
 back : U.back = T.back
theorem Kp.refl {T : TS} (h : T.alt = true) : Kp T T := ⟨h, rfl, rfl, rfl, rfl, rfl, rfl, rfl⟩
theorem Kp.trans {T U V : TS} (h : Kp T U) (k : Kp U V) : Kp T V := ⟨k.alt, k.other.trans h.other, k.away.trans h.away, k.saved.trans h.saved, k.top.trans h.top, k.bot.trans h.bot, k.title.trans h.title, k.back.trans h.back⟩
section
variable {w w' : World} {t g o : Nat} {ba : Option Addr} {bn bc : Nat} {pa : Option Addr} {pn pc : Nat} {T : TS} {F F1 F2 FB FP : Nat → Prop}
theorem TermIn.grid2 (h : TermIn w t g o ba bn bc pa pn pc T F F1 F2 FB FP) (hc : Ch F2 w w') {G' : Gr} {F2' : Nat → Prop} (hG : GridAt w' o G' F2') (hF : ∀ b, F2' b → more F2 w w' b) :
  TermIn w' t g o ba bn bc pa pn pc ({ T with other := G' } : TS) (more F w w') F1 F2' FB FP := by
 have hlt1 : ∀ b, F1 b → b < w.heap.size := h.g1.lt
 have hltF : ∀ b, F b → b < w.heap.size := h.lt
 have htl := h.blk.lt
 obtain ⟨rows, hL, hl⟩ := h.bk
 have ap : ∀ (X : Nat → Prop), (∀ b, X b → F b) → (∀ b, F2 b → ¬ X b) → ∀ b, F2' b → ¬ X b := fun X hX ha b hb hx => by
  rcases hF b hb with h1 | h1
  ·exact ha b h1 hx
  ·have := hltF b (hX b hx); omega
 exact
 {blk := h.blk.ch hc h.t2
  g1 := h.g1.ch hc fun b h1 h2 => h.a12 b h1 h2
  g2 := hG
  bk := ⟨rows, hL.ch hc fun b hb h1 => h.a2B b h1 hb, hl⟩
  bcap := h.bcap
  ps := ⟨h.ps.1.ch hc fun ad e h1 => h.a2P _ h1 (h.ps.2.2.2 ad e), h.ps.2⟩
  pz := h.pz
  bz := h.bz
  t1 := h.t1
  t2 := fun hb => by
   rcases hF t hb with h1 | h1
   ·exact h.t2 h1
   ·omega
  tB := h.tB, tP := h.tP
  a12 := fun b h1 h2 => ap F1 h.inF.2.1 (fun b h2 h1 => h.a12 b h1 h2) b h2 h1
  a1B := h.a1B
  a2B := ap FB h.inF.2.2.2.1 h.a2B
  a1P := h.a1P
  a2P := ap FP h.inF.2.2.2.2 h.a2P
  inF := ⟨.inl h.inF.1, fun b hb => .inl (h.inF.2.1 b hb), fun b hb => (hF b hb).elim (fun h1 => .inl (h.inF.2.2.1 b h1)) .inr, fun b hb => .inl (h.inF.2.2.2.1 b hb), fun b hb => .inl (h.inF.2.2.2.2 b hb)⟩
  lt := fun b hb => hb.elim (fun hb => Nat.lt_of_lt_of_le (hltF b hb) hc.size) fun hb => hb.2
  hi := fun b hb => hb.elim (h.hi b) fun hb => by have := h.hi t h.inF.1; omega }
theorem TermIn.chF2 (h : TermIn w t g o ba bn bc pa pn pc T F F1 F2 FB FP) (hc : Ch F2 w w') : Ch F w w' := hc.mono fun b _ hb => h.inF.2.2.1 b hb
end
def qgJ (p : Int) : Int := min (max p 1) 60
def upI (T : TS) (p2 : Int) : Int := max (T.cursor.y - qgJ p2 + 1) 0
def fixC (c : Cur) (w h : Int) : Cur := ⟨min c.x (w - 1), min c.y (h - 1), c.late && ((c.x : Int) == w - 1), c.sty⟩
def rs1 (T : TS) (p1 p2 : Int) : TS :=
 if T.alt = true then { T with grid := qfe T.grid p1 (qgJ p2) (upI T p2) }
 else { T with grid := qfe T.grid p1 (qgJ p2) (upI T p2), back := qfh T.back (T.grid.lines.take (qew T.grid (upI T p2)).toNat) }
def rs2 (T : TS) (p1 p2 : Int) : TS := { rs1 T p1 p2 with other := qfe (rs1 T p1 p2).other p1 (qgJ p2) 0 }
def qe3 (T : TS) (p1 p2 : Int) : TS :=
 {rs2 T p1 p2 with
  top := 0, bot := (rs2 T p1 p2).grid.h
  cursor := fixC ⟨(rs2 T p1 p2).cursor.x, (rs2 T p1 p2).cursor.y - upI T p2, (rs2 T p1 p2).cursor.late, (rs2 T p1 p2).cursor.sty⟩ (rs2 T p1 p2).grid.w (rs2 T p1 p2).grid.h
  saved := fixC (rs2 T p1 p2).saved (rs2 T p1 p2).grid.w (rs2 T p1 p2).grid.h
  away := fixC (rs2 T p1 p2).away (rs2 T p1 p2).grid.w (rs2 T p1 p2).grid.h }
theorem rs1_f (T : TS) (p1 p2 : Int) : (rs1 T p1 p2).cursor = T.cursor ∧ (rs1 T p1 p2).saved = T.saved ∧ (rs1 T p1 p2).away = T.away ∧ (rs1 T p1 p2).other = T.other ∧ (rs1 T p1 p2).reply = T.reply ∧ (rs1 T p1 p2).parser = T.parser ∧ (rs1 T p1 p2).alt = T.alt ∧
  (rs1 T p1 p2).grid.w = qd p1 ∧ (rs1 T p1 p2).grid.h = qd (qgJ p2) := by
 unfold rs1
 split <;> exact ⟨rfl, rfl, rfl, rfl, rfl, rfl, rfl, rfl, rfl⟩
theorem qh6 (p : Int) : 1 ≤ qgJ p ∧ qgJ p ≤ 60 ∧ qd (qgJ p) = qgJ p ∧ qd p = qgJ p := by unfold qgJ qd; omega
theorem rs2_f (T : TS) (p1 p2 : Int) : (rs2 T p1 p2).cursor = T.cursor ∧ (rs2 T p1 p2).saved = T.saved ∧ (rs2 T p1 p2).away = T.away ∧ (rs2 T p1 p2).grid.w = qd p1 ∧ (rs2 T p1 p2).grid.h = qgJ p2 ∧ (rs2 T p1 p2).reply = T.reply ∧ (rs2 T p1 p2).parser = T.parser := by
 obtain ⟨h1, h2, h3, h4, h5, h6, h7, h8, h9⟩ := rs1_f T p1 p2
 have hb := qh6 p2
 exact ⟨h1, h2, h3, h8, by show (rs1 T p1 p2).grid.h = _; omega, h5, h6⟩
theorem rs1_back {W H : Int} {T : TS} (h : Lim W H T) (p1 p2 : Int) : (rs1 T p1 p2).back.length ≤ 20 := by
 unfold rs1
 split
 ·exact h.bk
 ·exact qg9 _ _
theorem qiN {W H : Int} {T : TS} (h : Lim W H T) (p1 p2 : Int) : Lim (qd p1) (qd p2) (qe3 T p1 p2) := by
 obtain ⟨e1, e2, e3, e4, e5, e6, e7⟩ := rs2_f T p1 p2
 have hb := qh6 p2
 have hs1 : 1 ≤ qd p1 ∧ qd p1 ≤ 60 := by unfold qd; omega
 obtain ⟨⟨c1, c2⟩, c3, c4⟩ := h.cu
 obtain ⟨⟨s1, s2⟩, s3, s4⟩ := h.sa
 obtain ⟨⟨a1, a2⟩, a3, a4⟩ := h.aw
 refine ⟨hs1, by omega, ⟨e4, by show (rs2 T p1 p2).grid.h = _; omega⟩, ⟨rfl, by show qd (qgJ p2) = _; omega⟩, ?_, ?_, ?_, ?_, rs1_back h p1 p2, by show (rs2 T p1 p2).reply.size ≤ 400; rw [e6]; exact h.rp⟩
 ·show (0 ≤ min (rs2 T p1 p2).cursor.x ((rs2 T p1 p2).grid.w - 1) ∧ min (rs2 T p1 p2).cursor.x ((rs2 T p1 p2).grid.w - 1) < _) ∧ 0 ≤ min ((rs2 T p1 p2).cursor.y - upI T p2) ((rs2 T p1 p2).grid.h - 1) ∧ min ((rs2 T p1 p2).cursor.y - upI T p2) ((rs2 T p1 p2).grid.h - 1) < _
  rw [e1, e4, e5]; unfold upI; omega
 ·show (0 ≤ min (rs2 T p1 p2).saved.x ((rs2 T p1 p2).grid.w - 1) ∧ min (rs2 T p1 p2).saved.x ((rs2 T p1 p2).grid.w - 1) < _) ∧ 0 ≤ min (rs2 T p1 p2).saved.y ((rs2 T p1 p2).grid.h - 1) ∧ min (rs2 T p1 p2).saved.y ((rs2 T p1 p2).grid.h - 1) < _
  rw [e2, e4, e5]; omega
 ·show (0 ≤ min (rs2 T p1 p2).away.x ((rs2 T p1 p2).grid.w - 1) ∧ min (rs2 T p1 p2).away.x ((rs2 T p1 p2).grid.w - 1) < _) ∧ 0 ≤ min (rs2 T p1 p2).away.y ((rs2 T p1 p2).grid.h - 1) ∧ min (rs2 T p1 p2).away.y ((rs2 T p1 p2).grid.h - 1) < _
  rw [e3, e4, e5]; omega
 ·show 0 ≤ (0 : Int) ∧ (0 : Int) < (rs2 T p1 p2).grid.h ∧ (rs2 T p1 p2).grid.h ≤ _
  rw [e5]; omega
theorem qfC (T : TS) (p1 p2 : Int) : (qe3 T p1 p2).parser = T.parser := (rs2_f T p1 p2).2.2.2.2.2.2
theorem qgv {w : World} {t : Nat} {W H : Int} {T : TS} {F : Nat → Prop} (hA0 : TermAt w t T F) (hT : LT w) (hL : Lim W H T) (p1 p2 : Int) : Calls Tryz.prog 45 [pX t, iX p1, iX p2].toArray w fun e w' => e = .returned (.tuple #[]) ∧ TermAt w' t (qe3 T p1 p2) (more F w w') ∧ Ch F w w' := by
 obtain ⟨g, o, ba, bn, bc, pa, pn, pc, F1, F2, FB, FP, hI⟩ := hA0; have hA0 : TermAt w t T F := ⟨g, o, ba, bn, bc, pa, pn, pc, F1, F2, FB, FP, hI⟩
 have aW := hI.inF.1; obtain ⟨gv, cu⟩ := hI.g1.head; have cv : Df t g := fun e => hI.t1 (e ▸ hI.g1.inF); obtain ⟨⟨cw, cx⟩, ⟨cy, cz⟩, cA, cB⟩ := hI.g1.ok; have aX := hL; have cC := aX.all; refine yA Tryz.func45 rfl <| yx 4 <| ysr <| yp 10 [] (.l (hI.blk.c 3) (.q6 (T.cursor.y - (min ((max (p2 : Int) 1) : Int) 60)) (.q6 ((T.cursor.y - (min ((max (p2 : Int) 1) : Int) 60)) + 1) .z))) <| ye <| ysr <| yp 7 [] (.l (hI.blk.c 0) .z) <| yo (yC (qex g T.grid F1 p1 (qgJ p2) (upI T p2) _ hT.tb hI.g1) ?_); rintro _ X ⟨ro, n1, cD, aY, K1, rfl, ag, ah, hG, hF, hK, b0, hc⟩; refine ⟨_, rfl, ?_⟩; have E := hI.grid1 hc hG hF; have C := hI.chF hc; have b1 := qC C hT (fun b hb => hI.hi b hb); have b2 : ∀ b, K1 b → more F w X b ∧ ¬ aY b ∧ ¬ F2 b ∧ b ≠ t := fun b hb => by
  have f := hK b hb; refine ⟨f.elim (fun h => .inl (hI.inF.2.1 b h)) .inr, fun h => b0 b h hb, fun h => ?_, fun h => ?_⟩
  ·rcases f with f | f
   ·exact hI.a12 b f h
   have := hI.g2.lt b h; omega
  rcases f with f | f
  ·exact hI.t1 (h ▸ f)
  have := hI.blk.lt; omega
 have b3 : n1 ≤ 1000 := by
  have h1 := ag.len; have f := congrArg List.length ah; rw [List.length_map, List.length_take] at f; omega
 refine yz 9 <| qai ([(0, pX t), (1, iX p1), (2, iX (qgJ p2)), (6, iX (upI T p2))]) (fun u => TermAt u t (rs1 T p1 p2) (more F w u) ∧ Ch F w u ∧ LT u) (fun cE aj => ?_) (fun u13 b4 => ?_)
 ·refine ysr <| yp 5 [] (.l (E.blk.c 95) .z) <| ye <| yc (rN (rY T.alt)) (fun Y => ?_) fun Y => ?_
  ·refine q7 <| yq 2 <| yo (yC (qhB (lc := n1) E ag (fun e => by cases e) b2 (by have := hI.bk; obtain ⟨rr, h1, f⟩ := this; have h3 := h1.len; have h4 : rr.length = T.back.length := (by have h5 := congrArg List.length f; rw [List.length_map] at h5; exact h5); omega) b3) ?_); rintro _ al ⟨cH, cI, cJ, rfl, b5, O⟩; refine ⟨_, rfl, ?_⟩; refine yE (fun a ha => aj _ ⟨TermAt.eq' (show TermAt al t _ (more F w al) from ⟨_, _, _, _, _, _, _, _, _, _, _, _, b5.mono (qb3 C.size O.size) (hI.moreOk (Nat.le_trans C.size O.size))⟩) (by unfold rs1; rw [if_neg (by rw [Y]; decide), ← ah]), Ch.more C (E.cht O), qC (Ch.more C (E.cht O)) hT (fun b hb => hI.hi b hb)⟩ a (ha.kp [0, 1, 2, 6]))
  refine qi (fun a ha => aj _ ⟨TermAt.eq' (show TermAt X t _ (more F w X) from ⟨_, _, _, _, _, _, _, _, _, _, _, _, E⟩) (by unfold rs1; rw [if_pos Y]), C, b1⟩ a (ha.kp [0, 1, 2, 6]))
 obtain ⟨⟨j, k, n, p, q, r, s, v, b6, b7, b8, b9, P⟩, am, bb⟩ := b4; refine ysr <| yp 6 [] (.l (P.blk.c 1) .z) <| yo (yC (qex k (rs1 T p1 p2).other b7 p1 (qgJ p2) 0 _ bb.tb P.g2) ?_); rintro _ B ⟨cK, n6, cM, bd, K6, rfl, cO, cP, bf, bg, cQ, cR, an⟩; refine ⟨_, rfl, ?_⟩; have D : TermIn B t j k n p q r s v (rs2 T p1 p2) (more (more F w u13) u13 B) b6 bd b8 b9 := P.grid2 an bf bg; have ao := P.chF2 an; have bh := Ch.more am ao; obtain ⟨d1, d2, d3, d4, d5, d6, d7⟩ := rs2_f T p1 p2; have cW : (rs2 T p1 p2).cursor.x = T.cursor.x := by rw [d1]
 have cX : (rs2 T p1 p2).cursor.y = T.cursor.y := by rw [d1]
 have cY : (rs2 T p1 p2).saved.x = T.saved.x := by rw [d2]
 have cZ : (rs2 T p1 p2).saved.y = T.saved.y := by rw [d2]
 have d0 : (rs2 T p1 p2).away.x = T.away.x := by rw [d3]
 have d8 : (rs2 T p1 p2).away.y = T.away.y := by rw [d3]
 have d9 := qh6 p2; have da : 1 ≤ qd p1 ∧ qd p1 ≤ 60 := by unfold qd; omega
 have db : 0 ≤ upI T p2 ∧ upI T p2 ≤ 60 := by unfold upI; omega
 obtain ⟨dc, G⟩ := D.g1.head; have A : Df t j := fun e => D.t1 (e ▸ D.g1.inF); refine ye <| ysr <| yp 11 [] (.l (D.blk.c 0) (.l (G.c 1) .z)) <| yo (yS D.blk fun dd bi au => ?_); have bj := zt (Ch.refl (· = t) B) au (fun i hi (h : i = t) => h); have bl := G.ch au (fun h => A h.symm); refine yq 14 <| yo (yS bi fun de av aw => ?_); have bm := zt bj aw (fun i hi (h : i = t) => h); have bo := bl.ch aw (fun h => A h.symm); refine ye <| ysr <| yp 10 [] (.l (av.c 3) (.q6 ((rs2 T p1 p2).cursor.y - (upI T p2)) .z)) <| yo (yS av fun df bp ax => ?_); have bq := zt bm ax (fun i hi (h : i = t) => h); have br := bo.ch ax (fun h => A h.symm); refine ye <| ys <| yD [9] fun dg dh Z => ?_; have ay := zt bq Z eZ; have bs := br.ch Z id; have m := bp.ch Z id; refine yd [0, 1, 2, 3, 4, 5, 6, 7, 8, 11] [] .z <| yK 9 (yB [.pointer (some ⟨t, 2, none⟩), .pointer (some ⟨t, 10, none⟩), .pointer (some ⟨t, 18, none⟩)] 114 3 fun di d bt dj az a0 => ?_); have dk : B.heap.size ≤ d := by rw [bt]; exact zzs ay
 have bu := zt ay a0 eZ; have bv := bs.ch a0 id; have bw := m.ch a0 id; refine q8 <| yd [10] [] .z <| yDe (nS ?_); refine qa <| yU 4 (yU1 ?_); refine yx 1 <| ys <| yct <| yk <| ys <| qa <| ysr <| yp 3 [] (.i 0 (3) (.l (az.c 0) .z)) <| ye <| qai ([(0, pX t), (9, .pointer (some ⟨t, 2, none⟩)), (77, .slice (some ⟨d, 0, none⟩) 3 3), (78, iX 3), (79, iX 0)]) (fun u => Blk u t (TS.vals ({ (rs2 T p1 p2) with cursor := (Cur.mk (rs2 T p1 p2).cursor.x ((rs2 T p1 p2).cursor.y - (upI T p2)) ((rs2 T p1 p2).cursor.late && (((rs2 T p1 p2).cursor.x : Int) == (rs2 T p1 p2).grid.w - 1)) (rs2 T p1 p2).cursor.sty), top := 0, bot := (rs2 T p1 p2).grid.h } : TS) j k (.slice n p q) (.slice r s v)) qbc ∧ Ch (· = t) B u ∧ Blk u d [.pointer (some ⟨t, 2, none⟩), .pointer (some ⟨t, 10, none⟩), .pointer (some ⟨t, 18, none⟩)] 114) (fun dl aA => ?_) (fun u54 bx => ?_)
 ·refine yD [22] fun dm dn Q => ?_; have aB := zt bu Q eZ; have bz := bv.ch Q id; have I := bw.ch Q id; have aC := az.ch Q id; refine yd (uL 0 6) [] (.l (I.c 4) .z) <| yv [88] (rY (rs2 T p1 p2).cursor.late) (fun a1 => ?_) fun a1 => ?_
  ·refine yd (uL 6 16) [] (.l (I.c 2) (.l (I.c 0) (.l (bz.c 0) (.q6 ((rs2 T p1 p2).grid.w - 1) .z)))) <| yK 22 (yS I fun dp bA aD => ?_); have bB := zt aB aD (fun i hi (h : i = t) => h); have bC := aC.ch aD (fun (h : d = t) => by have := m.lt; omega); refine q8 <| yDe (fun a ha => aA _ ⟨Blk.to (Blk.to (cs' := (TS.vals ({ (rs2 T p1 p2) with cursor := (Cur.mk (rs2 T p1 p2).cursor.x ((rs2 T p1 p2).cursor.y - (upI T p2)) (((rs2 T p1 p2).cursor.x : Int) == ((rs2 T p1 p2).grid.w - 1)) (rs2 T p1 p2).cursor.sty), top := 0, bot := (rs2 T p1 p2).grid.h } : TS) j k (.slice n p q) (.slice r s v))) bA (by kernel_rfl)) (by simp only [a1, Bool.true_and, Bool.false_and]), bB, bC⟩ a (ha.kp [0, 9, 77, 78, 79]))
  refine yd (uL 6 16) [] .z <| yK 22 (yS I fun dq bD aE => ?_); have bE := zt aB aE (fun i hi (h : i = t) => h); have bF := aC.ch aE (fun (h : d = t) => by have := m.lt; omega); refine q8 <| yDe (fun a ha => aA _ ⟨Blk.to (Blk.to (cs' := (TS.vals ({ (rs2 T p1 p2) with cursor := (Cur.mk (rs2 T p1 p2).cursor.x ((rs2 T p1 p2).cursor.y - (upI T p2)) false (rs2 T p1 p2).cursor.sty), top := 0, bot := (rs2 T p1 p2).grid.h } : TS) j k (.slice n p q) (.slice r s v))) bD (by kernel_rfl)) (by simp only [a1, Bool.true_and, Bool.false_and]), bE, bF⟩ a (ha.kp [0, 9, 77, 78, 79]))
 obtain ⟨bG, aF, bH⟩ := bx; have bI := G.ch aF (fun h => A h.symm); refine yD [30, 33] fun dr ds R => ?_; have bJ := zt aF R eZ; have a2 := bI.ch R id; have J := bG.ch R id; have bK := bH.ch R id; refine yd (uL 0 26) [] (.l (J.c 2) (.l (J.c 0) (.l (a2.c 0) (.q6 ((rs2 T p1 p2).grid.w - 1) (.l (J.c 3) (.l (J.c 0) (.l (a2.c 1) .z))))))) <| ydT (uL 26 4) [] rfl (fun _ => (.q6 ((rs2 T p1 p2).grid.h - 1) .z)) <| yK 30 (yS J fun dt bL a3 => ?_); have bM := zt bJ a3 (fun i hi (h : i = t) => h); have bN := a2.ch a3 (fun h => A h.symm); have bO := bK.ch a3 (fun (h : d = t) => by have := m.lt; omega); refine q8 <| yd [31, 32] [] .z <| yK 33 (yS bL fun du bP a4 => ?_); have bQ := zt bM a4 (fun i hi (h : i = t) => h); have bR := bN.ch a4 (fun h => A h.symm); have aG := bO.ch a4 (fun (h : d = t) => by have := m.lt; omega); refine q8 <| yDe (nB (nS ?_)); refine q7 <| yp 2 [] (.q6 1 .z) <| yE (nU (yU1 ?_)); refine yx 1 <| ys <| yct <| yk <| ys <| qa <| ysr <| yp 3 [] (.i 1 (3) (.l (aG.c 1) .z)) <| ye <| qai ([(0, pX t), (9, .pointer (some ⟨t, 10, none⟩)), (77, .slice (some ⟨d, 0, none⟩) 3 3), (78, iX 3), (79, iX 1)]) (fun u => Blk u t (TS.vals ({ (rs2 T p1 p2) with cursor := (Cur.mk (min ((rs2 T p1 p2).cursor.x : Int) ((rs2 T p1 p2).grid.w - 1)) (min (((rs2 T p1 p2).cursor.y - (upI T p2)) : Int) ((rs2 T p1 p2).grid.h - 1)) ((rs2 T p1 p2).cursor.late && (((rs2 T p1 p2).cursor.x : Int) == (rs2 T p1 p2).grid.w - 1)) (rs2 T p1 p2).cursor.sty), saved := (Cur.mk (rs2 T p1 p2).saved.x (rs2 T p1 p2).saved.y ((rs2 T p1 p2).saved.late && (((rs2 T p1 p2).saved.x : Int) == (rs2 T p1 p2).grid.w - 1)) (rs2 T p1 p2).saved.sty), top := 0, bot := (rs2 T p1 p2).grid.h } : TS) j k (.slice n p q) (.slice r s v)) qbc ∧ Ch (· = t) B u ∧ Blk u d [.pointer (some ⟨t, 2, none⟩), .pointer (some ⟨t, 10, none⟩), .pointer (some ⟨t, 18, none⟩)] 114) (fun dv aH => ?_) (fun u105 bS => ?_)
 ·refine yD [22] fun dw dx S => ?_; have aI := zt bQ S eZ; have bT := bR.ch S id; have aJ := aG.ch S id; have K := bP.ch S id; refine yd (uL 0 6) [] (.l (K.c 12) .z) <| yv [88] (rY (rs2 T p1 p2).saved.late) (fun a5 => ?_) fun a5 => ?_
  ·refine yd (uL 6 16) [] (.l (K.c 10) (.l (K.c 0) (.l (bT.c 0) (.q6 ((rs2 T p1 p2).grid.w - 1) .z)))) <| dkeep [0, 9, 77, 78, 79, 102, 104] (f' := [(0, pX t), (9, .pointer (some ⟨t, 10, none⟩)), (77, .slice (some ⟨d, 0, none⟩) 3 3), (78, iX 3), (79, iX 1), (102, .bool (((rs2 T p1 p2).saved.x : Int) == ((rs2 T p1 p2).grid.w - 1))), (104, .pointer (some ⟨t, 12, none⟩))]) <| yK 22 (yS K fun dy bU aK => ?_); have bV := zt aI aK (fun i hi (h : i = t) => h); have bW := aJ.ch aK (fun (h : d = t) => by have := m.lt; omega); refine q8 <| yDe (fun a ha => aH _ ⟨Blk.to (Blk.to (cs' := (TS.vals ({ (rs2 T p1 p2) with cursor := (Cur.mk (min ((rs2 T p1 p2).cursor.x : Int) ((rs2 T p1 p2).grid.w - 1)) (min (((rs2 T p1 p2).cursor.y - (upI T p2)) : Int) ((rs2 T p1 p2).grid.h - 1)) ((rs2 T p1 p2).cursor.late && (((rs2 T p1 p2).cursor.x : Int) == (rs2 T p1 p2).grid.w - 1)) (rs2 T p1 p2).cursor.sty), saved := (Cur.mk (rs2 T p1 p2).saved.x (rs2 T p1 p2).saved.y (((rs2 T p1 p2).saved.x : Int) == ((rs2 T p1 p2).grid.w - 1)) (rs2 T p1 p2).saved.sty), top := 0, bot := (rs2 T p1 p2).grid.h } : TS) j k (.slice n p q) (.slice r s v))) bU (by kernel_rfl)) (by simp only [a5, Bool.true_and, Bool.false_and]), bV, bW⟩ a (ha.kp [0, 9, 77, 78, 79]))
  refine yd (uL 6 16) [] .z <| dkeep [0, 9, 77, 78, 79, 102, 104] (f' := [(0, pX t), (9, .pointer (some ⟨t, 10, none⟩)), (77, .slice (some ⟨d, 0, none⟩) 3 3), (78, iX 3), (79, iX 1), (102, .bool false), (104, .pointer (some ⟨t, 12, none⟩))]) <| yK 22 (yS K fun dz bX aL => ?_); have bY := zt aI aL (fun i hi (h : i = t) => h); have bZ := aJ.ch aL (fun (h : d = t) => by have := m.lt; omega); refine q8 <| yDe (fun a ha => aH _ ⟨Blk.to (Blk.to (cs' := (TS.vals ({ (rs2 T p1 p2) with cursor := (Cur.mk (min ((rs2 T p1 p2).cursor.x : Int) ((rs2 T p1 p2).grid.w - 1)) (min (((rs2 T p1 p2).cursor.y - (upI T p2)) : Int) ((rs2 T p1 p2).grid.h - 1)) ((rs2 T p1 p2).cursor.late && (((rs2 T p1 p2).cursor.x : Int) == (rs2 T p1 p2).grid.w - 1)) (rs2 T p1 p2).cursor.sty), saved := (Cur.mk (rs2 T p1 p2).saved.x (rs2 T p1 p2).saved.y false (rs2 T p1 p2).saved.sty), top := 0, bot := (rs2 T p1 p2).grid.h } : TS) j k (.slice n p q) (.slice r s v))) bX (by kernel_rfl)) (by simp only [a5, Bool.true_and, Bool.false_and]), bY, bZ⟩ a (ha.kp [0, 9, 77, 78, 79]))
 obtain ⟨c0, aM, c1⟩ := bS; have c2 := G.ch aM (fun h => A h.symm); refine yD [30, 33] fun dA dB U => ?_; have c3 := zt aM U eZ; have a6 := c2.ch U id; have c4 := c1.ch U id; have L := c0.ch U id; refine yd (uL 0 26) [] (.l (L.c 10) (.l (L.c 0) (.l (a6.c 0) (.q6 ((rs2 T p1 p2).grid.w - 1) (.l (L.c 11) (.l (L.c 0) (.l (a6.c 1) .z))))))) <| dkeep [0, 77, 78, 79, 105, 106, 119, 123, 130] (f' := [(0, pX t), (77, .slice (some ⟨d, 0, none⟩) 3 3), (78, iX 3), (79, iX 1), (105, .pointer (some ⟨t, 10, none⟩)), (106, .pointer (some ⟨t, 10, none⟩)), (119, iX (min ((rs2 T p1 p2).saved.x : Int) ((rs2 T p1 p2).grid.w - 1))), (123, iX (rs2 T p1 p2).saved.y), (130, iX (rs2 T p1 p2).grid.h)]) <| ydT (uL 26 4) [] rfl (fun _ => (.q6 ((rs2 T p1 p2).grid.h - 1) .z)) <| yK 30 (yS L fun dC c5 a7 => ?_); have c6 := zt c3 a7 (fun i hi (h : i = t) => h); have c7 := a6.ch a7 (fun h => A h.symm); have c8 := c4.ch a7 (fun (h : d = t) => by have := m.lt; omega); refine q8 <| yd [31, 32] [] .z <| yK 33 (yS c5 fun dD c9 a8 => ?_); have ca := zt c6 a8 (fun i hi (h : i = t) => h); have cb := c7.ch a8 (fun h => A h.symm); have aN := c8.ch a8 (fun (h : d = t) => by have := m.lt; omega); refine q8 <| yDe (nB (nS ?_)); refine q7 <| yp 2 [] (.q6 2 .z) <| yE (nU (yU1 ?_)); refine yx 1 <| ys <| yct <| yk <| ys <| qa <| ysr <| yp 3 [] (.i 2 (3) (.l (aN.c 2) .z)) <| ye <| qai ([(0, pX t), (9, .pointer (some ⟨t, 18, none⟩)), (77, .slice (some ⟨d, 0, none⟩) 3 3), (78, iX 3), (79, iX 2)]) (fun u => Blk u t (TS.vals ({ (rs2 T p1 p2) with cursor := (Cur.mk (min ((rs2 T p1 p2).cursor.x : Int) ((rs2 T p1 p2).grid.w - 1)) (min (((rs2 T p1 p2).cursor.y - (upI T p2)) : Int) ((rs2 T p1 p2).grid.h - 1)) ((rs2 T p1 p2).cursor.late && (((rs2 T p1 p2).cursor.x : Int) == (rs2 T p1 p2).grid.w - 1)) (rs2 T p1 p2).cursor.sty), saved := (Cur.mk (min ((rs2 T p1 p2).saved.x : Int) ((rs2 T p1 p2).grid.w - 1)) (min ((rs2 T p1 p2).saved.y : Int) ((rs2 T p1 p2).grid.h - 1)) ((rs2 T p1 p2).saved.late && (((rs2 T p1 p2).saved.x : Int) == (rs2 T p1 p2).grid.w - 1)) (rs2 T p1 p2).saved.sty), away := (Cur.mk (rs2 T p1 p2).away.x (rs2 T p1 p2).away.y ((rs2 T p1 p2).away.late && (((rs2 T p1 p2).away.x : Int) == (rs2 T p1 p2).grid.w - 1)) (rs2 T p1 p2).away.sty), top := 0, bot := (rs2 T p1 p2).grid.h } : TS) j k (.slice n p q) (.slice r s v)) qbc ∧ Ch (· = t) B u ∧ Blk u d [.pointer (some ⟨t, 2, none⟩), .pointer (some ⟨t, 10, none⟩), .pointer (some ⟨t, 18, none⟩)] 114) (fun dE aO => ?_) (fun u156 cc => ?_)
 ·refine yD [22] fun dF dG V => ?_; have aP := zt ca V eZ; have cd := cb.ch V id; have aQ := aN.ch V id; have M := c9.ch V id; refine yd (uL 0 6) [] (.l (M.c 20) .z) <| yv [88] (rY (rs2 T p1 p2).away.late) (fun a9 => ?_) fun a9 => ?_
  ·refine yd (uL 6 16) [] (.l (M.c 18) (.l (M.c 0) (.l (cd.c 0) (.q6 ((rs2 T p1 p2).grid.w - 1) .z)))) <| yK 22 (yS M fun dH ce aR => ?_); have cf := zt aP aR (fun i hi (h : i = t) => h); have cg := aQ.ch aR (fun (h : d = t) => by have := m.lt; omega); refine q8 <| yDe (fun a ha => aO _ ⟨Blk.to (Blk.to (cs' := (TS.vals ({ (rs2 T p1 p2) with cursor := (Cur.mk (min ((rs2 T p1 p2).cursor.x : Int) ((rs2 T p1 p2).grid.w - 1)) (min (((rs2 T p1 p2).cursor.y - (upI T p2)) : Int) ((rs2 T p1 p2).grid.h - 1)) ((rs2 T p1 p2).cursor.late && (((rs2 T p1 p2).cursor.x : Int) == (rs2 T p1 p2).grid.w - 1)) (rs2 T p1 p2).cursor.sty), saved := (Cur.mk (min ((rs2 T p1 p2).saved.x : Int) ((rs2 T p1 p2).grid.w - 1)) (min ((rs2 T p1 p2).saved.y : Int) ((rs2 T p1 p2).grid.h - 1)) ((rs2 T p1 p2).saved.late && (((rs2 T p1 p2).saved.x : Int) == (rs2 T p1 p2).grid.w - 1)) (rs2 T p1 p2).saved.sty), away := (Cur.mk (rs2 T p1 p2).away.x (rs2 T p1 p2).away.y (((rs2 T p1 p2).away.x : Int) == ((rs2 T p1 p2).grid.w - 1)) (rs2 T p1 p2).away.sty), top := 0, bot := (rs2 T p1 p2).grid.h } : TS) j k (.slice n p q) (.slice r s v))) ce (by kernel_rfl)) (by simp only [a9, Bool.true_and, Bool.false_and]), cf, cg⟩ a (ha.kp [0, 9, 77, 78, 79]))
  refine yd (uL 6 16) [] .z <| yK 22 (yS M fun dI ci aS => ?_); have cj := zt aP aS (fun i hi (h : i = t) => h); have ck := aQ.ch aS (fun (h : d = t) => by have := m.lt; omega); refine q8 <| yDe (fun a ha => aO _ ⟨Blk.to (Blk.to (cs' := (TS.vals ({ (rs2 T p1 p2) with cursor := (Cur.mk (min ((rs2 T p1 p2).cursor.x : Int) ((rs2 T p1 p2).grid.w - 1)) (min (((rs2 T p1 p2).cursor.y - (upI T p2)) : Int) ((rs2 T p1 p2).grid.h - 1)) ((rs2 T p1 p2).cursor.late && (((rs2 T p1 p2).cursor.x : Int) == (rs2 T p1 p2).grid.w - 1)) (rs2 T p1 p2).cursor.sty), saved := (Cur.mk (min ((rs2 T p1 p2).saved.x : Int) ((rs2 T p1 p2).grid.w - 1)) (min ((rs2 T p1 p2).saved.y : Int) ((rs2 T p1 p2).grid.h - 1)) ((rs2 T p1 p2).saved.late && (((rs2 T p1 p2).saved.x : Int) == (rs2 T p1 p2).grid.w - 1)) (rs2 T p1 p2).saved.sty), away := (Cur.mk (rs2 T p1 p2).away.x (rs2 T p1 p2).away.y false (rs2 T p1 p2).away.sty), top := 0, bot := (rs2 T p1 p2).grid.h } : TS) j k (.slice n p q) (.slice r s v))) ci (by kernel_rfl)) (by simp only [a9, Bool.true_and, Bool.false_and]), cj, ck⟩ a (ha.kp [0, 9, 77, 78, 79]))
 obtain ⟨cl, aT, dJ⟩ := cc; have cm := G.ch aT (fun h => A h.symm); refine yD [30, 33] fun dK dL aa => ?_; have cn := zt aT aa eZ; have aU := cm.ch aa id; have N := cl.ch aa id; refine yd (uL 0 26) [] (.l (N.c 18) (.l (N.c 0) (.l (aU.c 0) (.q6 ((rs2 T p1 p2).grid.w - 1) (.l (N.c 19) (.l (N.c 0) (.l (aU.c 1) .z))))))) <| ydT (uL 26 4) [] rfl (fun _ => (.q6 ((rs2 T p1 p2).grid.h - 1) .z)) <| yK 30 (yS N fun dM co cp => ?_); have cq := zt cn cp (fun i hi (h : i = t) => h); refine q8 <| yd [31, 32] [] .z <| yK 33 (yS co fun ab cr cs => ?_); have ac := zt cq cs (fun i hi (h : i = t) => h); refine q8 <| yDe (nB (nS ?_)); refine q7 <| yp 2 [] (.q6 3 .z) <| yE (nU (yU1 ?_)); refine yx 1 <| ys <| ycf <| qp (eS (qf (qb (qz ?_)))); have ct := D.scalar (T' := ({ (rs2 T p1 p2) with cursor := (Cur.mk (min ((rs2 T p1 p2).cursor.x : Int) ((rs2 T p1 p2).grid.w - 1)) (min (((rs2 T p1 p2).cursor.y - (upI T p2)) : Int) ((rs2 T p1 p2).grid.h - 1)) ((rs2 T p1 p2).cursor.late && (((rs2 T p1 p2).cursor.x : Int) == (rs2 T p1 p2).grid.w - 1)) (rs2 T p1 p2).cursor.sty), saved := (Cur.mk (min ((rs2 T p1 p2).saved.x : Int) ((rs2 T p1 p2).grid.w - 1)) (min ((rs2 T p1 p2).saved.y : Int) ((rs2 T p1 p2).grid.h - 1)) ((rs2 T p1 p2).saved.late && (((rs2 T p1 p2).saved.x : Int) == (rs2 T p1 p2).grid.w - 1)) (rs2 T p1 p2).saved.sty), away := (Cur.mk (min ((rs2 T p1 p2).away.x : Int) ((rs2 T p1 p2).grid.w - 1)) (min ((rs2 T p1 p2).away.y : Int) ((rs2 T p1 p2).grid.h - 1)) ((rs2 T p1 p2).away.late && (((rs2 T p1 p2).away.x : Int) == (rs2 T p1 p2).grid.w - 1)) (rs2 T p1 p2).away.sty), top := 0, bot := (rs2 T p1 p2).grid.h } : TS)) ac (Blk.to cr (by kernel_rfl)) rfl rfl rfl rfl
 have dN := am.size; have dO := ao.size; have dP := zzs ac; have aV : Ch F w ab := zt bh ac (fun i _ h => h ▸ aW); exact ⟨rfl, TermAt.eq' (show TermAt ab t _ (more F w ab) from ⟨_, _, _, _, _, _, _, _, _, _, _, _, ct.mono (fun b hb => hb.elim (fun h => h.elim .inl (fun h => .inr ⟨h.1, by omega⟩)) (fun h => .inr ⟨by omega, by omega⟩)) (hI.moreOk aV.size)⟩) rfl, aV⟩
structure Stp where
 text : ByteArray
 w : Int
 h : Int
def stp0 : Stp := ⟨ByteArray.empty, 0, 0⟩
def Stp.vals (x : Stp) : List Value := [.string x.text, .int .i64 x.w, .int .i64 x.h]
def flatS : List Stp → List Value
 | [] => []
 | x :: l => x.vals ++ flatS l
def gs (l : List Stp) (k : Nat) : Stp := l.getD k stp0
def doT (T : TS) (x : Stp) : TS := if x.w = 0 ∧ x.h = 0 then qG T x.text else qe3 T x.w x.h
theorem qh7 {T : TS} (h : Fine T) (p1 p2 : Int) : Fine (qe3 T p1 p2) := by
 obtain ⟨⟨W, H, h⟩, hp⟩ := h
 exact ⟨⟨_, _, qiN h p1 p2⟩, by rw [qfC]; exact hp⟩
theorem fine_do {T : TS} (h : Fine T) (x : Stp) : Fine (doT T x) := by
 unfold doT
 split
 ·exact qbI h _
 ·exact qh7 h _ _
def qaQ (l : List Cel) : Bool := (List.range l.length).all fun i => if (gc l (i : Int)).rune = 0 then qF l ((i : Int) - 1) else qht (gc l (i : Int)) && (!qL (gc l (i : Int)).rune || qF l (i : Int))
def celO (c : Cel) : Prop := qbi c.sty = true ∧ (c.rune = 0 ∨ qR c.rune = true)
def okS (l : List Cel) : Prop := ∀ c ∈ l, celO c
def okC (l : List Cel) : Prop := okS l ∧ qaQ l = true
theorem qaX {l : List Cel} {i : Nat} (h : i < l.length) : gc l (i : Int) = l[i] := by simp [gc, List.getD, h]
theorem gc_mem {l : List Cel} {i : Nat} (h : i < l.length) : gc l (i : Int) ∈ l := by rw [qaX h]; exact List.getElem_mem h
theorem wholeB_iff {l : List Cel} : qaQ l = true ↔ ∀ i : Nat, i < l.length → ((gc l (i : Int)).rune = 0 → qF l ((i : Int) - 1) = true) ∧ ((gc l (i : Int)).rune ≠ 0 → qht (gc l (i : Int)) = true ∧ (qL (gc l (i : Int)).rune = true → qF l (i : Int) = true)) := by
 unfold qaQ
 rw [List.all_eq_true]
 refine ⟨fun h i hi => ?_, fun h i hi => ?_⟩
 ·have := h i (List.mem_range.2 hi)
  split at this
  ·rename_i h0; exact ⟨fun _ => this, fun h => absurd h0 h⟩
  ·rename_i h0
   rw [Bool.and_eq_true, Bool.or_eq_true, Bool.not_eq_true'] at this
   exact ⟨fun h => absurd h h0, fun _ => ⟨this.1, fun hw => this.2.elim (fun h => by rw [h] at hw; cases hw) id⟩⟩
 ·have := h i (List.mem_range.1 hi)
  split
  ·rename_i h0; exact this.1 h0
  ·rename_i h0
   rw [Bool.and_eq_true, Bool.or_eq_true, Bool.not_eq_true']
   refine ⟨(this.2 h0).1, ?_⟩
   cases hw : qL (gc l (i : Int)).rune with
   | false => exact .inl rfl
   | true => exact .inr ((this.2 h0).2 hw)
theorem qgw (l : List Cel) : ∀ k, k ≤ l.length → ∀ i : Nat, i < l.length → gc (qat l k) (i : Int) = if i < k then qcl l (i : Int) else gc l (i : Int)
 | 0, _, i, _ => by rw [if_neg (Nat.not_lt_zero i)]; rfl
 | k + 1, hk, i, hi => by
  have ih := qgw l k (by omega) i hi
  have hl := qae l k
  rw [qat, qaX (by rw [List.length_set, hl]; exact hi), List.getElem_set]
  split
  ·rename_i e; subst e; rw [if_pos (by omega)]
  ·rename_i e
   rw [qaX (by rw [hl]; exact hi)] at ih
   rw [ih]
   by_cases h : i < k
   ·rw [if_pos h, if_pos (by omega)]
   ·rw [if_neg h, if_neg (by omega)]
theorem qdb (l : List Cel) {i : Nat} (hi : i < l.length) : gc (qbM l) (i : Int) = qcl l (i : Int) := by
 unfold qbM
 rw [qgw l _ (Nat.le_refl _) i hi, if_pos hi]
theorem qh8 : qL 0 = false := by decide +kernel
theorem wide32 : qL 32 = false := by decide +kernel
theorem qfD : qR 32 = true := by decide +kernel
theorem pairedB_iff {l : List Cel} {i : Int} : qF l i = true ↔ 0 ≤ i ∧ i + 1 < (l.length : Nat) ∧ qL (gc l i).rune = true ∧ gc l (i + 1) = ⟨0, (gc l i).sty⟩ := by
 unfold qF
 simp only [Bool.and_eq_true, decide_eq_true_eq, beq_iff_eq]
 constructor
 ·rintro ⟨⟨⟨a, b⟩, c⟩, d⟩; exact ⟨a, b, c, d⟩
 ·rintro ⟨a, b, c, d⟩; exact ⟨⟨⟨a, b⟩, c⟩, d⟩
theorem qcd {l : List Cel} {i : Int} (h1 : (gc l i).rune = 0 → qF l (i - 1) = true) (h2 : qL (gc l i).rune = true → qF l i = true) : qcl l i = gc l i := by
 unfold qcl
 rw [if_neg]
 intro h
 simp only [Bool.or_eq_true, Bool.and_eq_true, decide_eq_true_eq, Bool.not_eq_true'] at h
 rcases h with h | h
 ·rw [h1 h.1] at h; cases h.2
 ·rw [h2 h.1] at h; cases h.2
theorem qe4 (l : List Cel) (i : Int) : qcl l i = ⟨32, (gc l i).sty⟩ ∨ (qcl l i = gc l i ∧ ((gc l i).rune = 0 → qF l (i - 1) = true) ∧ (qL (gc l i).rune = true → qF l i = true)) := by
 unfold qcl
 split
 ·exact .inl rfl
 ·rename_i h
  simp only [Bool.or_eq_true, Bool.and_eq_true, decide_eq_true_eq, Bool.not_eq_true', not_or, not_and] at h
  exact .inr ⟨rfl, fun h0 => by simpa using h.1 h0, fun hw => by simpa using h.2 hw⟩
theorem qe5 {l : List Cel} {i : Int} (h : qF l i = true) : qF (qbM l) i = true := by
 obtain ⟨h0, h1, h2, h3⟩ := pairedB_iff.1 h
 obtain ⟨k, rfl⟩ := Int.eq_ofNat_of_zero_le h0
 have e1 : gc (qbM l) ((k : Nat) : Int) = gc l (k : Int) := by
  rw [qdb l (by omega)]
  exact qcd (fun h => by rw [h, qh8] at h2; cases h2) (fun _ => h)
 have e2 : gc (qbM l) (((k : Nat) : Int) + 1) = gc l ((k : Int) + 1) := by
  have e3 : ((k : Nat) : Int) + 1 = ((k + 1 : Nat) : Int) := by omega
  rw [e3, qdb l (by omega), ← e3]
  refine qcd (fun _ => ?_) (fun hw => ?_)
  ·rw [show ((k : Nat) : Int) + 1 - 1 = (k : Int) by omega]; exact h
  ·rw [h3, qh8] at hw; cases hw
 refine pairedB_iff.2 ⟨h0, by rw [qW]; exact h1, by rw [e1]; exact h2, by rw [e2, e1]; exact h3⟩
theorem mend_ok {l : List Cel} (h : okS l) : okC (qbM l) := by
 have one : ∀ i : Nat, i < l.length → celO (qcl l (i : Int)) := fun i hi => by
  have hc := h _ (gc_mem hi)
  rcases qe4 l (i : Int) with e | ⟨e, _⟩
  ·rw [e]; exact ⟨hc.1, .inr qfD⟩
  ·rw [e]; exact hc
 refine ⟨fun c hc => ?_, wholeB_iff.2 fun i hi => ?_⟩
 ·obtain ⟨i, hi, rfl⟩ := List.mem_iff_getElem.1 hc
  rw [qW] at hi
  have := one i hi
  rwa [← qdb l hi, qaX (by rw [qW]; exact hi)] at this
 ·rw [qW] at hi
  rw [qdb l hi]
  have hc := one i hi
  rcases qe4 l (i : Int) with e | ⟨e, h1, h2⟩
  ·rw [e]
   refine ⟨fun h => (by cases h), fun _ => ⟨?_, fun hw => by rw [wide32] at hw; cases hw⟩⟩
   rw [e] at hc
   unfold qht
   rw [hc.1, Bool.and_true]
   exact qfD
  ·rw [e] at hc ⊢
   refine ⟨fun h => qe5 (h1 h), fun h => ⟨?_, fun hw => qe5 (h2 hw)⟩⟩
   unfold qht
   rw [hc.1, hc.2.resolve_left h]; rfl
theorem qh9 {l : List Cel} (h : okS l) {i : Nat} {c : Cel} (hc : celO c) : okS (l.set i c) := fun d hd => by
 rcases List.mem_or_eq_of_mem_set hd with hd | rfl
 ·exact h d hd
 ·exact hc
theorem qeS {s : Sty} (h : qbi s = true) : celO (qo s) := by
 refine ⟨?_, .inr qfD⟩
 unfold qbi at *
 simp only [Bool.and_eq_true, decide_eq_true_eq] at *
 exact ⟨⟨⟨Int.le_refl _, (by show (0 : Int) ≤ 8; decide)⟩, h.1.2⟩, h.2⟩
theorem sty0_ok : qbi qaR = true := by decide
theorem qkw (n : Nat) {s : Sty} (h : qbi s = true) : okC (List.replicate n (qo s)) := by
 refine ⟨fun c hc => by rw [List.eq_of_mem_replicate hc]; exact qeS h, wholeB_iff.2 fun i hi => ?_⟩
 rw [List.length_replicate] at hi
 have e : gc (List.replicate n (qo s)) (i : Int) = qo s := by rw [qaX (by rw [List.length_replicate]; exact hi)]; simp
 rw [e]
 refine ⟨fun h => (by cases h), fun _ => ⟨?_, fun hw => ?_⟩⟩
 ·unfold qht; rw [(qeS h).1, Bool.and_true]; exact qfD
 ·have hw : qL 32 = true := hw
  rw [wide32] at hw; cases hw
theorem putL_ok {W : Int} {l : List Cel} {x : Int} {c : Cel} (h : okS l) (hc : qht c = true) : okS (putL W l x c) := by
 unfold qht at hc
 rw [Bool.and_eq_true] at hc
 unfold putL
 split
 ·exact qh9 (qh9 h ⟨hc.2, .inr hc.1⟩) ⟨hc.2, .inl rfl⟩
 ·exact qh9 h ⟨hc.2, .inr hc.1⟩
def okG (G : Gr) : Prop := ∀ l ∈ G.lines, okC l
theorem okG_line {G : Gr} (h : okG G) (y : Int) : okS (gl G y) := by
 unfold gl
 rw [List.getD_eq_getElem?_getD]
 cases e : G.lines[y.toNat]? with
 | none => intro c hc; cases hc
 | some l => exact (h l (List.mem_of_getElem? e)).1
theorem okG_set {G : Gr} (h : okG G) (y : Int) {l : List Cel} (hl : okC l) : okG (qbR G y l) := fun m hm => by
 rcases List.mem_or_eq_of_mem_set hm with hm | rfl
 ·exact h m hm
 ·exact hl
theorem okG_put {G : Gr} (h : okG G) (x y : Int) (c : Cel) : okG (qdg G x y c) := by
 unfold qdg
 split
 ·rename_i hc; exact okG_set h y (mend_ok (putL_ok (okG_line h y) hc.2))
 ·exact h
theorem qkx (w h : Int) : okG (qbS w h) := fun l hl => by rw [List.eq_of_mem_replicate hl]; exact qkw _ sty0_ok
theorem qhR : ∀ (l : List Cel) (G : Gr) (i : Int), okG G → okG (qda l G i) ∧ (qda l G i).w = G.w ∧ (qda l G i).h = G.h
 | [], G, i, h => ⟨h, rfl, rfl⟩
 | c :: l, G, i, h => by
  unfold qda
  split
  ·exact ⟨h, rfl, rfl⟩
  ·obtain ⟨h1, h2, h3⟩ := qhR l (qdg G (i % G.w) (i / G.w) c) (if qL c.rune = true then i + 2 else i + 1) (okG_put h _ _ _)
   exact ⟨h1, h2.trans (qhC _ _ _ _).1, h3.trans (qhC _ _ _ _).2⟩
theorem qky {G : Gr} (h : okG G) : ∀ l ∈ G.lines, ∀ c ∈ l, qc3 c.sty := fun l hl c hc => by
 have := ((h l hl).1 c hc).1
 unfold qbi at this
 simp only [Bool.and_eq_true, decide_eq_true_eq] at this
 unfold qc3
 omega
structure VOk (p1 p2 : Int) (V : Vw) : Prop where
 ok : okG V.g
 w : V.g.w = qd p1
 h : V.g.h = qd p2
 x : 0 ≤ V.x ∧ V.x < V.g.w
 y : 0 ≤ V.y ∧ V.y < V.g.h
theorem qa5 (n : Int) : 1 ≤ qd n ∧ qd n ≤ 60 := by unfold qd; omega
theorem qdz (p1 p2 : Int) (l : List Cel) (x y : Int) (hid : Bool) : VOk p1 p2 (qiI p1 p2 l x y hid) := by
 obtain ⟨h1, h2, h3⟩ := qhR (qaa l) (qbS p1 p2) 0 (qkx p1 p2)
 have hw : (qdY p1 p2 l).w = qd p1 := h2
 have hh : (qdY p1 p2 l).h = qd p2 := h3
 have b1 := qa5 p1
 have b2 := qa5 p2
 exact ⟨h1, hw, hh, ⟨Int.emod_nonneg _ (by omega), Int.emod_lt_of_pos _ (by omega)⟩, ⟨Int.emod_nonneg _ (by omega), Int.emod_lt_of_pos _ (by omega)⟩⟩
theorem qao : ∀ (a b : List Cel), qH a b ≤ a.length ∧ a.take (qH a b) = b.take (qH a b)
 | [], b => by cases b <;> exact ⟨Nat.le_refl _, rfl⟩
 | c :: l, [] => ⟨Nat.zero_le _, rfl⟩
 | c :: l, d :: m => by
  unfold qH
  split
  ·rename_i e
   obtain ⟨h1, h2⟩ := qao l m
   exact ⟨by simpa using h1, by rw [List.take_succ_cons, List.take_succ_cons, h2, e]⟩
  ·exact ⟨Nat.zero_le _, rfl⟩
theorem qgx {a b : List Cel} (hl : a.length = b.length) (h : a ≠ b) : qH a b < a.length := by
 obtain ⟨h1, h2⟩ := qao a b
 rcases Nat.lt_or_ge (qH a b) a.length with h3 | h3
 ·exact h3
 ·exact absurd (by rwa [List.take_of_length_le h3, List.take_of_length_le (by omega)] at h2) h
theorem qe6 : ∀ a : List Cel, qH a a = a.length
 | [] => rfl
 | c :: l => by unfold qH; rw [if_pos rfl, qe6 l]; rfl
theorem qha {a b : List Cel} (hl : a.length = b.length) : (qaC a b).1 < (qaC a b).2 ↔ a ≠ b := by
 unfold qaC
 constructor
 ·intro h e
  subst e
  simp only [qe6] at h
  omega
 ·intro h
  have h1 := qgx hl h
  have h2 := (qao a b).2
  have h3 : (a.drop (qH a b)).reverse ≠ (b.drop (qH a b)).reverse := fun e => h (by
   rw [← List.take_append_drop (qH a b) a, h2, List.reverse_inj.1 e, List.take_append_drop])
  have h4 := qgx (by rw [List.length_reverse, List.length_reverse, List.length_drop, List.length_drop, hl]) h3
  rw [List.length_reverse, List.length_drop] at h4
  dsimp only
  omega
theorem gl_len {G : Gr} (h : G.ok) {j : Nat} (hj : j < G.h.toNat) : (gl G (j : Int)).length = G.w.toNat := by
 have hl := h.2.2.1
 unfold gl
 rw [Int.toNat_natCast, List.getD_eq_getElem?_getD, List.getElem?_eq_getElem (by omega), Option.getD_some]
 exact h.2.2.2 _ (List.getElem_mem _)
theorem styB_pos (s : Sty) : 0 < (qfv s).size := by
 unfold qfv
 rw [ByteArray.size_append]
 have := qck
 omega
theorem qkz {l m : List Cel} (hl : l.length = m.length) (h : ∀ i : Nat, i < l.length → gc l (i : Int) = gc m (i : Int)) : l = m :=
 List.ext_getElem hl fun i h1 h2 => by
  have := h i h1
  rwa [gc_at h1, gc_at h2] at this
theorem qeT {l : List Cel} (h : qaQ l = true) : qbM l = l := by
 refine qkz (qW l) fun i hi => ?_
 rw [qW] at hi
 obtain ⟨h1, h2⟩ := wholeB_iff.1 h i hi
 rw [qdb l hi]
 refine qcd h1 fun hw => ?_
 by_cases e : (gc l (i : Int)).rune = 0
 ·rw [e, qh8] at hw; cases hw
 ·exact (h2 e).2 hw
theorem or32 {a b k : Nat} (ha : a < 2 ^ k) (hb : ∃ c, b = c * 2 ^ k) (hs : b + a < 2 ^ 31) : qu .or .i32 (b : Int) (a : Int) = ((b + a : Nat) : Int) := by
 obtain ⟨c, rfl⟩ := hb
 have e : (BitVec.ofInt 32 ((c * 2 ^ k : Nat) : Int) ||| BitVec.ofInt 32 (a : Int)).toNat = c * 2 ^ k + a := by
  rw [BitVec.ofInt_natCast, BitVec.ofInt_natCast, BitVec.toNat_or, BitVec.toNat_ofNat, BitVec.toNat_ofNat, Nat.mod_eq_of_lt (by omega), Nat.mod_eq_of_lt (by omega), ← Nat.shiftLeft_eq, ← Nat.shiftLeft_add_eq_or_of_lt ha, Nat.shiftLeft_eq]
 show IntKind.wrap .i32 ((BitVec.ofInt 32 ((c * 2 ^ k : Nat) : Int) ||| BitVec.ofInt 32 (a : Int)).toNat : Int) = _
 rw [e]
 exact qbL ⟨by omega, by omega⟩
theorem sh32 {a k : Nat} (hk : k ≤ 32) (h : a * 2 ^ k < 2 ^ 31) : shI (a : Int) (k : Int) = ((a * 2 ^ k : Nat) : Int) := by
 have e : min ((k : Int)).toNat (IntKind.bits .i32) = k := by show min _ 32 = _; omega
 unfold shI
 rw [e, show ((a : Int) * 2 ^ k) = ((a * 2 ^ k : Nat) : Int) by push_cast; rfl]
 exact qbL ⟨by omega, by omega⟩
theorem qiO : ∀ b : Nat, b < 64 → qef ((128 + b : Nat) : Int) 63 = (b : Int) := by decide +kernel
theorem fst2 : ∀ a : Nat, a < 32 → 2 ≤ a → qu .and .u8 (firstN (192 + a)) 7 = 2 ∧ ¬ 240 ≤ firstN (192 + a) ∧ accN (Int.fdiv (firstN (192 + a)) (2 ^ min (4 : Int).toNat (IntKind.bits .u8))).toNat = (128, 191) ∧ qef ((192 + a : Nat) : Int) 31 = (a : Int) := by decide +kernel
theorem fst3 : ∀ a : Nat, a < 16 → qu .and .u8 (firstN (224 + a)) 7 = 3 ∧ ¬ 240 ≤ firstN (224 + a) ∧ accN (Int.fdiv (firstN (224 + a)) (2 ^ min (4 : Int).toNat (IntKind.bits .u8))).toNat = (if a = 0 then 160 else 128, if a = 13 then 159 else 191) ∧ qef ((224 + a : Nat) : Int) 15 = (a : Int) := by decide +kernel
theorem fst4 : ∀ a : Nat, a < 5 → qu .and .u8 (firstN (240 + a)) 7 = 4 ∧ ¬ 240 ≤ firstN (240 + a) ∧ accN (Int.fdiv (firstN (240 + a)) (2 ^ min (4 : Int).toNat (IntKind.bits .u8))).toNat = (if a = 0 then 144 else 128, if a = 4 then 143 else 191) ∧ qef ((240 + a : Nat) : Int) 7 = (a : Int) := by decide +kernel
theorem qkA {l : List Int} (h : l.length ≤ 3) : (mkU l).pend = l := by
 match l, h with
 | [], _ => rfl
 | [_], _ => rfl
 | [_, _], _ => rfl
 | [_, _, _], _ => rfl
theorem qiP {l : List Int} {c : Int} (hl : l.length ≤ 2) (h : qac (l ++ [c]) = false) : qaI (mkU l) c = (mkU (l ++ [c]), []) := by
 unfold qaI
 rw [qkA (by omega), qdv (k := 0) (fun h' => by rw [show (itU (l ++ [c]) 0).2 = l ++ [c] from rfl, h] at h'; exact Bool.false_ne_true h'.2) 4]
 show (mkU ((l ++ [c]).take 3), _) = _
 rw [List.take_of_length_le (by rw [List.length_append]; simp only [List.length_cons, List.length_nil]; omega)]
 rfl
theorem qiQ {l : List Int} {c r : Int} (hl : l.length ≤ 3) (h : qac (l ++ [c]) = true) (hr : qcD (l ++ [c]) = (r, ((l.length + 1 : Nat) : Int))) : qaI (mkU l) c = (u0, [r]) := by
 have e1 : itU (l ++ [c]) 1 = ([r], []) := by
  rw [qeH (k := 0) (by show 0 < (l ++ [c]).length; rw [List.length_append]; simp) h]
  show ([] ++ [(qcD (l ++ [c])).1], (l ++ [c]).drop (qcD (l ++ [c])).2.toNat) = _
  rw [hr]
  dsimp only
  rw [Int.toNat_natCast, List.drop_of_length_le (by rw [List.length_append]; simp)]
  rfl
 unfold qaI
 rw [qkA hl, qdv (k := 1) (fun h' => by rw [e1] at h'; simp at h') 3, e1]
 rfl
theorem qkB {T : TS} {l l' : List Int} {c : Int} {rs : List Int} (hp : T.parser = { atP 0 with utf := mkU l }) (hc : ¬ c < 128) (h : qaI (mkU l) c = (mkU l', rs)) : qw T c = (rs.map acP).foldl qcI { T with parser := { atP 0 with utf := mkU l' } } := by
 have e : qad T.parser c = ({ atP 0 with utf := mkU l' }, rs.map acP) := by
  rw [hp]
  show qv { atP 0 with utf := mkU l } c = _
  unfold qv
  rw [if_neg hc]
  show ({ atP 0 with utf := (qaI (mkU l) c).1 }, (qaI (mkU l) c).2.map acP) = _
  rw [h]
 unfold qw
 rw [e]
theorem qbJ {T : TS} {l : List Int} {c : Int} (hp : T.parser = { atP 0 with utf := mkU l }) (hl : l.length ≤ 2) (hc : ¬ c < 128) (h : qac (l ++ [c]) = false) : qw T c = { T with parser := { atP 0 with utf := mkU (l ++ [c]) } } :=
 qkB hp hc (qiP hl h)
theorem qe7 {T : TS} {l : List Int} {c r : Int} (hp : T.parser = { atP 0 with utf := mkU l }) (hl : l.length ≤ 3) (hc : ¬ c < 128) (h : qac (l ++ [c]) = true) (hr : qcD (l ++ [c]) = (r, ((l.length + 1 : Nat) : Int))) : qw T c = qb8 { T with parser := atP 0 } r :=
 qkB (l' := []) hp hc (qiQ hl h hr)
theorem qcq {T : TS} (h : T.parser = atP 0) : ({ T with parser := atP 0 } : TS) = T := by rw [← h]
section
variable {T : TS} (hp : T.parser = atP 0)
include hp
theorem feed2 {a b : Nat} (ha : 2 ≤ a) (ha2 : a < 32) (hb : b < 64) : qw (qw T ((192 + a : Nat) : Int)) ((128 + b : Nat) : Int) = qb8 T ((a * 64 + b : Nat) : Int) := by
 obtain ⟨h1, h2, h3, h4⟩ := fst2 a ha2 ha
 have hs : ∀ l : List Int, l.getD 0 0 = ((192 + a : Nat) : Int) → szI l = 2 ∧ ¬ 240 ≤ fsI l ∧ accN (rnI l).toNat = (128, 191) := fun l h => by
  unfold szI rnI fsI
  rw [h, Int.toNat_natCast]; exact ⟨h1, h2, h3⟩
 have f1 : qac ([] ++ [((192 + a : Nat) : Int)]) = false := by
  obtain ⟨e1, e2, e3⟩ := hs [((192 + a : Nat) : Int)] rfl
  show qac [((192 + a : Nat) : Int)] = false
  unfold qac
  rw [e1]; simp
 rw [qbJ (l := []) hp (by simp) (by omega) f1]
 have f2 := hs ([] ++ [((192 + a : Nat) : Int)] ++ [((128 + b : Nat) : Int)]) rfl
 have f3 : qcD ([] ++ [((192 + a : Nat) : Int)] ++ [((128 + b : Nat) : Int)]) = (((a * 64 + b : Nat) : Int), 2) := by
  obtain ⟨e1, e2, e3⟩ := f2
  unfold qcD
  rw [if_neg (by show ¬ (_ ∧ ((192 + a : Nat) : Int) < 128); omega)]
  unfold qdP
  rw [if_neg (by show ¬ (((2 : Nat) : Int) < 1); decide), if_neg e2, e1, if_neg (by show ¬ (((2 : Nat) : Int) < 2); decide), e3, if_neg (by show ¬ (((128 + b : Nat) : Int) < 128 ∨ 191 < ((128 + b : Nat) : Int)); omega), if_pos (by decide)]
  show (orR (shI (qef ((192 + a : Nat) : Int) 31) ((6 : Nat) : Int)) (qef ((128 + b : Nat) : Int) 63), (2 : Int)) = _
  rw [h4, qiO b hb, sh32 (by decide) (by omega)]
  exact congrArg (·, (2 : Int)) (or32 (k := 6) hb ⟨a, rfl⟩ (by omega))
 rw [qe7 (l := [] ++ [((192 + a : Nat) : Int)]) rfl (by simp) (by omega) (by unfold qac; rw [f2.1]; simp) f3]
 rw [show ({ ({ T with parser := _ } : TS) with parser := atP 0 } : TS) = T from qcq hp]
theorem feed3 {a b c : Nat} (ha : a < 16) (hb : b < 64) (hc : c < 64) (h0 : a = 0 → 32 ≤ b) (hd : a = 13 → b < 32) : qw (qw (qw T ((224 + a : Nat) : Int)) ((128 + b : Nat) : Int)) ((128 + c : Nat) : Int) = qb8 T ((a * 4096 + b * 64 + c : Nat) : Int) := by
 obtain ⟨h1, h2, h3, h4⟩ := fst3 a ha
 have hs : ∀ l : List Int, l.getD 0 0 = ((224 + a : Nat) : Int) → szI l = 3 ∧ ¬ 240 ≤ fsI l ∧ accN (rnI l).toNat = (if a = 0 then 160 else 128, if a = 13 then 159 else 191) := fun l h => by
  unfold szI rnI fsI
  rw [h, Int.toNat_natCast]; exact ⟨h1, h2, h3⟩
 have hacc : ¬ (((128 + b : Nat) : Int) < (if a = 0 then (160 : Int) else 128) ∨ (if a = 13 then (159 : Int) else 191) < ((128 + b : Nat) : Int)) := by
  split <;> split <;> omega
 have f1 : qac ([] ++ [((224 + a : Nat) : Int)]) = false := by
  obtain ⟨e1, e2, e3⟩ := hs ([] ++ [((224 + a : Nat) : Int)]) rfl
  unfold qac
  rw [e1]; simp
 rw [qbJ (l := []) hp (by simp) (by omega) f1]
 have g1 : qac ([] ++ [((224 + a : Nat) : Int)] ++ [((128 + b : Nat) : Int)]) = false := by
  obtain ⟨e1, e2, e3⟩ := hs ([] ++ [((224 + a : Nat) : Int)] ++ [((128 + b : Nat) : Int)]) rfl
  unfold qac
  rw [e1, e3, if_neg (by show ¬ ((2 : Nat) : Int) = 0; decide), if_neg (by show ¬ (3 : Int) ≤ ((2 : Nat) : Int); decide), if_neg (fun h => hacc h.2), if_neg (by show ¬ (2 < ((2 : Nat) : Int) ∧ _); intro h; have := h.1; omega)]
 rw [qbJ (l := [] ++ [((224 + a : Nat) : Int)]) rfl (by simp) (by omega) g1]
 have f2 := hs ([] ++ [((224 + a : Nat) : Int)] ++ [((128 + b : Nat) : Int)] ++ [((128 + c : Nat) : Int)]) rfl
 have f3 : qcD ([] ++ [((224 + a : Nat) : Int)] ++ [((128 + b : Nat) : Int)] ++ [((128 + c : Nat) : Int)]) = (((a * 4096 + b * 64 + c : Nat) : Int), 3) := by
  obtain ⟨e1, e2, e3⟩ := f2
  unfold qcD
  rw [if_neg (by show ¬ (_ ∧ ((224 + a : Nat) : Int) < 128); omega)]
  unfold qdP
  rw [if_neg (by show ¬ (((3 : Nat) : Int) < 1); decide), if_neg e2, e1, if_neg (by show ¬ (((3 : Nat) : Int) < 3); decide), e3, if_neg (by exact hacc), if_neg (by decide), if_neg (by show ¬ (((128 + c : Nat) : Int) < 128 ∨ 191 < ((128 + c : Nat) : Int)); omega), if_pos (by decide)]
  show (orR (orR (shI (qef ((224 + a : Nat) : Int) 15) ((12 : Nat) : Int)) (shI (qef ((128 + b : Nat) : Int) 63) ((6 : Nat) : Int))) (qef ((128 + c : Nat) : Int) 63), (3 : Int)) = _
  rw [h4, qiO b hb, qiO c hc, sh32 (by decide) (by omega), sh32 (by decide) (by omega), show orR ((a * 2 ^ 12 : Nat) : Int) ((b * 2 ^ 6 : Nat) : Int) = ((a * 2 ^ 12 + b * 2 ^ 6 : Nat) : Int) from or32 (k := 12) (by omega) ⟨a, rfl⟩ (by omega)]
  exact congrArg (·, (3 : Int)) (or32 (k := 6) hc ⟨a * 64 + b, by omega⟩ (by omega))
 rw [qe7 (l := [] ++ [((224 + a : Nat) : Int)] ++ [((128 + b : Nat) : Int)]) rfl (by simp) (by omega) (by unfold qac; rw [f2.1]; simp) f3]
 rw [show ({ ({ T with parser := _ } : TS) with parser := atP 0 } : TS) = T from qcq hp]
theorem feed4 {a b c d : Nat} (ha : a < 5) (hb : b < 64) (hc : c < 64) (hd : d < 64) (h0 : a = 0 → 16 ≤ b) (h5 : a = 4 → b < 16) : qw (qw (qw (qw T ((240 + a : Nat) : Int)) ((128 + b : Nat) : Int)) ((128 + c : Nat) : Int)) ((128 + d : Nat) : Int) = qb8 T ((a * 262144 + b * 4096 + c * 64 + d : Nat) : Int) := by
 obtain ⟨h1, h2, h3, h4⟩ := fst4 a ha
 have hs : ∀ l : List Int, l.getD 0 0 = ((240 + a : Nat) : Int) → szI l = 4 ∧ ¬ 240 ≤ fsI l ∧ accN (rnI l).toNat = (if a = 0 then 144 else 128, if a = 4 then 143 else 191) := fun l h => by
  unfold szI rnI fsI
  rw [h, Int.toNat_natCast]; exact ⟨h1, h2, h3⟩
 have hacc : ¬ (((128 + b : Nat) : Int) < (if a = 0 then (144 : Int) else 128) ∨ (if a = 4 then (143 : Int) else 191) < ((128 + b : Nat) : Int)) := by
  split <;> split <;> omega
 have f1 : qac ([] ++ [((240 + a : Nat) : Int)]) = false := by
  obtain ⟨e1, e2, e3⟩ := hs ([] ++ [((240 + a : Nat) : Int)]) rfl
  unfold qac
  rw [e1]; simp
 rw [qbJ (l := []) hp (by simp) (by omega) f1]
 have g1 : qac ([] ++ [((240 + a : Nat) : Int)] ++ [((128 + b : Nat) : Int)]) = false := by
  obtain ⟨e1, e2, e3⟩ := hs ([] ++ [((240 + a : Nat) : Int)] ++ [((128 + b : Nat) : Int)]) rfl
  unfold qac
  rw [e1, e3, if_neg (by show ¬ ((2 : Nat) : Int) = 0; decide), if_neg (by show ¬ (4 : Int) ≤ ((2 : Nat) : Int); decide), if_neg (fun h => hacc h.2), if_neg (by show ¬ (2 < ((2 : Nat) : Int) ∧ _); intro h; have := h.1; omega)]
 rw [qbJ (l := [] ++ [((240 + a : Nat) : Int)]) rfl (by simp) (by omega) g1]
 have g2 : qac ([] ++ [((240 + a : Nat) : Int)] ++ [((128 + b : Nat) : Int)] ++ [((128 + c : Nat) : Int)]) = false := by
  obtain ⟨e1, e2, e3⟩ := hs ([] ++ [((240 + a : Nat) : Int)] ++ [((128 + b : Nat) : Int)] ++ [((128 + c : Nat) : Int)]) rfl
  unfold qac
  rw [e1, e3, if_neg (by show ¬ ((3 : Nat) : Int) = 0; decide), if_neg (by show ¬ (4 : Int) ≤ ((3 : Nat) : Int); decide), if_neg (fun h => hacc h.2), if_neg (by show ¬ (_ ∧ (((128 + c : Nat) : Int) < 128 ∨ 191 < ((128 + c : Nat) : Int))); omega)]
 rw [qbJ (l := [] ++ [((240 + a : Nat) : Int)] ++ [((128 + b : Nat) : Int)]) rfl (by simp) (by omega) g2]
 have f2 := hs ([] ++ [((240 + a : Nat) : Int)] ++ [((128 + b : Nat) : Int)] ++ [((128 + c : Nat) : Int)] ++ [((128 + d : Nat) : Int)]) rfl
 have f3 : qcD ([] ++ [((240 + a : Nat) : Int)] ++ [((128 + b : Nat) : Int)] ++ [((128 + c : Nat) : Int)] ++ [((128 + d : Nat) : Int)]) = (((a * 262144 + b * 4096 + c * 64 + d : Nat) : Int), 4) := by
  obtain ⟨e1, e2, e3⟩ := f2
  unfold qcD
  rw [if_neg (by show ¬ (_ ∧ ((240 + a : Nat) : Int) < 128); omega)]
  unfold qdP
  rw [if_neg (by show ¬ (((4 : Nat) : Int) < 1); decide), if_neg e2, e1, if_neg (by show ¬ (((4 : Nat) : Int) < 4); decide), e3, if_neg (by exact hacc), if_neg (by decide), if_neg (by show ¬ (((128 + c : Nat) : Int) < 128 ∨ 191 < ((128 + c : Nat) : Int)); omega), if_neg (by decide), if_neg (by show ¬ (((128 + d : Nat) : Int) < 128 ∨ 191 < ((128 + d : Nat) : Int)); omega)]
  show (orR (orR (orR (shI (qef ((240 + a : Nat) : Int) 7) ((18 : Nat) : Int)) (shI (qef ((128 + b : Nat) : Int) 63) ((12 : Nat) : Int))) (shI (qef ((128 + c : Nat) : Int) 63) ((6 : Nat) : Int))) (qef ((128 + d : Nat) : Int) 63), (4 : Int)) = _
  rw [h4, qiO b hb, qiO c hc, qiO d hd, sh32 (by decide) (by omega), sh32 (by decide) (by omega), sh32 (by decide) (by omega), show orR ((a * 2 ^ 18 : Nat) : Int) ((b * 2 ^ 12 : Nat) : Int) = ((a * 2 ^ 18 + b * 2 ^ 12 : Nat) : Int) from or32 (k := 18) (by omega) ⟨a, rfl⟩ (by omega),
   show orR ((a * 2 ^ 18 + b * 2 ^ 12 : Nat) : Int) ((c * 2 ^ 6 : Nat) : Int) = ((a * 2 ^ 18 + b * 2 ^ 12 + c * 2 ^ 6 : Nat) : Int) from or32 (k := 12) (by omega) ⟨a * 64 + b, by omega⟩ (by omega)]
  exact congrArg (·, (4 : Int)) (or32 (k := 6) hd ⟨a * 4096 + b * 64 + c, by omega⟩ (by omega))
 rw [qe7 (l := [] ++ [((240 + a : Nat) : Int)] ++ [((128 + b : Nat) : Int)] ++ [((128 + c : Nat) : Int)]) rfl (by simp) (by omega) (by unfold qac; rw [f2.1]; simp) f3]
 rw [show ({ ({ T with parser := _ } : TS) with parser := atP 0 } : TS) = T from qcq hp]
end
theorem qdc {n : Nat} (h : n < 256) : ((UInt8.ofNat n).toNat : Int) = (n : Int) := by
 rw [UInt8.toNat_ofNat', Nat.mod_eq_of_lt h]
theorem rightB_iff {r : Int} : qR r = true ↔ ((32 ≤ r ∧ r ≤ 1114111) ∧ r ≠ 127) ∧ (r < 55296 ∨ 57343 < r) := by
 unfold qR
 simp only [Bool.and_eq_true, Bool.or_eq_true, decide_eq_true_eq, bne_iff_ne, ne_eq]
theorem write1 (T : TS) (a : UInt8) : qG T ⟨#[a]⟩ = qw T (a.toNat : Int) := rfl
theorem write2 (T : TS) (a b : UInt8) : qG T ⟨#[a, b]⟩ = qw (qw T (a.toNat : Int)) (b.toNat : Int) := rfl
theorem write3 (T : TS) (a b c : UInt8) : qG T ⟨#[a, b, c]⟩ = qw (qw (qw T (a.toNat : Int)) (b.toNat : Int)) (c.toNat : Int) := rfl
theorem write4 (T : TS) (a b c d : UInt8) : qG T ⟨#[a, b, c, d]⟩ = qw (qw (qw (qw T (a.toNat : Int)) (b.toNat : Int)) (c.toNat : Int)) (d.toNat : Int) := rfl
theorem qiR {T : TS} (hp : T.parser = atP 0) {r : Int} (h : qR r = true) : qG T (Utf8.encode r) = qb8 T r := by
 have hr := rightB_iff.1 h
 obtain ⟨n, rfl⟩ : ∃ n : Nat, r = (n : Int) := ⟨r.toNat, by omega⟩
 have hv : Utf8.valid (n : Int) = true := by
  unfold Utf8.valid
  simp only [Bool.or_eq_true, Bool.and_eq_true, decide_eq_true_eq]
  omega
 unfold Utf8.encode
 rw [if_pos hv, Int.toNat_natCast]
 dsimp only
 split
 ·rename_i h1
  rw [write1, qdc (by omega)]
  exact feed_asc hp (by omega)
 split
 ·rename_i h1 h2
  rw [write2, qdc (by omega), qdc (by omega), feed2 hp (by omega) (by omega) (by omega)]
  rw [show n / 64 * 64 + n % 64 = n by omega]
 split
 ·rename_i h1 h2 h3
  rw [write3, qdc (by omega), qdc (by omega), qdc (by omega), feed3 hp (by omega) (by omega) (by omega) (by omega) (by omega)]
  rw [show n / 4096 * 4096 + n / 64 % 64 * 64 + n % 64 = n by omega]
 ·rename_i h1 h2 h3
  rw [write4, qdc (by omega), qdc (by omega), qdc (by omega), qdc (by omega), feed4 hp (by omega) (by omega) (by omega) (by omega) (by omega) (by omega)]
  rw [show n / 262144 * 262144 + n / 4096 % 64 * 4096 + n / 64 % 64 * 64 + n % 64 = n by omega]
theorem qkC (T : TS) : qG T ByteArray.empty = T := rfl
theorem qcS (m : List Int) (x : Int) : qX (m ++ [x]) = m ++ [x] := by unfold qX; rw [if_neg (by simp)]
theorem qe8 (m : List Int) (x : Int) : qcn (m ++ [x]) = x := by simp [qcn]
theorem qcr (m : List Int) (x y : Int) : qbv (m ++ [x]) y = m ++ [y] := by simp [qbv]
section
variable {T : TS} {l : List Int} (hp : T.parser = { atP 3 with params := l })
include hp
theorem qfE (c : Int) (hc : 32 ≤ c ∧ c < 127) : qad T.parser c = qaz { atP 3 with params := l } c := by
 rw [hp]
 show qa8 { atP 3 with params := l } c = _
 unfold qa8
 rw [if_neg (by show ¬ (3 : Int) = 0; decide), if_neg (by show ¬ (5 : Int) ≤ 3; decide), if_neg (by omega), if_neg (by omega), if_neg (by omega), if_neg (by omega), if_pos (by show (3 : Int) = 3 ∨ _; exact .inl rfl)]
theorem qfF {c : Int} (hc : 48 ≤ c ∧ c ≤ 57) : qw T c = { T with parser := { atP 3 with params := qbv (qX l) (min (10 * qcn (qX l) + (c - 48)) 9999) } } := by
 have e : qad T.parser c = ({ atP 3 with params := qbv (qX l) (min (10 * qcn (qX l) + (c - 48)) 9999) }, []) := by
  rw [qfE hp c (by omega)]
  unfold qaz
  rw [if_pos hc]
 unfold qw
 rw [e]; rfl
theorem qgy (hl : qX l = l) (h8 : l.length < 8) : qG T semB = { T with parser := { atP 3 with params := l ++ [0] } } := by
 have e : qad T.parser 59 = ({ atP 3 with params := l ++ [0] }, []) := by
  rw [qfE hp 59 (by decide)]
  unfold qaz
  rw [if_neg (by decide), if_pos rfl, if_pos (by show ((qX l).length : Int) < 8; rw [hl]; omega)]
  show ({ atP 3 with params := qX l ++ [0] }, []) = _
  rw [hl]
 show qw T 59 = _
 unfold qw
 rw [e]; rfl
theorem qhS {c : Int} (hc : 64 ≤ c ∧ c < 127) : qw T c = qU { T with parser := atP 0 } c l := by
 have e : qad T.parser c = (atP 0, [⟨3, 0, c, ByteArray.empty, l, ByteArray.empty⟩]) := by
  rw [qfE hp c (by omega)]
  unfold qaz
  rw [if_neg (by omega), if_neg (by omega), if_pos hc.1, if_neg (by show ¬ (3 : Int) = 4; decide)]
  rfl
 unfold qw
 rw [e]
 show qhF { T with parser := atP 0 } ⟨3, 0, c, ByteArray.empty, l, ByteArray.empty⟩ = _
 unfold qhF
 rw [if_pos (beq_self_eq_true _)]
end
theorem itoa_one : ∀ n : Nat, n < 10 → qa0 (n : Int) = ⟨#[UInt8.ofNat (48 + n)]⟩ := by decide +kernel
theorem itoa_two : ∀ n : Nat, n < 100 → 10 ≤ n → qa0 (n : Int) = ⟨#[UInt8.ofNat (48 + n / 10), UInt8.ofNat (48 + n % 10)]⟩ := by decide +kernel
theorem qcT {T : TS} {l m : List Int} (hp : T.parser = { atP 3 with params := l }) (hl : qX l = m ++ [0]) {n : Nat} (hn : n < 100) : qG T (qa0 (n : Int)) = { T with parser := { atP 3 with params := m ++ [(n : Int)] } } := by
 by_cases h : n < 10
 ·rw [itoa_one n h]
  rw [write1, qdc (by omega), qfF hp (by omega), hl, qcr, qe8, show min (10 * (0 : Int) + (((48 + n : Nat) : Int) - 48)) 9999 = (n : Int) by omega]
 ·rw [itoa_two n hn (by omega)]
  rw [write2, qdc (by omega), qdc (by omega), qfF hp (by omega), hl, qcr, qe8, qfF rfl (by omega), qcS, qcr, qe8]
  rw [show min (10 * min (10 * (0 : Int) + (((48 + n / 10 : Nat) : Int) - 48)) 9999 + (((48 + n % 10 : Nat) : Int) - 48)) 9999 = (n : Int) by omega]
theorem qgz {T : TS} (hp : T.parser = atP 0) : qG T csiB = { T with parser := { atP 3 with params := [] } } := by
 show qw (qw T 27) 91 = _
 have h1 : qw T 27 = { T with parser := atP 1 } := by unfold qw; rw [hp]; rfl
 rw [h1]; rfl
theorem qhT {T : TS} {W H : Int} (hp : T.parser = atP 0) (hL : Lim W H T) (ho : T.origin = false) {x y : Int} (hx : 0 ≤ x ∧ x < W) (hy : 0 ≤ y ∧ y < H) : qG T (toB x y) = { T with cursor := ⟨x, y, false, T.cursor.sty⟩ } := by
 have h1 := hL.wb
 have h2 := hL.hb
 have h3 := hL.g1
 obtain ⟨n, rfl⟩ : ∃ n : Nat, x = (n : Int) := ⟨x.toNat, by omega⟩
 obtain ⟨m, rfl⟩ : ∃ m : Nat, y = (m : Int) := ⟨y.toNat, by omega⟩
 unfold toB
 rw [qN, qN, qN, qN, qgz hp]
 rw [show ((m : Int) + 1) = ((m + 1 : Nat) : Int) by omega, show ((n : Int) + 1) = ((n + 1 : Nat) : Int) by omega]
 rw [qcT (l := []) (m := []) (n := m + 1) rfl rfl (by omega), qgy rfl (qcS [] _) (by simp), qcT (m := [] ++ [((m + 1 : Nat) : Int)]) (n := n + 1) rfl (qcS _ _) (by omega)]
 show qw _ 72 = _
 rw [qhS rfl (by decide)]
 show qcz { T with parser := atP 0 } (max ((n + 1 : Nat) : Int) 1) (max ((m + 1 : Nat) : Int) 1) = _
 rw [qcq hp]
 unfold qcz
 rw [if_neg (by rw [ho]; exact Bool.false_ne_true)]
 unfold qch
 rw [h3.1, h3.2]
 congr 2 <;> omega
theorem qe9 {t : Sty} {f : Int} (h : 1 ≤ f ∧ f ≤ 8) : qg t (29 + f) = { t with fore := f } := by
 unfold qg
 rw [if_neg (by omega), if_neg (by omega), if_neg (by omega), if_neg (by omega), if_pos (by omega)]
 congr 1; omega
theorem qea {t : Sty} {f : Int} (h : 1 ≤ f ∧ f ≤ 8) : qg t (39 + f) = { t with back := f } := by
 unfold qg
 rw [if_neg (by omega), if_neg (by omega), if_neg (by omega), if_neg (by omega), if_neg (by omega), if_neg (by omega), if_pos (by omega)]
 congr 1; omega
theorem qhb : (∀ t, qg t 0 = qaR) ∧ (∀ t, qg t 1 = { t with bold := true }) ∧ (∀ t, qg t 4 = { t with under := true }) ∧ ∀ t, qg t 7 = { t with turned := true } := ⟨fun _ => rfl, fun _ => rfl, fun _ => rfl, fun _ => rfl⟩
theorem qhc (t : Sty) {s : Sty} (h : qc3 s) : qaj t (qB s) = s := by
 obtain ⟨b1, b2, b3, f, k⟩ := s
 obtain ⟨hf, hk⟩ := h
 dsimp only at hf hk
 obtain ⟨e0, e1, e4, e7⟩ := qhb
 by_cases h1 : 0 < f <;> by_cases h2 : 0 < k
 ·cases b1 <;> cases b2 <;> cases b3 <;> simp [qB, qcj, qY, qgq, qaj, h1, h2, e0, e1, e4, e7, qe9 (show 1 ≤ f ∧ f ≤ 8 by omega), qea (show 1 ≤ k ∧ k ≤ 8 by omega), qaR]
 ·obtain rfl : k = 0 := by omega
  cases b1 <;> cases b2 <;> cases b3 <;> simp [qB, qcj, qY, qgq, qaj, h1, e0, e1, e4, e7, qe9 (show 1 ≤ f ∧ f ≤ 8 by omega), qaR]
 ·obtain rfl : f = 0 := by omega
  cases b1 <;> cases b2 <;> cases b3 <;> simp [qB, qcj, qY, qgq, qaj, h2, e0, e1, e4, e7, qea (show 1 ≤ k ∧ k ≤ 8 by omega), qaR]
 ·obtain rfl : f = 0 := by omega
  obtain rfl : k = 0 := by omega
  cases b1 <;> cases b2 <;> cases b3 <;> simp [qB, qcj, qY, qgq, qaj, e0, e1, e4, e7, qaR]
theorem qeU {T : TS} (hp : T.parser = atP 0) {l : List Int} (h8 : l.length ≤ 8) (hb : ∀ x ∈ l, 0 ≤ x ∧ x ≤ 99) : ∀ k, k ≤ l.length → qG T (qgr l k) = { T with parser := { atP 3 with params := l.take k } }
 | 0, _ => by rw [List.take_zero]; exact qgz hp
 | k + 1, hk => by
  have ih := qeU hp h8 hb k (by omega)
  have hx := hb l[k] (List.getElem_mem _)
  have e : l.getD k 0 = ((l[k].toNat : Nat) : Int) := by rw [List.getD_eq_getElem?_getD, List.getElem?_eq_getElem (by omega), Option.getD_some]; omega
  have e2 : l.take (k + 1) = l.take k ++ [((l[k].toNat : Nat) : Int)] := by rw [List.take_succ_eq_append_getElem (by omega)]; congr 2; omega
  by_cases h0 : 0 < k
  ·have hs : qX (l.take k) = l.take k := by unfold qX; rw [if_neg (by rw [List.length_take]; omega)]
   rw [qki h0, qN, qN, ih, qgy rfl hs (by rw [List.length_take]; omega), e, qcT (m := l.take k) rfl (qcS _ _) (by omega), e2]
  ·obtain rfl : k = 0 := by omega
   rw [qhM h0, qN, ih, e, qcT (m := []) rfl rfl (by omega), e2]
   rfl
theorem qgA {T : TS} (hp : T.parser = atP 0) {s : Sty} (h : qc3 s) : qG T (qfv s) = { T with cursor := ⟨T.cursor.x, T.cursor.y, T.cursor.late, s⟩ } := by
 have hb := qfu h 5 (Nat.le_refl _)
 have h6 := qbq s 5
 unfold qfv
 rw [qN, qeU hp (by show (qcj s 5).length ≤ 8; omega) (fun x hx => by have := hb x hx; omega) _ (Nat.le_refl _), List.take_length]
 show qw _ 109 = _
 rw [qhS rfl (by decide)]
 show ({ ({ T with parser := atP 0 } : TS) with cursor := ⟨T.cursor.x, T.cursor.y, T.cursor.late, qaj T.cursor.sty (qB s)⟩ } : TS) = _
 rw [qhc _ h, qcq hp]
theorem qiS {T : TS} (hp : T.parser = atP 0) : qG T hideB = { T with hidden := true } := by
 show qw (qw (qw (qw (qw (qw T 27) 91) 63) 50) 53) 108 = _
 have h1 : qw T 27 = { T with parser := atP 1 } := by unfold qw; rw [hp]; rfl
 have h2 : qw (qw (qw (qw (qw { T with parser := atP 1 } 91) 63) 50) 53) 108 = { ({ T with parser := atP 0 } : TS) with hidden := true } := by kernel_rfl
 rw [h1, h2, qcq hp]
theorem qiT {T : TS} (hp : T.parser = atP 0) : qG T showB = { T with hidden := false } := by
 show qw (qw (qw (qw (qw (qw T 27) 91) 63) 50) 53) 104 = _
 have h1 : qw T 27 = { T with parser := atP 1 } := by unfold qw; rw [hp]; rfl
 have h2 : qw (qw (qw (qw (qw { T with parser := atP 1 } 91) 63) 50) 53) 104 = { ({ T with parser := atP 0 } : TS) with hidden := false } := by kernel_rfl
 rw [h1, h2, qcq hp]
end Go.Proofs.YtjklgjjgndalcaaGreatDoor.X
