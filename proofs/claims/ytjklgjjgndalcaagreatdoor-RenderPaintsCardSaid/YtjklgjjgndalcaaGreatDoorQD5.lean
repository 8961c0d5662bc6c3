/- What the proof of RenderPaints needs, part 5: the walks of the program's functions and the plain laws about them. -/
import Derived.Test.YtjklgjjgndalcaaGreatDoorQD4
import Derived.Test.YtjklgjjgndalcaaGreatDoorRows
import Derived.ProofKit
import Derived.OpenShut
import Derived.ChangeArms
import Derived.LaidMore
import Derived.Lay
import Derived.Stop.Joined
import Derived.Below
import Derived.SevenTiedAt
import Derived.Deep.Slices
import Derived.Carry
set_option linter.unusedSimpArgs false
set_option linter.unusedVariables false
set_option maxHeartbeats 4000000
namespace Go.Proofs.YtjklgjjgndalcaaGreatDoor.X
open Go Go.RowKit Go.Proofs.YtjklgjjgndalcaaGreatDoor
theorem qdm {w : World} {b o : Nat} {ls : List Lk} (h : Rd w (some ⟨b, o, none⟩) (lkV ls)) (hi : 0 < ls.length) (j : Nat) (v : Value) (hj : j < 4) (hv : (gk ls 0).vals[j]? = some v) : w.cell? ⟨b, o + j, none⟩ = some v := by
 have := qd1 (i := 0) h hi j v hj hv; simpa using this
theorem qca {w : World} {b o : Nat} {ls : List Lk} (h : Rd w (some ⟨b, o, none⟩) (lkV ls)) (hi : 1 < ls.length) (j : Nat) (v : Value) (hj : j < 4) (hv : (gk ls 1).vals[j]? = some v) : w.cell? ⟨b, o + (4 + j), none⟩ = some v := by
 have := qd1 (i := 1) h hi j v hj hv; rwa [show o + ((1 : Nat) : Int).toNat * 4 + j = o + (4 + j) by omega] at this
theorem qdW {ls : List Lk} (h : qjA ls = true) : ls.length ≤ 12 ∧ ∀ k, k < ls.length → (gk ls k).n ≤ 400 := by
 unfold qjA at h; rw [Bool.and_eq_true, decide_eq_true_eq] at h; refine ⟨h.1, fun k hk => ?_⟩; have a := List.all_eq_true.1 h.2 (gk ls k) (by unfold gk; rw [List.getD_eq_getElem?_getD, List.getElem?_eq_getElem hk, Option.getD_some]; exact List.getElem_mem hk); simpa using a
theorem qhl {ls : List Lk} {k : Nat} (h : k < ls.length) : gk ls k ∈ ls := by
 unfold gk; rw [List.getD_eq_getElem?_getD, List.getElem?_eq_getElem h, Option.getD_some]; exact List.getElem_mem h
theorem vok_of {q1 q2 p1 p2 : Int} {V : Vw} (h : VOk q1 q2 V) (h1 : q1 = p1) (h2 : q2 = p2) : VOk p1 p2 V := by subst h1; subst h2; exact h
theorem qjN (p1 p2 : Int) (l : List Cel) : okG (qcG p1 p2 l) := (qf1 (qac l) (qdb p1 p2) 0 (qjH p1 p2)).1
theorem qfZ (w : World) : Calls Tryz.prog 23 [nX].toArray w fun e w' => ∃ a c, e = .returned (.slice a 0 c) ∧ Ch (fun _ => False) w w' := by
 have h := Sep.nil w; refine yA Tryz.func23 rfl <| yx 1 <| ysr <| yq 1 <| yo (zA0 (a2 := none) (m := 0) (c2 := 0) (ys := []) 66 6 32 h (Rd.nil _ _) rfl rfl (fun _ => rfl) fun u b d h f => ?_); refine yz 3 <| ys <| yx 1 <| q9 <| yU 1 (yU1 ?_); refine ys <| yx 4 <| ycf <| qp (eS (qd (qb (nS ?_)))); refine yx 2 <| q8 (yR1 (.slice (b.map at0) 0 d) ?_); exact ⟨_, _, rfl, h.ch⟩
theorem qf2 (p1 p2 : Int) (b off c : Nat) (ls : List Lk) (b0 : Bx) (w : World) (hT : LT w) (h7 : gTop ≤ w.heap.size) (hr : Rd w (some ⟨b, off, none⟩) (lkV ls)) (hlk : ∀ y ∈ ls, ∃ l : List Cel, (y.n = 0 ∨ ∃ b off, y.a = some ⟨b, off, none⟩) ∧ Rd w y.a (flat l) ∧ l.length = y.n) (hmx : ls.length ≤ 9223372036854775807) : Calls Tryz.prog 7 [.agg #[iX p1, iX p2], .slice (some ⟨b, off, none⟩) ls.length c, .agg #[iX b0.x, iX b0.y, iX b0.w, iX b0.h]].toArray w fun e w' => e = .returned (.bool true) ∧ Ch (fun _ => False) w w' := by
 have d9 := qc9 p1; have da := qc9 p2; have h := Sep.nil w; refine yA Tryz.func7 rfl <| ysr <| yo (zN [iX p1, iX p2] 22 h fun u O h => ?_); refine yo (zN [iX b0.x, iX b0.y, iX b0.w, iX b0.h] 62 h fun u q h => ?_); refine yz 3 <| ys <| ysr <| yo (yQ (h.look (qfR _ (qJ h.ch hT (fun _ h => h.elim)) (Nat.le_trans h7 h.ch.size))) fun u h => ?_); refine yz 2 <| ycf <| yk <| ys <| ysr <| yq 1 <| yo (yQ (h.look (qi8 b off c ls _ (h.rd hr) (by omega))) fun u h => ?_); refine yq 4 <| yw [24] (rN (rY (qjA ls))) (fun aj => ?_) fun aj => ?_
 ·have db := aj; refine yz 8 <| yct <| yx 1 <| q8 (rS (yR1 (.bool true) ?_)); exact ⟨rfl, h.ch⟩
 have bz := aj; have a3 := bz; have dc := (qdW a3).1; refine yz 8 <| yc (rL ((ls.length : Nat) : Int) 2) (fun ak => ?_) fun ak => ?_
 ·have dd := ak; refine yx 1 <| q8 (rS (yR1 (.bool true) ?_)); exact ⟨rfl, h.ch⟩
 have de := ak; refine yk <| ys <| zDC [7, 9] [0, 1] h fun u h => ydF (uL 0 7) [] h.on (fun u h => (.i 0 (2) (.l (h.c 0 0) (.i 1 (2) (.l (h.c 0 1) (.i 0 (ls.length) (.m (qdm (h.rd hr) (by omega) 0 _ (by decide) rfl) (.m (qdm (h.rd hr) (by omega) 1 _ (by decide) rfl) (.m (qdm (h.rd hr) (by omega) 2 _ (by decide) rfl) (.m (qdm (h.rd hr) (by omega) 3 _ (by decide) rfl) (.e .z))))))))))) <| qcb 7 8 (by kernel_rfl) (by decide) ?_ ?_
 ·obtain ⟨W, al, am, an⟩ := hlk (gk ls 0) (qhl (by omega)); have ao := (qdW a3).2 0 (by omega); obtain ⟨f, a4⟩ : ∃ V, V = viewV (p1) (p2) W (gk ls 0).x (gk ls 0).y (gk ls 0).hid := ⟨_, rfl⟩
  have X : VOk p1 p2 f := vok_of (a4 ▸ qhf (p1) (p2) W (gk ls 0).x (gk ls 0).y (gk ls 0).hid) rfl rfl; have bA := X.w; have bB := X.h; refine qbm 7 _ (by kernel_rfl) rfl (yC (qhc (p1) (p2) (gk ls 0).a (gk ls 0).n (gk ls 0).cap W (gk ls 0).x (gk ls 0).y (gk ls 0).hid _ (qJ h.ch hT (fun _ h => h.elim)) (Nat.le_trans h7 h.ch.size) al (am.ch h.ch iZ) an ao f a4) ?_); rintro _ u ⟨I, df, rfl, bq, bC, bD⟩; refine ⟨_, rfl, ?_⟩; have bE := bq.ok; have h := h.newGrid bq bC bD; refine zK (is := [0, 1]) h <| yH 8 (zN [.pointer none, iX 0, iX 0, .bool false] 30 h fun u v h => ?_); refine zHa h <| yK 9 (zs h 3 fun u h => ?_); refine qa <| yDe (nS ?_); refine ys <| zD [14] h fun u h => yd (uL 0 14) [] (.i 1 (ls.length) (.l (o := (off + 5)) (qca (h.rd hr) (by omega) 1 _ (by decide) rfl) (.i 1 (ls.length) (.l (o := (off + 6)) (qca (h.rd hr) (by omega) 2 _ (by decide) rfl) (.i 1 (ls.length) (.l (o := (off + 4)) (qca (h.rd hr) (by omega) 0 _ (by decide) rfl) .z)))))) ?_; obtain ⟨Y, ap, aq, ar⟩ := hlk (gk ls 1) (qhl (by omega)); have au := (qdW a3).2 1 (by omega); refine yK 14 (yC (qeZ ((qt .and .i64 (gk ls 1).x 31)) ((qt .and .i64 (gk ls 1).y 31)) (gk ls 1).a (gk ls 1).n (gk ls 1).cap Y _ (qJ h.ch hT (fun _ h => h.elim)) (Nat.le_trans h7 h.ch.size) ap (aq.ch h.ch iZ) ar au) ?_); rintro _ u ⟨s, dg, rfl, br, bF, bG⟩; refine ⟨_, rfl, ?_⟩; have R := br.ok; have a5 := qjN ((qt .and .i64 (gk ls 1).x 31)) ((qt .and .i64 (gk ls 1).y 31)) Y
  have h := h.newGrid br bF bG; generalize qcG ((qt .and .i64 (gk ls 1).x 31)) ((qt .and .i64 (gk ls 1).y 31)) Y = g2m at h R a5; refine qa <| yd [15] [] .z <| yDe (nS ?_); refine ysr <| yp 2 [] (.l (h.c 3 0) .z) <| yo (yC ((h.grid 2).elim fun _ hG => qcH _ hG) ?_); rintro _ u ⟨A, dh, rfl, bH, bI, bJ⟩; refine ⟨_, rfl, ?_⟩; have h := h.newGrid bH bI bJ; refine yq 4 <| yo (yC ((h.grid 4).elim fun _ hG => qcH _ hG) ?_); rintro _ u ⟨T, di, rfl, bK, bL, bM⟩; refine ⟨_, rfl, ?_⟩; have h := h.newGrid bK bL bM; refine yz 7 <| ysr <| yp 3 [] (.a (h.cs 3 0 4) (.a (h.cs 1 0 4) .z)) <| yo (yQ (h.step2 2 4 (by decide) (A' := qN I (qo f.g b0 g2m)) (B := qN s g2m) (fun F F2 hA hB aw => qfX I f.g F (f.x) (f.y) (f.hid) b0 s g2m F2 _ (qJ h.ch hT (fun _ h => h.elim)).tb hA hB aw)) fun u h => ?_); have bN := qhk f.g b0 g2m; have bO := R.1; have bP := R.2.1; refine ye <| ys <| ys <| zD [2] h fun u h => yd [0, 1] [] .z <| yK 2 (yQ (h.look ((h.grid 4).elim fun _ hA => (h.grid 6).elim fun _ hB => qdN hA hB)) fun u h => ?_); refine qa <| yd [3, 4] [] .z <| yv [65] (rN (rY (grB g2m g2m))) (fun ax => ?_) fun ax => ?_
  ·have bs := ax; rw [qh4] at bs; cases bs
  have dj := ax; refine yd (uL 5 12) [] (.l (h.c 3 0) (.l (h.gwh 2).1 (.l (h.gwh 5).1 .z))) <| yv [77] (rI (qo f.g b0 g2m).w f.g.w) (fun ay => ?_) fun ay => ?_
  ·have dk := ay; exfalso; omega
  have dl := ay; refine yd (uL 17 11) [] (.l (h.c 3 0) (.l (h.gwh 2).2 (.l (h.gwh 5).2 .z))) <| yDe (nS ?_); refine yc (rI (qo f.g b0 g2m).h f.g.h) (fun az => ?_) fun az => ?_
  ·have dm := az; exfalso; omega
  have dn := az; refine yk <| ys <| ysr <| yp 6 [] (.l (h.c 3 0) (.l (h.gwh 2).2 .z)) <| ye <| q9 ?_; have h := h.nrm 3 [pX I, iX f.x, iX f.y, .bool f.hid]; obtain ⟨K, L, E, h⟩ := h.gopn 2; obtain ⟨bQ, bR, aA⟩ := h.gifacts 2; obtain ⟨M, N, H, h⟩ := h.gopn 5; obtain ⟨aB, bS, aC⟩ := h.gifacts 5; refine qP [5, 7, 8, 9, 93, 94] (f' := [(5, pX q), (7, pX v), (8, pX s), (9, pX A), (93, iX (qo f.g b0 g2m).h), (94, iX 0)]) <| qz (σ := Nat) (fun k => [(5, pX q), (7, pX v), (8, pX s), (9, pX A), (93, iX (qo f.g b0 g2m).h), (94, iX ((k : Nat) : Int))]) (fun k u => (k : Int) ≤ f.g.h ∧ Sep w (fun _ => False) u [qW O [iX p1, iX p2] 22, qW q [iX b0.x, iX b0.y, iX b0.w, iX b0.h] 62, qa4 I K L E ((qo f.g b0 g2m)), qW v [pX I, iX f.x, iX f.y, .bool f.hid] 30, qN s (g2m), qa4 A M N H (f.g), qN T (g2m)]) (fun k => f.g.h.toNat - k) 0 rfl ?_ ?_
  ·exact ⟨(by show (0 : Int) ≤ f.g.h; omega), h.take 7⟩
  intro k u bT dp bU; obtain ⟨hk, h⟩ := bT; refine yx 1 <| ys <| yc (rL ((k : Nat) : Int) (qo f.g b0 g2m).h) (fun aD => ?_) fun aD => ?_
  ·have dq := aD; obtain ⟨G, P⟩ := qha (rows := E) (k := k) (by omega); obtain ⟨d, r⟩ := qha (rows := H) (k := k) (by omega); obtain ⟨aE, bV, aF⟩ := aA k G P; obtain ⟨a6, bW, aG⟩ := aC k d r; have S := qfU (b := b0) aB X.ok R a5 (k := k) (by omega); rw [aF, aG] at S; have aH : (qaR b0 g2m ((k : Nat) : Int) d.l).length = d.n := by rw [← S.1]; omega
   refine yk <| ys <| q9 <| yx 2 <| ysr <| yp 8 [] (.l (h.gic 5 2) (.i ((k : Nat) : Int) (H.length) (.l (h.girow 5 r) .z))) <| ye <| qaF (σ := Nat × Nat) (fun ⟨wb, wc⟩ => [(5, pX q), (7, pX v), (8, pX s), (9, pX A), (11, iX ((k : Nat) : Int)), (12, .slice (some ⟨wb, 0, none⟩) d.n wc), (93, iX (qo f.g b0 g2m).h), (94, iX ((k : Nat) : Int))]) (fun ⟨wb, wc⟩ u => Sep w (fun _ => False) u [qW O [iX p1, iX p2] 22, qW q [iX b0.x, iX b0.y, iX b0.w, iX b0.h] 62, qa4 I K L E ((qo f.g b0 g2m)), qW v [pX I, iX f.x, iX f.y, .bool f.hid] 30, qN s (g2m), qa4 A M N H (f.g), qN T (g2m)] ∧ Rd u (some ⟨wb, 0, none⟩) (flat (qaR b0 g2m ((k : Nat) : Int) d.l))) (fun dr a7 => ?_) (fun gs u h => ?_)
   ·refine ysr <| yp 1 [] (.a (h.cs 1 0 4) .z) <| yo (yQ (h.look (qhh b0 _)) fun u h => ?_); refine yq 3 <| yw [106] (rY (qcE b0)) (fun aI => ?_) fun aI => ?_
    ·have aJ := aI; have bX := mayB_iff.1 aJ; refine yp 9 [] (.l (h.c 1 1) .z) <| yw [112] (rM b0.y ((k : Nat) : Int)) (fun aK => ?_) fun aK => ?_
     ·have ds := aK; refine yp 17 [] (.l (h.c 1 1) (.l (h.c 1 3) (.q6 (b0.y + b0.h) .z))) <| ye <| yc (rL ((k : Nat) : Int) (b0.y + b0.h)) (fun aL => ?_) fun aL => ?_
      ·have dt := aL; rcases Int.lt_or_le b0.w 1 with aM | aM
       ·have bY : b0.w = 0 := by omega
        refine yx 1 <| ys <| ysr <| yp 3 [] (.l (h.c 1 2) .z) <| ye <| q9 <| yU 1 (yU1 ?_); refine yx 1 <| ys <| yc (rL 0 b0.w) (fun aN => ?_) fun aN => ?_
        ·have du := aN; exfalso; omega
        have dv := aN; refine qp (eS (qd (qb (nS ?_)))); refine ysr <| yq 1 <| yo (yC (qfZ _) ?_); rintro _ u ⟨a8, a9, rfl, bZ⟩; refine ⟨_, rfl, ?_⟩; have h := h.same bZ; refine yz 3 <| yx 1 <| ys <| yx 3 <| q9 <| qP [5, 7, 8, 9, 11, 13, 16, 93, 94, 158, 159, 160] (f' := [(5, pX q), (7, pX v), (8, pX s), (9, pX A), (11, iX ((k : Nat) : Int)), (13, .slice a8 0 a9), (16, nX), (93, iX (qo f.g b0 g2m).h), (94, iX ((k : Nat) : Int)), (158, .slice (some ⟨d.b, 0, none⟩) d.n d.cap), (159, iX ((d.n : Nat) : Int)), (160, iX 0)]) <| qz (σ := Nat × Option Nat × Nat) (fun ⟨j, o, c⟩ => [(5, pX q), (7, pX v), (8, pX s), (9, pX A), (11, iX ((k : Nat) : Int)), (13, .slice a8 0 a9), (16, .slice (o.map at0) j c), (93, iX (qo f.g b0 g2m).h), (94, iX ((k : Nat) : Int)), (158, .slice (some ⟨d.b, 0, none⟩) d.n d.cap), (159, iX ((d.n : Nat) : Int)), (160, iX ((j : Nat) : Int))]) (fun ⟨j, o, c⟩ u => j ≤ d.n ∧ Sep w (fun _ => False) u [qW O [iX p1, iX p2] 22, qW q [iX b0.x, iX b0.y, iX b0.w, iX b0.h] 62, qa4 I K L E ((qo f.g b0 g2m)), qW v [pX I, iX f.x, iX f.y, .bool f.hid] 30, qN s (g2m), qa4 A M N H (f.g), qN T (g2m), qbO 66 6 o j c (flat (qcL b0 (qj (inE g2m (((k : Nat) : Int) - b0.y) b0.w.toNat)) d.l j))]) (fun ⟨j, o, c⟩ => d.n - j) (0, none, 0) rfl ?_ ?_
        ·exact ⟨Nat.zero_le _, h.own0 66 6⟩
        intro p u c0 dw c1; obtain ⟨j, o, c⟩ := p; obtain ⟨hj, h⟩ := c0; refine yx 1 <| ys <| yc (rL ((j : Nat) : Int) ((d.n : Nat) : Int)) (fun aO => ?_) fun aO => ?_
        ·have dx := aO; refine yk <| ys <| q9 <| ysr <| yp 3 [] (.i ((j : Nat) : Int) (d.n) (.m (qb8 (i := ((j : Nat) : Int)) (h.giln 5 r) (by omega) (by omega)) (.m (qh (i := ((j : Nat) : Int)) (h.giln 5 r) (by omega) (by omega) 1 _ (by decide) rfl) (.m (qh (i := ((j : Nat) : Int)) (h.giln 5 r) (by omega) (by omega) 2 _ (by decide) rfl) (.m (qh (i := ((j : Nat) : Int)) (h.giln 5 r) (by omega) (by omega) 3 _ (by decide) rfl) (.m (qh (i := ((j : Nat) : Int)) (h.giln 5 r) (by omega) (by omega) 4 _ (by decide) rfl) (.m (qh (i := ((j : Nat) : Int)) (h.giln 5 r) (by omega) (by omega) 5 _ (by decide) rfl) (.e .z)))))))) <| yo (zN [rX 0, .bool false, .bool false, .bool false, iX 0, iX 0] 66 h fun u ad h => ?_); refine yq 5 <| yo (zs h 8 fun u h => ?_); refine ye <| qaa ([(5, pX q), (7, pX v), (8, pX s), (9, pX A), (11, iX ((k : Nat) : Int)), (13, .slice a8 0 a9), (16, .slice (o.map at0) j c), (18, pX ad), (93, iX (qo f.g b0 g2m).h), (94, iX ((k : Nat) : Int)), (158, .slice (some ⟨d.b, 0, none⟩) d.n d.cap), (159, iX ((d.n : Nat) : Int)), (160, iX ((j : Nat) : Int))]) (fun u => Sep w (fun _ => False) u [qW O [iX p1, iX p2] 22, qW q [iX b0.x, iX b0.y, iX b0.w, iX b0.h] 62, qa4 I K L E ((qo f.g b0 g2m)), qW v [pX I, iX f.x, iX f.y, .bool f.hid] 30, qN s (g2m), qa4 A M N H (f.g), qN T (g2m), qbO 66 6 o j c (flat (qcL b0 (qj (inE g2m (((k : Nat) : Int) - b0.y) b0.w.toNat)) d.l j)), qW ad [rX (qF b0 (qj (inE g2m (((k : Nat) : Int) - b0.y) b0.w.toNat)) d.l j).rune, .bool (qF b0 (qj (inE g2m (((k : Nat) : Int) - b0.y) b0.w.toNat)) d.l j).sty.bold, .bool (qF b0 (qj (inE g2m (((k : Nat) : Int) - b0.y) b0.w.toNat)) d.l j).sty.under, .bool (qF b0 (qj (inE g2m (((k : Nat) : Int) - b0.y) b0.w.toNat)) d.l j).sty.turned, iX (qF b0 (qj (inE g2m (((k : Nat) : Int) - b0.y) b0.w.toNat)) d.l j).sty.fore, iX (qF b0 (qj (inE g2m (((k : Nat) : Int) - b0.y) b0.w.toNat)) d.l j).sty.back] 66]) (fun dy bt => ?_) (fun u h => ?_)
         ·refine ysr <| yp 5 [] (.l (h.c 1 0) .z) <| yw [169] (rM b0.x ((j : Nat) : Int)) (fun aP => ?_) fun aP => ?_
          ·have dz := aP; refine yf (f' := [(5, pX q), (7, pX v), (8, pX s), (9, pX A), (11, iX ((k : Nat) : Int)), (13, .slice a8 0 a9), (16, .slice (o.map at0) j c), (17, iX ((j : Nat) : Int)), (18, pX ad), (93, iX (qo f.g b0 g2m).h), (94, iX ((k : Nat) : Int)), (158, .slice (some ⟨d.b, 0, none⟩) d.n d.cap), (159, iX ((d.n : Nat) : Int)), (160, iX ((j : Nat) : Int)), (177, .bool (decide (((j : Nat) : Int) < (b0.x + b0.w))))]) 13 [] [5, 7, 8, 9, 11, 13, 16, 17, 18, 93, 94, 158, 159, 160, 177] (.l (h.c 1 0) (.l (h.c 1 2) (.q6 (b0.x + b0.w) .z))) <| ye <| yc (rL ((j : Nat) : Int) (b0.x + b0.w)) (fun aQ => ?_) fun aQ => ?_
           ·have dA := aQ; exfalso; omega
           have dB := aQ; have h := h.nrm 8 [rX (gc d.l ((j : Nat) : Int)).rune, .bool (gc d.l ((j : Nat) : Int)).sty.bold, .bool (gc d.l ((j : Nat) : Int)).sty.under, .bool (gc d.l ((j : Nat) : Int)).sty.turned, iX (gc d.l ((j : Nat) : Int)).sty.fore, iX (gc d.l ((j : Nat) : Int)).sty.back]; refine qf (fun a ha => bt _ (h.nrm 8 [rX (qF b0 (qj (inE g2m (((k : Nat) : Int) - b0.y) b0.w.toNat)) d.l j).rune, .bool (qF b0 (qj (inE g2m (((k : Nat) : Int) - b0.y) b0.w.toNat)) d.l j).sty.bold, .bool (qF b0 (qj (inE g2m (((k : Nat) : Int) - b0.y) b0.w.toNat)) d.l j).sty.under, .bool (qF b0 (qj (inE g2m (((k : Nat) : Int) - b0.y) b0.w.toNat)) d.l j).sty.turned, iX (qF b0 (qj (inE g2m (((k : Nat) : Int) - b0.y) b0.w.toNat)) d.l j).sty.fore, iX (qF b0 (qj (inE g2m (((k : Nat) : Int) - b0.y) b0.w.toNat)) d.l j).sty.back] (e := by first | (rw [show (qF b0 (qj (inE g2m (((k : Nat) : Int) - b0.y) b0.w.toNat)) d.l j) = (gc d.l ((j : Nat) : Int)) from if_neg (fun h => by have := h.1; have := h.2; omega)]; done) | (rw [show (qF b0 (qj (inE g2m (((k : Nat) : Int) - b0.y) b0.w.toNat)) d.l j) = (gc d.l ((j : Nat) : Int)) from if_neg (fun h => by have := h.1; have := h.2; omega)]; rfl))) a (ha.kp [5, 7, 8, 9, 11, 13, 16, 18, 93, 94, 158, 159, 160]))
          have dC := aP; refine yf (f' := [(5, pX q), (7, pX v), (8, pX s), (9, pX A), (11, iX ((k : Nat) : Int)), (13, .slice a8 0 a9), (16, .slice (o.map at0) j c), (17, iX ((j : Nat) : Int)), (18, pX ad), (93, iX (qo f.g b0 g2m).h), (94, iX ((k : Nat) : Int)), (158, .slice (some ⟨d.b, 0, none⟩) d.n d.cap), (159, iX ((d.n : Nat) : Int)), (160, iX ((j : Nat) : Int)), (177, .bool false)]) 13 [] [5, 7, 8, 9, 11, 13, 16, 17, 18, 93, 94, 158, 159, 160, 177] .z <| ye <| ycf ?_; have h := h.nrm 8 [rX (gc d.l ((j : Nat) : Int)).rune, .bool (gc d.l ((j : Nat) : Int)).sty.bold, .bool (gc d.l ((j : Nat) : Int)).sty.under, .bool (gc d.l ((j : Nat) : Int)).sty.turned, iX (gc d.l ((j : Nat) : Int)).sty.fore, iX (gc d.l ((j : Nat) : Int)).sty.back]; refine qf (fun a ha => bt _ (h.nrm 8 [rX (qF b0 (qj (inE g2m (((k : Nat) : Int) - b0.y) b0.w.toNat)) d.l j).rune, .bool (qF b0 (qj (inE g2m (((k : Nat) : Int) - b0.y) b0.w.toNat)) d.l j).sty.bold, .bool (qF b0 (qj (inE g2m (((k : Nat) : Int) - b0.y) b0.w.toNat)) d.l j).sty.under, .bool (qF b0 (qj (inE g2m (((k : Nat) : Int) - b0.y) b0.w.toNat)) d.l j).sty.turned, iX (qF b0 (qj (inE g2m (((k : Nat) : Int) - b0.y) b0.w.toNat)) d.l j).sty.fore, iX (qF b0 (qj (inE g2m (((k : Nat) : Int) - b0.y) b0.w.toNat)) d.l j).sty.back] (e := by first | (rw [show (qF b0 (qj (inE g2m (((k : Nat) : Int) - b0.y) b0.w.toNat)) d.l j) = (gc d.l ((j : Nat) : Int)) from if_neg (fun h => by have := h.1; have := h.2; omega)]; done) | (rw [show (qF b0 (qj (inE g2m (((k : Nat) : Int) - b0.y) b0.w.toNat)) d.l j) = (gc d.l ((j : Nat) : Int)) from if_neg (fun h => by have := h.1; have := h.2; omega)]; rfl))) a (ha.kp [5, 7, 8, 9, 11, 13, 16, 18, 93, 94, 158, 159, 160]))
         refine q7 <| yp 2 [] (.a (h.cs 8 0 6) .z) <| yo (zB [rX (qF b0 (qj (inE g2m (((k : Nat) : Int) - b0.y) b0.w.toNat)) d.l j).rune, .bool (qF b0 (qj (inE g2m (((k : Nat) : Int) - b0.y) b0.w.toNat)) d.l j).sty.bold, .bool (qF b0 (qj (inE g2m (((k : Nat) : Int) - b0.y) b0.w.toNat)) d.l j).sty.under, .bool (qF b0 (qj (inE g2m (((k : Nat) : Int) - b0.y) b0.w.toNat)) d.l j).sty.turned, iX (qF b0 (qj (inE g2m (((k : Nat) : Int) - b0.y) b0.w.toNat)) d.l j).sty.fore, iX (qF b0 (qj (inE g2m (((k : Nat) : Int) - b0.y) b0.w.toNat)) d.l j).sty.back] 66 1 h fun u dD h => ?_); refine yo (zA 7 32 1 1 (j + 1) (flat (qcL b0 (qj (inE g2m (((k : Nat) : Int) - b0.y) b0.w.toNat)) d.l (j + 1))) h (Rd.all (h.b 9)) rfl (hz := qbA rfl) (hb := by simp only [maxLen]; omega) fun u c2 c3 h dE => ?_); refine yq 5 <| yE (nB (nS ?_)); refine q7 <| yp 2 [] (.q6 (((j : Nat) : Int) + 1) .z) <| yE (fun a ha => c1 (j + 1, c2, c3) _ ⟨by omega, h.take 8⟩ (by show d.n - (j + 1) < d.n - j; omega) a (ha.kp [5, 7, 8, 9, 11, 13, 16, 93, 94, 158, 159, 160]))
        have dF := aO; have Q : d.n = j := by omega
        obtain ⟨ob, rfl⟩ : ∃ ob, o = some ob := by
         cases ho : o with
         | some b => exact ⟨b, rfl⟩
         | none => have := ((h.own 7).2.2.2.1 ho).1; omega
        refine qp (eS (qd (qb (nS ?_)))); refine q7 <| yq 1 <| yo (yC (qbz ob j c (qcL b0 (qj (inE g2m (((k : Nat) : Int) - b0.y) b0.w.toNat)) d.l j) _ (h.ownRd 7) ((h.newo 7) ob rfl).2 qy (by omega)) ?_); rintro _ u ⟨c4, c5, rfl, c6, c7, c8⟩; refine ⟨_, rfl, ?_⟩; have h := h.fresh (e := qbN) c6 (fun g e => zi e ▸ c7) c8; subst Q; refine yq 3 <| yE (fun a ha => a7 (c4, c5) _ ⟨h.take 7, by rw [show (qaR b0 g2m ((k : Nat) : Int) d.l) = qj (qcL b0 (qj (inE g2m (((k : Nat) : Int) - b0.y) b0.w.toNat)) d.l d.n) from (if_pos ⟨aJ, by omega, by omega⟩ : (qaR b0 g2m ((k : Nat) : Int) d.l) = _).trans (by rw [a6])]; exact h.ownRd 8⟩ a (ha.kp [5, 7, 8, 9, 11, 12, 93, 94]))
       refine yx 1 <| ys <| ysr <| yp 3 [] (.l (h.c 1 2) .z) <| ye <| q9 <| qP [5, 7, 8, 9, 11, 12, 13, 93, 94, 122, 123] (f' := [(5, pX q), (7, pX v), (8, pX s), (9, pX A), (11, iX ((k : Nat) : Int)), (12, .slice (some ⟨d.b, 0, none⟩) d.n d.cap), (13, nX), (93, iX (qo f.g b0 g2m).h), (94, iX ((k : Nat) : Int)), (122, iX b0.w), (123, iX 0)]) <| qz (σ := Nat × Option Nat × Nat) (fun ⟨j, o, c⟩ => [(5, pX q), (7, pX v), (8, pX s), (9, pX A), (11, iX ((k : Nat) : Int)), (12, .slice (some ⟨d.b, 0, none⟩) d.n d.cap), (13, .slice (o.map at0) j c), (93, iX (qo f.g b0 g2m).h), (94, iX ((k : Nat) : Int)), (122, iX b0.w), (123, iX ((j : Nat) : Int))]) (fun ⟨j, o, c⟩ u => j ≤ b0.w.toNat ∧ Sep w (fun _ => False) u [qW O [iX p1, iX p2] 22, qW q [iX b0.x, iX b0.y, iX b0.w, iX b0.h] 62, qa4 I K L E ((qo f.g b0 g2m)), qW v [pX I, iX f.x, iX f.y, .bool f.hid] 30, qN s (g2m), qa4 A M N H (f.g), qN T (g2m), qbO 66 6 o j c (flat (inE g2m (((k : Nat) : Int) - b0.y) j))]) (fun ⟨j, o, c⟩ => b0.w.toNat - j) (0, none, 0) rfl ?_ ?_
       ·exact ⟨Nat.zero_le _, h.own0 66 6⟩
       intro p u c9 dG ca; obtain ⟨j, o, c⟩ := p; obtain ⟨hj, h⟩ := c9; refine yx 1 <| ys <| yc (rL ((j : Nat) : Int) b0.w) (fun aR => ?_) fun aR => ?_
       ·have dH := aR; refine yk <| ys <| q9 <| yx 2 <| ysr <| yq 1 <| yo (zN [rX 0, .bool false, .bool false, .bool false, iX 0, iX 0] 66 h fun u ae h => ?_); refine yo (zs h 8 fun u h => ?_); refine ye <| qaa ([(5, pX q), (7, pX v), (8, pX s), (9, pX A), (11, iX ((k : Nat) : Int)), (12, .slice (some ⟨d.b, 0, none⟩) d.n d.cap), (13, .slice (o.map at0) j c), (15, pX ae), (93, iX (qo f.g b0 g2m).h), (94, iX ((k : Nat) : Int)), (122, iX b0.w), (123, iX ((j : Nat) : Int))]) (fun u => Sep w (fun _ => False) u [qW O [iX p1, iX p2] 22, qW q [iX b0.x, iX b0.y, iX b0.w, iX b0.h] 62, qa4 I K L E ((qo f.g b0 g2m)), qW v [pX I, iX f.x, iX f.y, .bool f.hid] 30, qN s (g2m), qa4 A M N H (f.g), qN T (g2m), qbO 66 6 o j c (flat (inE g2m (((k : Nat) : Int) - b0.y) j)), qW ae [rX (inC g2m (((k : Nat) : Int) - b0.y) j).rune, .bool (inC g2m (((k : Nat) : Int) - b0.y) j).sty.bold, .bool (inC g2m (((k : Nat) : Int) - b0.y) j).sty.under, .bool (inC g2m (((k : Nat) : Int) - b0.y) j).sty.turned, iX (inC g2m (((k : Nat) : Int) - b0.y) j).sty.fore, iX (inC g2m (((k : Nat) : Int) - b0.y) j).sty.back] 66]) (fun dI aS => ?_) (fun u h => ?_)
        ·refine ys <| zD [] h fun u h => yd (uL 0 7) [] (.l (h.gwh 4).1 .z) <| yv [133] (rL ((j : Nat) : Int) g2m.w) (fun aT => ?_) fun aT => ?_
         ·have dJ := aT; refine yd (uL 7 10) [] (.l (h.c 1 1) (.q6 (((k : Nat) : Int) - b0.y) (.l (h.gwh 4).2 .z))) <| dkeep [5, 7, 8, 9, 11, 12, 13, 14, 15, 93, 94, 122, 123, 143] (f' := [(5, pX q), (7, pX v), (8, pX s), (9, pX A), (11, iX ((k : Nat) : Int)), (12, .slice (some ⟨d.b, 0, none⟩) d.n d.cap), (13, .slice (o.map at0) j c), (14, iX ((j : Nat) : Int)), (15, pX ae), (93, iX (qo f.g b0 g2m).h), (94, iX ((k : Nat) : Int)), (122, iX b0.w), (123, iX ((j : Nat) : Int)), (143, .bool (decide ((((k : Nat) : Int) - b0.y) < g2m.h)))]) <| yDe (nS ?_); refine yc (rL (((k : Nat) : Int) - b0.y) g2m.h) (fun aU => ?_) fun aU => ?_
          ·have dK := aU; refine q7 <| yp 6 [] (.l (h.c 1 1) (.q6 (((k : Nat) : Int) - b0.y) .z)) <| yo (yQ (h.look ((h.grid 4).elim fun _ hG => qiS _ _ _ (((j : Nat) : Int)) ((((k : Nat) : Int) - b0.y)) _ (qJ h.ch hT (fun _ h => h.elim)).tb hG)) fun u h => ?_); refine yo (zs h 8 fun u h => ?_); have h := h.nrm 8 [rX (atG g2m (((j : Nat) : Int)) ((((k : Nat) : Int) - b0.y))).rune, .bool (atG g2m (((j : Nat) : Int)) ((((k : Nat) : Int) - b0.y))).sty.bold, .bool (atG g2m (((j : Nat) : Int)) ((((k : Nat) : Int) - b0.y))).sty.under, .bool (atG g2m (((j : Nat) : Int)) ((((k : Nat) : Int) - b0.y))).sty.turned, iX (atG g2m (((j : Nat) : Int)) ((((k : Nat) : Int) - b0.y))).sty.fore, iX (atG g2m (((j : Nat) : Int)) ((((k : Nat) : Int) - b0.y))).sty.back]; refine yE (fun a ha => aS _ (h.nrm 8 [rX (inC g2m (((k : Nat) : Int) - b0.y) j).rune, .bool (inC g2m (((k : Nat) : Int) - b0.y) j).sty.bold, .bool (inC g2m (((k : Nat) : Int) - b0.y) j).sty.under, .bool (inC g2m (((k : Nat) : Int) - b0.y) j).sty.turned, iX (inC g2m (((k : Nat) : Int) - b0.y) j).sty.fore, iX (inC g2m (((k : Nat) : Int) - b0.y) j).sty.back] (e := by rw [show (inC g2m (((k : Nat) : Int) - b0.y) j) = (atG g2m (((j : Nat) : Int)) ((((k : Nat) : Int) - b0.y))) from (if_pos ⟨by omega, by omega⟩ : (inC g2m (((k : Nat) : Int) - b0.y) j) = _).trans (if_pos (there_iff.2 ⟨⟨by omega, by omega⟩, by omega, by omega⟩)).symm])) a (ha.kp [5, 7, 8, 9, 11, 12, 13, 15, 93, 94, 122, 123]))
          have dL := aU; have h := h.nrm 8 [rX 32, .bool false, .bool false, .bool false, iX 0, iX 0]; refine qf (fun a ha => aS _ (h.nrm 8 [rX (inC g2m (((k : Nat) : Int) - b0.y) j).rune, .bool (inC g2m (((k : Nat) : Int) - b0.y) j).sty.bold, .bool (inC g2m (((k : Nat) : Int) - b0.y) j).sty.under, .bool (inC g2m (((k : Nat) : Int) - b0.y) j).sty.turned, iX (inC g2m (((k : Nat) : Int) - b0.y) j).sty.fore, iX (inC g2m (((k : Nat) : Int) - b0.y) j).sty.back] (e := by first | (rw [show (inC g2m (((k : Nat) : Int) - b0.y) j) = (Cel.mk 32 qaD) from if_neg (fun h => by have := h.1; have := h.2; omega)]; done) | (rw [show (inC g2m (((k : Nat) : Int) - b0.y) j) = (Cel.mk 32 qaD) from if_neg (fun h => by have := h.1; have := h.2; omega)]; rfl))) a (ha.kp [5, 7, 8, 9, 11, 12, 13, 15, 93, 94, 122, 123]))
         have dM := aT; refine yd (uL 7 10) [] .z <| dkeep [5, 7, 8, 9, 11, 12, 13, 14, 15, 93, 94, 122, 123, 143] (f' := [(5, pX q), (7, pX v), (8, pX s), (9, pX A), (11, iX ((k : Nat) : Int)), (12, .slice (some ⟨d.b, 0, none⟩) d.n d.cap), (13, .slice (o.map at0) j c), (14, iX ((j : Nat) : Int)), (15, pX ae), (93, iX (qo f.g b0 g2m).h), (94, iX ((k : Nat) : Int)), (122, iX b0.w), (123, iX ((j : Nat) : Int)), (143, .bool false)]) <| yDe (nS ?_); refine ycf ?_; have h := h.nrm 8 [rX 32, .bool false, .bool false, .bool false, iX 0, iX 0]; refine qf (fun a ha => aS _ (h.nrm 8 [rX (inC g2m (((k : Nat) : Int) - b0.y) j).rune, .bool (inC g2m (((k : Nat) : Int) - b0.y) j).sty.bold, .bool (inC g2m (((k : Nat) : Int) - b0.y) j).sty.under, .bool (inC g2m (((k : Nat) : Int) - b0.y) j).sty.turned, iX (inC g2m (((k : Nat) : Int) - b0.y) j).sty.fore, iX (inC g2m (((k : Nat) : Int) - b0.y) j).sty.back] (e := by first | (rw [show (inC g2m (((k : Nat) : Int) - b0.y) j) = (Cel.mk 32 qaD) from if_neg (fun h => by have := h.1; have := h.2; omega)]; done) | (rw [show (inC g2m (((k : Nat) : Int) - b0.y) j) = (Cel.mk 32 qaD) from if_neg (fun h => by have := h.1; have := h.2; omega)]; rfl))) a (ha.kp [5, 7, 8, 9, 11, 12, 13, 15, 93, 94, 122, 123]))
        refine q7 <| yp 2 [] (.a (h.cs 8 0 6) .z) <| yo (zB [rX (inC g2m (((k : Nat) : Int) - b0.y) j).rune, .bool (inC g2m (((k : Nat) : Int) - b0.y) j).sty.bold, .bool (inC g2m (((k : Nat) : Int) - b0.y) j).sty.under, .bool (inC g2m (((k : Nat) : Int) - b0.y) j).sty.turned, iX (inC g2m (((k : Nat) : Int) - b0.y) j).sty.fore, iX (inC g2m (((k : Nat) : Int) - b0.y) j).sty.back] 66 1 h fun u dN h => ?_); refine yo (zA 7 32 1 1 (j + 1) (flat (inE g2m (((k : Nat) : Int) - b0.y) (j + 1))) h (Rd.all (h.b 9)) rfl (hz := qbA rfl) (hb := by simp only [maxLen]; omega) fun u cb cc h dO => ?_); refine yq 5 <| yE (nB (nS ?_)); refine q7 <| yp 2 [] (.q6 (((j : Nat) : Int) + 1) .z) <| yE (fun a ha => ca (j + 1, cb, cc) _ ⟨by omega, h.take 8⟩ (by show b0.w.toNat - (j + 1) < b0.w.toNat - j; omega) a (ha.kp [5, 7, 8, 9, 11, 12, 13, 93, 94, 122, 123]))
       have dP := aR; have Q : b0.w.toNat = j := by omega
       obtain ⟨ob, rfl⟩ : ∃ ob, o = some ob := by
        cases ho : o with
        | some b => exact ⟨b, rfl⟩
        | none => have := ((h.own 7).2.2.2.1 ho).1; omega
       refine qp (eS (qd (qb (nS ?_)))); refine ysr <| yq 1 <| yo (yC (qbz ob j c (inE g2m (((k : Nat) : Int) - b0.y) j) _ (h.ownRd 7) ((h.newo 7) ob rfl).2 qy (by omega)) ?_); rintro _ u ⟨Z, a0, rfl, cd, ce, cf⟩; refine ⟨_, rfl, ?_⟩; have h := h.fresh (e := qbN) cd (fun g e => zi e ▸ ce) cf; subst Q; rw [show (qj (inE g2m (((k : Nat) : Int) - b0.y) b0.w.toNat)).length = b0.w.toNat by rw [qm]; exact qy] at h; refine yz 3 <| yx 1 <| ys <| yx 3 <| q9 ?_; have h := h.pick [0, 1, 2, 3, 4, 5, 6, 8]; refine qP [5, 7, 8, 9, 11, 13, 16, 93, 94, 158, 159, 160] (f' := [(5, pX q), (7, pX v), (8, pX s), (9, pX A), (11, iX ((k : Nat) : Int)), (13, .slice (some ⟨Z, 0, none⟩) b0.w.toNat a0), (16, nX), (93, iX (qo f.g b0 g2m).h), (94, iX ((k : Nat) : Int)), (158, .slice (some ⟨d.b, 0, none⟩) d.n d.cap), (159, iX ((d.n : Nat) : Int)), (160, iX 0)]) <| qz (σ := Nat × Option Nat × Nat) (fun ⟨j, o, c⟩ => [(5, pX q), (7, pX v), (8, pX s), (9, pX A), (11, iX ((k : Nat) : Int)), (13, .slice (some ⟨Z, 0, none⟩) b0.w.toNat a0), (16, .slice (o.map at0) j c), (93, iX (qo f.g b0 g2m).h), (94, iX ((k : Nat) : Int)), (158, .slice (some ⟨d.b, 0, none⟩) d.n d.cap), (159, iX ((d.n : Nat) : Int)), (160, iX ((j : Nat) : Int))]) (fun ⟨j, o, c⟩ u => j ≤ d.n ∧ Sep w (fun _ => False) u [qW O [iX p1, iX p2] 22, qW q [iX b0.x, iX b0.y, iX b0.w, iX b0.h] 62, qa4 I K L E ((qo f.g b0 g2m)), qW v [pX I, iX f.x, iX f.y, .bool f.hid] 30, qN s (g2m), qa4 A M N H (f.g), qN T (g2m), qbO 66 6 (some Z) b0.w.toNat a0 (flat (qj (inE g2m (((k : Nat) : Int) - b0.y) b0.w.toNat))), qbO 66 6 o j c (flat (qcL b0 (qj (inE g2m (((k : Nat) : Int) - b0.y) b0.w.toNat)) d.l j))]) (fun ⟨j, o, c⟩ => d.n - j) (0, none, 0) rfl ?_ ?_
       ·exact ⟨Nat.zero_le _, h.own0 66 6⟩
       intro p u cg dQ ci; obtain ⟨j, o, c⟩ := p; obtain ⟨hj, h⟩ := cg; refine yx 1 <| ys <| yc (rL ((j : Nat) : Int) ((d.n : Nat) : Int)) (fun aV => ?_) fun aV => ?_
       ·have dR := aV; refine yk <| ys <| q9 <| ysr <| yp 3 [] (.i ((j : Nat) : Int) (d.n) (.m (qb8 (i := ((j : Nat) : Int)) (h.giln 5 r) (by omega) (by omega)) (.m (qh (i := ((j : Nat) : Int)) (h.giln 5 r) (by omega) (by omega) 1 _ (by decide) rfl) (.m (qh (i := ((j : Nat) : Int)) (h.giln 5 r) (by omega) (by omega) 2 _ (by decide) rfl) (.m (qh (i := ((j : Nat) : Int)) (h.giln 5 r) (by omega) (by omega) 3 _ (by decide) rfl) (.m (qh (i := ((j : Nat) : Int)) (h.giln 5 r) (by omega) (by omega) 4 _ (by decide) rfl) (.m (qh (i := ((j : Nat) : Int)) (h.giln 5 r) (by omega) (by omega) 5 _ (by decide) rfl) (.e .z)))))))) <| yo (zN [rX 0, .bool false, .bool false, .bool false, iX 0, iX 0] 66 h fun u af h => ?_); refine yq 5 <| yo (zs h 9 fun u h => ?_); refine ye <| qaa ([(5, pX q), (7, pX v), (8, pX s), (9, pX A), (11, iX ((k : Nat) : Int)), (13, .slice (some ⟨Z, 0, none⟩) b0.w.toNat a0), (16, .slice (o.map at0) j c), (18, pX af), (93, iX (qo f.g b0 g2m).h), (94, iX ((k : Nat) : Int)), (158, .slice (some ⟨d.b, 0, none⟩) d.n d.cap), (159, iX ((d.n : Nat) : Int)), (160, iX ((j : Nat) : Int))]) (fun u => Sep w (fun _ => False) u [qW O [iX p1, iX p2] 22, qW q [iX b0.x, iX b0.y, iX b0.w, iX b0.h] 62, qa4 I K L E ((qo f.g b0 g2m)), qW v [pX I, iX f.x, iX f.y, .bool f.hid] 30, qN s (g2m), qa4 A M N H (f.g), qN T (g2m), qbO 66 6 (some Z) b0.w.toNat a0 (flat (qj (inE g2m (((k : Nat) : Int) - b0.y) b0.w.toNat))), qbO 66 6 o j c (flat (qcL b0 (qj (inE g2m (((k : Nat) : Int) - b0.y) b0.w.toNat)) d.l j)), qW af [rX (qF b0 (qj (inE g2m (((k : Nat) : Int) - b0.y) b0.w.toNat)) d.l j).rune, .bool (qF b0 (qj (inE g2m (((k : Nat) : Int) - b0.y) b0.w.toNat)) d.l j).sty.bold, .bool (qF b0 (qj (inE g2m (((k : Nat) : Int) - b0.y) b0.w.toNat)) d.l j).sty.under, .bool (qF b0 (qj (inE g2m (((k : Nat) : Int) - b0.y) b0.w.toNat)) d.l j).sty.turned, iX (qF b0 (qj (inE g2m (((k : Nat) : Int) - b0.y) b0.w.toNat)) d.l j).sty.fore, iX (qF b0 (qj (inE g2m (((k : Nat) : Int) - b0.y) b0.w.toNat)) d.l j).sty.back] 66]) (fun dS aW => ?_) (fun u h => ?_)
        ·refine ysr <| yp 5 [] (.l (h.c 1 0) .z) <| yw [169] (rM b0.x ((j : Nat) : Int)) (fun aX => ?_) fun aX => ?_
         ·have dT := aX; refine yf (f' := [(5, pX q), (7, pX v), (8, pX s), (9, pX A), (11, iX ((k : Nat) : Int)), (13, .slice (some ⟨Z, 0, none⟩) b0.w.toNat a0), (16, .slice (o.map at0) j c), (17, iX ((j : Nat) : Int)), (18, pX af), (93, iX (qo f.g b0 g2m).h), (94, iX ((k : Nat) : Int)), (158, .slice (some ⟨d.b, 0, none⟩) d.n d.cap), (159, iX ((d.n : Nat) : Int)), (160, iX ((j : Nat) : Int)), (177, .bool (decide (((j : Nat) : Int) < (b0.x + b0.w))))]) 13 [] [5, 7, 8, 9, 11, 13, 16, 17, 18, 93, 94, 158, 159, 160, 177] (.l (h.c 1 0) (.l (h.c 1 2) (.q6 (b0.x + b0.w) .z))) <| ye <| yc (rL ((j : Nat) : Int) (b0.x + b0.w)) (fun aY => ?_) fun aY => ?_
          ·have dU := aY; refine q7 <| yp 7 [] (.l (h.c 1 0) (.q6 (((j : Nat) : Int) - b0.x) (.i (((j : Nat) : Int) - b0.x) (b0.w.toNat) (.m (qb8 (i := (((j : Nat) : Int) - b0.x)) (h.ownRd 7) (by omega) (by rw [qm]; unfold inE; rw [qy]; omega)) (.m (qh (i := (((j : Nat) : Int) - b0.x)) (h.ownRd 7) (by omega) (by rw [qm]; unfold inE; rw [qy]; omega) 1 _ (by decide) rfl) (.m (qh (i := (((j : Nat) : Int) - b0.x)) (h.ownRd 7) (by omega) (by rw [qm]; unfold inE; rw [qy]; omega) 2 _ (by decide) rfl) (.m (qh (i := (((j : Nat) : Int) - b0.x)) (h.ownRd 7) (by omega) (by rw [qm]; unfold inE; rw [qy]; omega) 3 _ (by decide) rfl) (.m (qh (i := (((j : Nat) : Int) - b0.x)) (h.ownRd 7) (by omega) (by rw [qm]; unfold inE; rw [qy]; omega) 4 _ (by decide) rfl) (.m (qh (i := (((j : Nat) : Int) - b0.x)) (h.ownRd 7) (by omega) (by rw [qm]; unfold inE; rw [qy]; omega) 5 _ (by decide) rfl) (.e .z)))))))))) <| yo (zs h 9 fun u h => ?_); have h := h.nrm 9 [rX (gc (qj (inE g2m (((k : Nat) : Int) - b0.y) b0.w.toNat)) (((j : Nat) : Int) - b0.x)).rune, .bool (gc (qj (inE g2m (((k : Nat) : Int) - b0.y) b0.w.toNat)) (((j : Nat) : Int) - b0.x)).sty.bold, .bool (gc (qj (inE g2m (((k : Nat) : Int) - b0.y) b0.w.toNat)) (((j : Nat) : Int) - b0.x)).sty.under, .bool (gc (qj (inE g2m (((k : Nat) : Int) - b0.y) b0.w.toNat)) (((j : Nat) : Int) - b0.x)).sty.turned, iX (gc (qj (inE g2m (((k : Nat) : Int) - b0.y) b0.w.toNat)) (((j : Nat) : Int) - b0.x)).sty.fore, iX (gc (qj (inE g2m (((k : Nat) : Int) - b0.y) b0.w.toNat)) (((j : Nat) : Int) - b0.x)).sty.back]
           refine yE (fun a ha => aW _ (h.nrm 9 [rX (qF b0 (qj (inE g2m (((k : Nat) : Int) - b0.y) b0.w.toNat)) d.l j).rune, .bool (qF b0 (qj (inE g2m (((k : Nat) : Int) - b0.y) b0.w.toNat)) d.l j).sty.bold, .bool (qF b0 (qj (inE g2m (((k : Nat) : Int) - b0.y) b0.w.toNat)) d.l j).sty.under, .bool (qF b0 (qj (inE g2m (((k : Nat) : Int) - b0.y) b0.w.toNat)) d.l j).sty.turned, iX (qF b0 (qj (inE g2m (((k : Nat) : Int) - b0.y) b0.w.toNat)) d.l j).sty.fore, iX (qF b0 (qj (inE g2m (((k : Nat) : Int) - b0.y) b0.w.toNat)) d.l j).sty.back] (e := by first | (rw [show (qF b0 (qj (inE g2m (((k : Nat) : Int) - b0.y) b0.w.toNat)) d.l j) = (gc (qj (inE g2m (((k : Nat) : Int) - b0.y) b0.w.toNat)) (((j : Nat) : Int) - b0.x)) from if_pos (by constructor <;> omega)]; done) | (rw [show (qF b0 (qj (inE g2m (((k : Nat) : Int) - b0.y) b0.w.toNat)) d.l j) = (gc (qj (inE g2m (((k : Nat) : Int) - b0.y) b0.w.toNat)) (((j : Nat) : Int) - b0.x)) from if_pos (by constructor <;> omega)]; rfl))) a (ha.kp [5, 7, 8, 9, 11, 13, 16, 18, 93, 94, 158, 159, 160]))
          have dV := aY; have h := h.nrm 9 [rX (gc d.l ((j : Nat) : Int)).rune, .bool (gc d.l ((j : Nat) : Int)).sty.bold, .bool (gc d.l ((j : Nat) : Int)).sty.under, .bool (gc d.l ((j : Nat) : Int)).sty.turned, iX (gc d.l ((j : Nat) : Int)).sty.fore, iX (gc d.l ((j : Nat) : Int)).sty.back]; refine qf (fun a ha => aW _ (h.nrm 9 [rX (qF b0 (qj (inE g2m (((k : Nat) : Int) - b0.y) b0.w.toNat)) d.l j).rune, .bool (qF b0 (qj (inE g2m (((k : Nat) : Int) - b0.y) b0.w.toNat)) d.l j).sty.bold, .bool (qF b0 (qj (inE g2m (((k : Nat) : Int) - b0.y) b0.w.toNat)) d.l j).sty.under, .bool (qF b0 (qj (inE g2m (((k : Nat) : Int) - b0.y) b0.w.toNat)) d.l j).sty.turned, iX (qF b0 (qj (inE g2m (((k : Nat) : Int) - b0.y) b0.w.toNat)) d.l j).sty.fore, iX (qF b0 (qj (inE g2m (((k : Nat) : Int) - b0.y) b0.w.toNat)) d.l j).sty.back] (e := by first | (rw [show (qF b0 (qj (inE g2m (((k : Nat) : Int) - b0.y) b0.w.toNat)) d.l j) = (gc d.l ((j : Nat) : Int)) from if_neg (fun h => by have := h.1; have := h.2; omega)]; done) | (rw [show (qF b0 (qj (inE g2m (((k : Nat) : Int) - b0.y) b0.w.toNat)) d.l j) = (gc d.l ((j : Nat) : Int)) from if_neg (fun h => by have := h.1; have := h.2; omega)]; rfl))) a (ha.kp [5, 7, 8, 9, 11, 13, 16, 18, 93, 94, 158, 159, 160]))
         have dW := aX; refine yf (f' := [(5, pX q), (7, pX v), (8, pX s), (9, pX A), (11, iX ((k : Nat) : Int)), (13, .slice (some ⟨Z, 0, none⟩) b0.w.toNat a0), (16, .slice (o.map at0) j c), (17, iX ((j : Nat) : Int)), (18, pX af), (93, iX (qo f.g b0 g2m).h), (94, iX ((k : Nat) : Int)), (158, .slice (some ⟨d.b, 0, none⟩) d.n d.cap), (159, iX ((d.n : Nat) : Int)), (160, iX ((j : Nat) : Int)), (177, .bool false)]) 13 [] [5, 7, 8, 9, 11, 13, 16, 17, 18, 93, 94, 158, 159, 160, 177] .z <| ye <| ycf ?_; have h := h.nrm 9 [rX (gc d.l ((j : Nat) : Int)).rune, .bool (gc d.l ((j : Nat) : Int)).sty.bold, .bool (gc d.l ((j : Nat) : Int)).sty.under, .bool (gc d.l ((j : Nat) : Int)).sty.turned, iX (gc d.l ((j : Nat) : Int)).sty.fore, iX (gc d.l ((j : Nat) : Int)).sty.back]; refine qf (fun a ha => aW _ (h.nrm 9 [rX (qF b0 (qj (inE g2m (((k : Nat) : Int) - b0.y) b0.w.toNat)) d.l j).rune, .bool (qF b0 (qj (inE g2m (((k : Nat) : Int) - b0.y) b0.w.toNat)) d.l j).sty.bold, .bool (qF b0 (qj (inE g2m (((k : Nat) : Int) - b0.y) b0.w.toNat)) d.l j).sty.under, .bool (qF b0 (qj (inE g2m (((k : Nat) : Int) - b0.y) b0.w.toNat)) d.l j).sty.turned, iX (qF b0 (qj (inE g2m (((k : Nat) : Int) - b0.y) b0.w.toNat)) d.l j).sty.fore, iX (qF b0 (qj (inE g2m (((k : Nat) : Int) - b0.y) b0.w.toNat)) d.l j).sty.back] (e := by first | (rw [show (qF b0 (qj (inE g2m (((k : Nat) : Int) - b0.y) b0.w.toNat)) d.l j) = (gc d.l ((j : Nat) : Int)) from if_neg (fun h => by have := h.1; have := h.2; omega)]; done) | (rw [show (qF b0 (qj (inE g2m (((k : Nat) : Int) - b0.y) b0.w.toNat)) d.l j) = (gc d.l ((j : Nat) : Int)) from if_neg (fun h => by have := h.1; have := h.2; omega)]; rfl))) a (ha.kp [5, 7, 8, 9, 11, 13, 16, 18, 93, 94, 158, 159, 160]))
        refine q7 <| yp 2 [] (.a (h.cs 9 0 6) .z) <| yo (zB [rX (qF b0 (qj (inE g2m (((k : Nat) : Int) - b0.y) b0.w.toNat)) d.l j).rune, .bool (qF b0 (qj (inE g2m (((k : Nat) : Int) - b0.y) b0.w.toNat)) d.l j).sty.bold, .bool (qF b0 (qj (inE g2m (((k : Nat) : Int) - b0.y) b0.w.toNat)) d.l j).sty.under, .bool (qF b0 (qj (inE g2m (((k : Nat) : Int) - b0.y) b0.w.toNat)) d.l j).sty.turned, iX (qF b0 (qj (inE g2m (((k : Nat) : Int) - b0.y) b0.w.toNat)) d.l j).sty.fore, iX (qF b0 (qj (inE g2m (((k : Nat) : Int) - b0.y) b0.w.toNat)) d.l j).sty.back] 66 1 h fun u dX h => ?_); refine yo (zA 8 32 1 1 (j + 1) (flat (qcL b0 (qj (inE g2m (((k : Nat) : Int) - b0.y) b0.w.toNat)) d.l (j + 1))) h (Rd.all (h.b 10)) rfl (hz := qbA rfl) (hb := by simp only [maxLen]; omega) fun u cj ck h dY => ?_); refine yq 5 <| yE (nB (nS ?_)); refine q7 <| yp 2 [] (.q6 (((j : Nat) : Int) + 1) .z) <| yE (fun a ha => ci (j + 1, cj, ck) _ ⟨by omega, h.take 9⟩ (by show d.n - (j + 1) < d.n - j; omega) a (ha.kp [5, 7, 8, 9, 11, 13, 16, 93, 94, 158, 159, 160]))
       have dZ := aV; have Q : d.n = j := by omega
       obtain ⟨ob, rfl⟩ : ∃ ob, o = some ob := by
        cases ho : o with
        | some b => exact ⟨b, rfl⟩
        | none => have := ((h.own 8).2.2.2.1 ho).1; omega
       refine qp (eS (qd (qb (nS ?_)))); refine q7 <| yq 1 <| yo (yC (qbz ob j c (qcL b0 (qj (inE g2m (((k : Nat) : Int) - b0.y) b0.w.toNat)) d.l j) _ (h.ownRd 8) ((h.newo 8) ob rfl).2 qy (by omega)) ?_); rintro _ u ⟨cl, cm, rfl, cn, co, cp⟩; refine ⟨_, rfl, ?_⟩; have h := h.fresh (e := qbN) cn (fun g e => zi e ▸ co) cp; subst Q; refine yq 3 <| yE (fun a ha => a7 (cl, cm) _ ⟨h.take 7, by rw [show (qaR b0 g2m ((k : Nat) : Int) d.l) = qj (qcL b0 (qj (inE g2m (((k : Nat) : Int) - b0.y) b0.w.toNat)) d.l d.n) from (if_pos ⟨aJ, by omega, by omega⟩ : (qaR b0 g2m ((k : Nat) : Int) d.l) = _).trans (by rw [a6])]; exact h.ownRd 9⟩ a (ha.kp [5, 7, 8, 9, 11, 12, 93, 94]))
      have e0 := aL; refine qf (fun a ha => a7 (d.b, d.cap) _ ⟨h.take 7, by rw [show (qaR b0 g2m ((k : Nat) : Int) d.l) = d.l from if_neg (fun h => by have := h.2; omega)]; exact h.giln 5 r⟩ a (ha.kp [5, 7, 8, 9, 11, 12, 93, 94]))
     have e1 := aK; refine yz 17 <| ycf <| qf (fun a ha => a7 (d.b, d.cap) _ ⟨h.take 7, by rw [show (qaR b0 g2m ((k : Nat) : Int) d.l) = d.l from if_neg (fun h => by have := h.2; omega)]; exact h.giln 5 r⟩ a (ha.kp [5, 7, 8, 9, 11, 12, 93, 94]))
    have cq := aI; refine yz 17 <| ycf <| qf (fun a ha => a7 (d.b, d.cap) _ ⟨h.take 7, by rw [show (qaR b0 g2m ((k : Nat) : Int) d.l) = d.l from if_neg (fun h => Bool.false_ne_true (cq.symm.trans h.1))]; exact h.giln 5 r⟩ a (ha.kp [5, 7, 8, 9, 11, 12, 93, 94]))
   obtain ⟨wb, wc⟩ := gs; obtain ⟨h, aZ⟩ := h; refine ysr <| yp 9 [] (.l (h.c 3 0) (.l (h.gic 2 2) (.i ((k : Nat) : Int) (E.length) (.l (h.girow 2 P) .z)))) <| yo (yQ (h.look (qfJ G.b wb G.cap wc G.l (qaR b0 g2m ((k : Nat) : Int) d.l) _ (h.giln 2 P) aZ (by simp only [maxLen]; omega) (by omega) aH)) fun u h => ?_); refine yq 12 <| yw [203] (rN (rY (eqLB G.l (qaR b0 g2m ((k : Nat) : Int) d.l)))) (fun b1 => ?_) fun b1 => ?_
   ·have cr := b1; exact absurd (qh2 S.1) (by rw [cr]; decide)
   have e2 := b1; refine yp 20 [] (.l (h.c 3 0) (.l (h.gic 2 2) (.i ((k : Nat) : Int) (E.length) (.l (h.girow 2 P) .z)))) <| yo (yQ (h.look (qfY G.b G.n G.cap G.l _ (qJ h.ch hT (fun _ h => h.elim)).tb (h.giln 2 P) ((h.gI 2 rfl).elim fun _ hI => (hI.line G (List.mem_of_getElem? P)).1.lt) aE (by omega))) fun u h => ?_); refine yz 23 <| yc (rN (rY (qcd G.l))) (fun b2 => ?_) fun b2 => ?_
   ·have ct := b2; exact Bool.noConfusion (S.2.symm.trans ct)
   have e3 := b2; refine qf (nB (nS ?_)); refine q7 <| yp 2 [] (.q6 (((k : Nat) : Int) + 1) .z) <| yE (fun a ha => bU (k + 1) _ ⟨by omega, h.take 7⟩ (by show f.g.h.toNat - (k + 1) < f.g.h.toNat - k; omega) a (ha.kp [5, 7, 8, 9, 93, 94]))
  have e4 := aD; refine qp (eS (qd (qb (nS ?_)))); refine yx 1 <| q8 (yR1 (.bool true) ?_); exact ⟨rfl, h.ch⟩
 refine qcc 8 _ (by kernel_rfl) rfl (zN [.pointer none, iX 0, iX 0, .bool false] 30 h fun u C h => ?_); refine zHa h ?_; obtain ⟨W, al, am, an⟩ := hlk (gk ls 0) (qhl (by omega)); have ao := (qdW a3).2 0 (by omega); obtain ⟨f, a4⟩ : ∃ V, V = viewV (p1) (p2) W (gk ls 0).x (gk ls 0).y (gk ls 0).hid := ⟨_, rfl⟩
 have X : VOk p1 p2 f := vok_of (a4 ▸ qhf (p1) (p2) W (gk ls 0).x (gk ls 0).y (gk ls 0).hid) rfl rfl; have bA := X.w; have bB := X.h; refine yK 7 (yC (qhc (p1) (p2) (gk ls 0).a (gk ls 0).n (gk ls 0).cap W (gk ls 0).x (gk ls 0).y (gk ls 0).hid _ (qJ h.ch hT (fun _ h => h.elim)) (Nat.le_trans h7 h.ch.size) al (am.ch h.ch iZ) an ao f a4) ?_); rintro _ u ⟨J, e5, rfl, bu, cu, cv⟩; refine ⟨_, rfl, ?_⟩; have bE := bu.ok; have h := h.newGrid bu cu cv; refine qa <| yK 9 (zs h 2 fun u h => ?_); refine qa <| yDe (nS ?_); refine ys <| zD [14] h fun u h => yd (uL 0 14) [] (.i 1 (ls.length) (.l (o := (off + 5)) (qca (h.rd hr) (by omega) 1 _ (by decide) rfl) (.i 1 (ls.length) (.l (o := (off + 6)) (qca (h.rd hr) (by omega) 2 _ (by decide) rfl) (.i 1 (ls.length) (.l (o := (off + 4)) (qca (h.rd hr) (by omega) 0 _ (by decide) rfl) .z)))))) ?_; obtain ⟨Y, ap, aq, ar⟩ := hlk (gk ls 1) (qhl (by omega)); have au := (qdW a3).2 1 (by omega); refine yK 14 (yC (qeZ ((qt .and .i64 (gk ls 1).x 31)) ((qt .and .i64 (gk ls 1).y 31)) (gk ls 1).a (gk ls 1).n (gk ls 1).cap Y _ (qJ h.ch hT (fun _ h => h.elim)) (Nat.le_trans h7 h.ch.size) ap (aq.ch h.ch iZ) ar au) ?_); rintro _ u ⟨t, e6, rfl, bv, cw, cx⟩; refine ⟨_, rfl, ?_⟩; have R := bv.ok; have a5 := qjN ((qt .and .i64 (gk ls 1).x 31)) ((qt .and .i64 (gk ls 1).y 31)) Y; have h := h.newGrid bv cw cx; generalize qcG ((qt .and .i64 (gk ls 1).x 31)) ((qt .and .i64 (gk ls 1).y 31)) Y = g2m at h R a5
 refine qa <| yd [15] [] .z <| yDe (nS ?_); refine ysr <| yp 2 [] (.l (h.c 2 0) .z) <| yo (yC ((h.grid 3).elim fun _ hG => qcH _ hG) ?_); rintro _ u ⟨D, e7, rfl, cy, cz, cA⟩; refine ⟨_, rfl, ?_⟩; have h := h.newGrid cy cz cA; refine yq 4 <| yo (yC ((h.grid 4).elim fun _ hG => qcH _ hG) ?_); rintro _ u ⟨U, e8, rfl, cB, cC, cD⟩; refine ⟨_, rfl, ?_⟩; have h := h.newGrid cB cC cD; refine yz 7 <| ysr <| yp 3 [] (.a (h.cs 2 0 4) (.a (h.cs 1 0 4) .z)) <| yo (yQ (h.step2 3 4 (by decide) (A' := qN J (qo f.g b0 g2m)) (B := qN t g2m) (fun F F2 hA hB aw => qfX J f.g F (f.x) (f.y) (f.hid) b0 t g2m F2 _ (qJ h.ch hT (fun _ h => h.elim)).tb hA hB aw)) fun u h => ?_); have bN := qhk f.g b0 g2m; have bO := R.1; have bP := R.2.1; refine ye <| ys <| ys <| zD [2] h fun u h => yd [0, 1] [] .z <| yK 2 (yQ (h.look ((h.grid 4).elim fun _ hA => (h.grid 6).elim fun _ hB => qdN hA hB)) fun u h => ?_); refine qa <| yd [3, 4] [] .z <| yv [65] (rN (rY (grB g2m g2m))) (fun b3 => ?_) fun b3 => ?_
 ·have bw := b3; rw [qh4] at bw; cases bw
 have e9 := b3; refine yd (uL 5 12) [] (.l (h.c 2 0) (.l (h.gwh 3).1 (.l (h.gwh 5).1 .z))) <| yv [77] (rI (qo f.g b0 g2m).w f.g.w) (fun b4 => ?_) fun b4 => ?_
 ·have ea := b4; exfalso; omega
 have eb := b4; refine yd (uL 17 11) [] (.l (h.c 2 0) (.l (h.gwh 3).2 (.l (h.gwh 5).2 .z))) <| yDe (nS ?_); refine yc (rI (qo f.g b0 g2m).h f.g.h) (fun b5 => ?_) fun b5 => ?_
 ·have ec := b5; exfalso; omega
 have ed := b5; refine yk <| ys <| ysr <| yp 6 [] (.l (h.c 2 0) (.l (h.gwh 3).2 .z)) <| ye <| q9 ?_; have h := h.nrm 2 [pX J, iX f.x, iX f.y, .bool f.hid]; obtain ⟨K, L, E, h⟩ := h.gopn 3; obtain ⟨bQ, bR, aA⟩ := h.gifacts 3; obtain ⟨M, N, H, h⟩ := h.gopn 5; obtain ⟨aB, bS, aC⟩ := h.gifacts 5; refine qP [5, 7, 8, 9, 93, 94] (f' := [(5, pX q), (7, pX C), (8, pX t), (9, pX D), (93, iX (qo f.g b0 g2m).h), (94, iX 0)]) <| qz (σ := Nat) (fun k => [(5, pX q), (7, pX C), (8, pX t), (9, pX D), (93, iX (qo f.g b0 g2m).h), (94, iX ((k : Nat) : Int))]) (fun k u => (k : Int) ≤ f.g.h ∧ Sep w (fun _ => False) u [qW O [iX p1, iX p2] 22, qW q [iX b0.x, iX b0.y, iX b0.w, iX b0.h] 62, qW C [pX J, iX f.x, iX f.y, .bool f.hid] 30, qa4 J K L E ((qo f.g b0 g2m)), qN t (g2m), qa4 D M N H (f.g), qN U (g2m)]) (fun k => f.g.h.toNat - k) 0 rfl ?_ ?_
 ·exact ⟨(by show (0 : Int) ≤ f.g.h; omega), h.take 7⟩
 intro k u cE ee cF; obtain ⟨hk, h⟩ := cE; refine yx 1 <| ys <| yc (rL ((k : Nat) : Int) (qo f.g b0 g2m).h) (fun b6 => ?_) fun b6 => ?_
 ·have ef := b6; obtain ⟨G, P⟩ := qha (rows := E) (k := k) (by omega); obtain ⟨d, r⟩ := qha (rows := H) (k := k) (by omega); obtain ⟨aE, bV, aF⟩ := aA k G P; obtain ⟨a6, bW, aG⟩ := aC k d r; have S := qfU (b := b0) aB X.ok R a5 (k := k) (by omega); rw [aF, aG] at S; have aH : (qaR b0 g2m ((k : Nat) : Int) d.l).length = d.n := by rw [← S.1]; omega
  refine yk <| ys <| q9 <| yx 2 <| ysr <| yp 8 [] (.l (h.gic 5 2) (.i ((k : Nat) : Int) (H.length) (.l (h.girow 5 r) .z))) <| ye <| qaF (σ := Nat × Nat) (fun ⟨wb, wc⟩ => [(5, pX q), (7, pX C), (8, pX t), (9, pX D), (11, iX ((k : Nat) : Int)), (12, .slice (some ⟨wb, 0, none⟩) d.n wc), (93, iX (qo f.g b0 g2m).h), (94, iX ((k : Nat) : Int))]) (fun ⟨wb, wc⟩ u => Sep w (fun _ => False) u [qW O [iX p1, iX p2] 22, qW q [iX b0.x, iX b0.y, iX b0.w, iX b0.h] 62, qW C [pX J, iX f.x, iX f.y, .bool f.hid] 30, qa4 J K L E ((qo f.g b0 g2m)), qN t (g2m), qa4 D M N H (f.g), qN U (g2m)] ∧ Rd u (some ⟨wb, 0, none⟩) (flat (qaR b0 g2m ((k : Nat) : Int) d.l))) (fun eg aa => ?_) (fun gs u h => ?_)
  ·refine ysr <| yp 1 [] (.a (h.cs 1 0 4) .z) <| yo (yQ (h.look (qhh b0 _)) fun u h => ?_); refine yq 3 <| yw [106] (rY (qcE b0)) (fun b7 => ?_) fun b7 => ?_
   ·have b8 := b7; have bX := mayB_iff.1 b8; refine yp 9 [] (.l (h.c 1 1) .z) <| yw [112] (rM b0.y ((k : Nat) : Int)) (fun b9 => ?_) fun b9 => ?_
    ·have eh := b9; refine yp 17 [] (.l (h.c 1 1) (.l (h.c 1 3) (.q6 (b0.y + b0.h) .z))) <| ye <| yc (rL ((k : Nat) : Int) (b0.y + b0.h)) (fun ba => ?_) fun ba => ?_
     ·have ei := ba; rcases Int.lt_or_le b0.w 1 with aM | aM
      ·have bY : b0.w = 0 := by omega
       refine yx 1 <| ys <| ysr <| yp 3 [] (.l (h.c 1 2) .z) <| ye <| q9 <| yU 1 (yU1 ?_); refine yx 1 <| ys <| yc (rL 0 b0.w) (fun bb => ?_) fun bb => ?_
       ·have ej := bb; exfalso; omega
       have ek := bb; refine qp (eS (qd (qb (nS ?_)))); refine ysr <| yq 1 <| yo (yC (qfZ _) ?_); rintro _ u ⟨ab, ac, rfl, cG⟩; refine ⟨_, rfl, ?_⟩; have h := h.same cG; refine yz 3 <| yx 1 <| ys <| yx 3 <| q9 <| qP [5, 7, 8, 9, 11, 13, 16, 93, 94, 158, 159, 160] (f' := [(5, pX q), (7, pX C), (8, pX t), (9, pX D), (11, iX ((k : Nat) : Int)), (13, .slice ab 0 ac), (16, nX), (93, iX (qo f.g b0 g2m).h), (94, iX ((k : Nat) : Int)), (158, .slice (some ⟨d.b, 0, none⟩) d.n d.cap), (159, iX ((d.n : Nat) : Int)), (160, iX 0)]) <| qz (σ := Nat × Option Nat × Nat) (fun ⟨j, o, c⟩ => [(5, pX q), (7, pX C), (8, pX t), (9, pX D), (11, iX ((k : Nat) : Int)), (13, .slice ab 0 ac), (16, .slice (o.map at0) j c), (93, iX (qo f.g b0 g2m).h), (94, iX ((k : Nat) : Int)), (158, .slice (some ⟨d.b, 0, none⟩) d.n d.cap), (159, iX ((d.n : Nat) : Int)), (160, iX ((j : Nat) : Int))]) (fun ⟨j, o, c⟩ u => j ≤ d.n ∧ Sep w (fun _ => False) u [qW O [iX p1, iX p2] 22, qW q [iX b0.x, iX b0.y, iX b0.w, iX b0.h] 62, qW C [pX J, iX f.x, iX f.y, .bool f.hid] 30, qa4 J K L E ((qo f.g b0 g2m)), qN t (g2m), qa4 D M N H (f.g), qN U (g2m), qbO 66 6 o j c (flat (qcL b0 (qj (inE g2m (((k : Nat) : Int) - b0.y) b0.w.toNat)) d.l j))]) (fun ⟨j, o, c⟩ => d.n - j) (0, none, 0) rfl ?_ ?_
       ·exact ⟨Nat.zero_le _, h.own0 66 6⟩
       intro p u cH el cI; obtain ⟨j, o, c⟩ := p; obtain ⟨hj, h⟩ := cH; refine yx 1 <| ys <| yc (rL ((j : Nat) : Int) ((d.n : Nat) : Int)) (fun bc => ?_) fun bc => ?_
       ·have em := bc; refine yk <| ys <| q9 <| ysr <| yp 3 [] (.i ((j : Nat) : Int) (d.n) (.m (qb8 (i := ((j : Nat) : Int)) (h.giln 5 r) (by omega) (by omega)) (.m (qh (i := ((j : Nat) : Int)) (h.giln 5 r) (by omega) (by omega) 1 _ (by decide) rfl) (.m (qh (i := ((j : Nat) : Int)) (h.giln 5 r) (by omega) (by omega) 2 _ (by decide) rfl) (.m (qh (i := ((j : Nat) : Int)) (h.giln 5 r) (by omega) (by omega) 3 _ (by decide) rfl) (.m (qh (i := ((j : Nat) : Int)) (h.giln 5 r) (by omega) (by omega) 4 _ (by decide) rfl) (.m (qh (i := ((j : Nat) : Int)) (h.giln 5 r) (by omega) (by omega) 5 _ (by decide) rfl) (.e .z)))))))) <| yo (zN [rX 0, .bool false, .bool false, .bool false, iX 0, iX 0] 66 h fun u ag h => ?_); refine yq 5 <| yo (zs h 8 fun u h => ?_); refine ye <| qaa ([(5, pX q), (7, pX C), (8, pX t), (9, pX D), (11, iX ((k : Nat) : Int)), (13, .slice ab 0 ac), (16, .slice (o.map at0) j c), (18, pX ag), (93, iX (qo f.g b0 g2m).h), (94, iX ((k : Nat) : Int)), (158, .slice (some ⟨d.b, 0, none⟩) d.n d.cap), (159, iX ((d.n : Nat) : Int)), (160, iX ((j : Nat) : Int))]) (fun u => Sep w (fun _ => False) u [qW O [iX p1, iX p2] 22, qW q [iX b0.x, iX b0.y, iX b0.w, iX b0.h] 62, qW C [pX J, iX f.x, iX f.y, .bool f.hid] 30, qa4 J K L E ((qo f.g b0 g2m)), qN t (g2m), qa4 D M N H (f.g), qN U (g2m), qbO 66 6 o j c (flat (qcL b0 (qj (inE g2m (((k : Nat) : Int) - b0.y) b0.w.toNat)) d.l j)), qW ag [rX (qF b0 (qj (inE g2m (((k : Nat) : Int) - b0.y) b0.w.toNat)) d.l j).rune, .bool (qF b0 (qj (inE g2m (((k : Nat) : Int) - b0.y) b0.w.toNat)) d.l j).sty.bold, .bool (qF b0 (qj (inE g2m (((k : Nat) : Int) - b0.y) b0.w.toNat)) d.l j).sty.under, .bool (qF b0 (qj (inE g2m (((k : Nat) : Int) - b0.y) b0.w.toNat)) d.l j).sty.turned, iX (qF b0 (qj (inE g2m (((k : Nat) : Int) - b0.y) b0.w.toNat)) d.l j).sty.fore, iX (qF b0 (qj (inE g2m (((k : Nat) : Int) - b0.y) b0.w.toNat)) d.l j).sty.back] 66]) (fun en bx => ?_) (fun u h => ?_)
        ·refine ysr <| yp 5 [] (.l (h.c 1 0) .z) <| yw [169] (rM b0.x ((j : Nat) : Int)) (fun bd => ?_) fun bd => ?_
         ·have eo := bd; refine yf (f' := [(5, pX q), (7, pX C), (8, pX t), (9, pX D), (11, iX ((k : Nat) : Int)), (13, .slice ab 0 ac), (16, .slice (o.map at0) j c), (17, iX ((j : Nat) : Int)), (18, pX ag), (93, iX (qo f.g b0 g2m).h), (94, iX ((k : Nat) : Int)), (158, .slice (some ⟨d.b, 0, none⟩) d.n d.cap), (159, iX ((d.n : Nat) : Int)), (160, iX ((j : Nat) : Int)), (177, .bool (decide (((j : Nat) : Int) < (b0.x + b0.w))))]) 13 [] [5, 7, 8, 9, 11, 13, 16, 17, 18, 93, 94, 158, 159, 160, 177] (.l (h.c 1 0) (.l (h.c 1 2) (.q6 (b0.x + b0.w) .z))) <| ye <| yc (rL ((j : Nat) : Int) (b0.x + b0.w)) (fun bf => ?_) fun bf => ?_
          ·have ep := bf; exfalso; omega
          have er := bf; have h := h.nrm 8 [rX (gc d.l ((j : Nat) : Int)).rune, .bool (gc d.l ((j : Nat) : Int)).sty.bold, .bool (gc d.l ((j : Nat) : Int)).sty.under, .bool (gc d.l ((j : Nat) : Int)).sty.turned, iX (gc d.l ((j : Nat) : Int)).sty.fore, iX (gc d.l ((j : Nat) : Int)).sty.back]; refine qf (fun a ha => bx _ (h.nrm 8 [rX (qF b0 (qj (inE g2m (((k : Nat) : Int) - b0.y) b0.w.toNat)) d.l j).rune, .bool (qF b0 (qj (inE g2m (((k : Nat) : Int) - b0.y) b0.w.toNat)) d.l j).sty.bold, .bool (qF b0 (qj (inE g2m (((k : Nat) : Int) - b0.y) b0.w.toNat)) d.l j).sty.under, .bool (qF b0 (qj (inE g2m (((k : Nat) : Int) - b0.y) b0.w.toNat)) d.l j).sty.turned, iX (qF b0 (qj (inE g2m (((k : Nat) : Int) - b0.y) b0.w.toNat)) d.l j).sty.fore, iX (qF b0 (qj (inE g2m (((k : Nat) : Int) - b0.y) b0.w.toNat)) d.l j).sty.back] (e := by first | (rw [show (qF b0 (qj (inE g2m (((k : Nat) : Int) - b0.y) b0.w.toNat)) d.l j) = (gc d.l ((j : Nat) : Int)) from if_neg (fun h => by have := h.1; have := h.2; omega)]; done) | (rw [show (qF b0 (qj (inE g2m (((k : Nat) : Int) - b0.y) b0.w.toNat)) d.l j) = (gc d.l ((j : Nat) : Int)) from if_neg (fun h => by have := h.1; have := h.2; omega)]; rfl))) a (ha.kp [5, 7, 8, 9, 11, 13, 16, 18, 93, 94, 158, 159, 160]))
         have es := bd; refine yf (f' := [(5, pX q), (7, pX C), (8, pX t), (9, pX D), (11, iX ((k : Nat) : Int)), (13, .slice ab 0 ac), (16, .slice (o.map at0) j c), (17, iX ((j : Nat) : Int)), (18, pX ag), (93, iX (qo f.g b0 g2m).h), (94, iX ((k : Nat) : Int)), (158, .slice (some ⟨d.b, 0, none⟩) d.n d.cap), (159, iX ((d.n : Nat) : Int)), (160, iX ((j : Nat) : Int)), (177, .bool false)]) 13 [] [5, 7, 8, 9, 11, 13, 16, 17, 18, 93, 94, 158, 159, 160, 177] .z <| ye <| ycf ?_; have h := h.nrm 8 [rX (gc d.l ((j : Nat) : Int)).rune, .bool (gc d.l ((j : Nat) : Int)).sty.bold, .bool (gc d.l ((j : Nat) : Int)).sty.under, .bool (gc d.l ((j : Nat) : Int)).sty.turned, iX (gc d.l ((j : Nat) : Int)).sty.fore, iX (gc d.l ((j : Nat) : Int)).sty.back]; refine qf (fun a ha => bx _ (h.nrm 8 [rX (qF b0 (qj (inE g2m (((k : Nat) : Int) - b0.y) b0.w.toNat)) d.l j).rune, .bool (qF b0 (qj (inE g2m (((k : Nat) : Int) - b0.y) b0.w.toNat)) d.l j).sty.bold, .bool (qF b0 (qj (inE g2m (((k : Nat) : Int) - b0.y) b0.w.toNat)) d.l j).sty.under, .bool (qF b0 (qj (inE g2m (((k : Nat) : Int) - b0.y) b0.w.toNat)) d.l j).sty.turned, iX (qF b0 (qj (inE g2m (((k : Nat) : Int) - b0.y) b0.w.toNat)) d.l j).sty.fore, iX (qF b0 (qj (inE g2m (((k : Nat) : Int) - b0.y) b0.w.toNat)) d.l j).sty.back] (e := by first | (rw [show (qF b0 (qj (inE g2m (((k : Nat) : Int) - b0.y) b0.w.toNat)) d.l j) = (gc d.l ((j : Nat) : Int)) from if_neg (fun h => by have := h.1; have := h.2; omega)]; done) | (rw [show (qF b0 (qj (inE g2m (((k : Nat) : Int) - b0.y) b0.w.toNat)) d.l j) = (gc d.l ((j : Nat) : Int)) from if_neg (fun h => by have := h.1; have := h.2; omega)]; rfl))) a (ha.kp [5, 7, 8, 9, 11, 13, 16, 18, 93, 94, 158, 159, 160]))
        refine q7 <| yp 2 [] (.a (h.cs 8 0 6) .z) <| yo (zB [rX (qF b0 (qj (inE g2m (((k : Nat) : Int) - b0.y) b0.w.toNat)) d.l j).rune, .bool (qF b0 (qj (inE g2m (((k : Nat) : Int) - b0.y) b0.w.toNat)) d.l j).sty.bold, .bool (qF b0 (qj (inE g2m (((k : Nat) : Int) - b0.y) b0.w.toNat)) d.l j).sty.under, .bool (qF b0 (qj (inE g2m (((k : Nat) : Int) - b0.y) b0.w.toNat)) d.l j).sty.turned, iX (qF b0 (qj (inE g2m (((k : Nat) : Int) - b0.y) b0.w.toNat)) d.l j).sty.fore, iX (qF b0 (qj (inE g2m (((k : Nat) : Int) - b0.y) b0.w.toNat)) d.l j).sty.back] 66 1 h fun u et h => ?_); refine yo (zA 7 32 1 1 (j + 1) (flat (qcL b0 (qj (inE g2m (((k : Nat) : Int) - b0.y) b0.w.toNat)) d.l (j + 1))) h (Rd.all (h.b 9)) rfl (hz := qbA rfl) (hb := by simp only [maxLen]; omega) fun u cJ cK h eu => ?_); refine yq 5 <| yE (nB (nS ?_)); refine q7 <| yp 2 [] (.q6 (((j : Nat) : Int) + 1) .z) <| yE (fun a ha => cI (j + 1, cJ, cK) _ ⟨by omega, h.take 8⟩ (by show d.n - (j + 1) < d.n - j; omega) a (ha.kp [5, 7, 8, 9, 11, 13, 16, 93, 94, 158, 159, 160]))
       have ev := bc; have Q : d.n = j := by omega
       obtain ⟨ob, rfl⟩ : ∃ ob, o = some ob := by
        cases ho : o with
        | some b => exact ⟨b, rfl⟩
        | none => have := ((h.own 7).2.2.2.1 ho).1; omega
       refine qp (eS (qd (qb (nS ?_)))); refine q7 <| yq 1 <| yo (yC (qbz ob j c (qcL b0 (qj (inE g2m (((k : Nat) : Int) - b0.y) b0.w.toNat)) d.l j) _ (h.ownRd 7) ((h.newo 7) ob rfl).2 qy (by omega)) ?_); rintro _ u ⟨cL, cM, rfl, cN, cO, cP⟩; refine ⟨_, rfl, ?_⟩; have h := h.fresh (e := qbN) cN (fun g e => zi e ▸ cO) cP; subst Q; refine yq 3 <| yE (fun a ha => aa (cL, cM) _ ⟨h.take 7, by rw [show (qaR b0 g2m ((k : Nat) : Int) d.l) = qj (qcL b0 (qj (inE g2m (((k : Nat) : Int) - b0.y) b0.w.toNat)) d.l d.n) from (if_pos ⟨b8, by omega, by omega⟩ : (qaR b0 g2m ((k : Nat) : Int) d.l) = _).trans (by rw [a6])]; exact h.ownRd 8⟩ a (ha.kp [5, 7, 8, 9, 11, 12, 93, 94]))
      refine yx 1 <| ys <| ysr <| yp 3 [] (.l (h.c 1 2) .z) <| ye <| q9 <| qP [5, 7, 8, 9, 11, 12, 13, 93, 94, 122, 123] (f' := [(5, pX q), (7, pX C), (8, pX t), (9, pX D), (11, iX ((k : Nat) : Int)), (12, .slice (some ⟨d.b, 0, none⟩) d.n d.cap), (13, nX), (93, iX (qo f.g b0 g2m).h), (94, iX ((k : Nat) : Int)), (122, iX b0.w), (123, iX 0)]) <| qz (σ := Nat × Option Nat × Nat) (fun ⟨j, o, c⟩ => [(5, pX q), (7, pX C), (8, pX t), (9, pX D), (11, iX ((k : Nat) : Int)), (12, .slice (some ⟨d.b, 0, none⟩) d.n d.cap), (13, .slice (o.map at0) j c), (93, iX (qo f.g b0 g2m).h), (94, iX ((k : Nat) : Int)), (122, iX b0.w), (123, iX ((j : Nat) : Int))]) (fun ⟨j, o, c⟩ u => j ≤ b0.w.toNat ∧ Sep w (fun _ => False) u [qW O [iX p1, iX p2] 22, qW q [iX b0.x, iX b0.y, iX b0.w, iX b0.h] 62, qW C [pX J, iX f.x, iX f.y, .bool f.hid] 30, qa4 J K L E ((qo f.g b0 g2m)), qN t (g2m), qa4 D M N H (f.g), qN U (g2m), qbO 66 6 o j c (flat (inE g2m (((k : Nat) : Int) - b0.y) j))]) (fun ⟨j, o, c⟩ => b0.w.toNat - j) (0, none, 0) rfl ?_ ?_
      ·exact ⟨Nat.zero_le _, h.own0 66 6⟩
      intro p u cQ ew cR; obtain ⟨j, o, c⟩ := p; obtain ⟨hj, h⟩ := cQ; refine yx 1 <| ys <| yc (rL ((j : Nat) : Int) b0.w) (fun bg => ?_) fun bg => ?_
      ·have ex := bg; refine yk <| ys <| q9 <| yx 2 <| ysr <| yq 1 <| yo (zN [rX 0, .bool false, .bool false, .bool false, iX 0, iX 0] 66 h fun u ah h => ?_); refine yo (zs h 8 fun u h => ?_); refine ye <| qaa ([(5, pX q), (7, pX C), (8, pX t), (9, pX D), (11, iX ((k : Nat) : Int)), (12, .slice (some ⟨d.b, 0, none⟩) d.n d.cap), (13, .slice (o.map at0) j c), (15, pX ah), (93, iX (qo f.g b0 g2m).h), (94, iX ((k : Nat) : Int)), (122, iX b0.w), (123, iX ((j : Nat) : Int))]) (fun u => Sep w (fun _ => False) u [qW O [iX p1, iX p2] 22, qW q [iX b0.x, iX b0.y, iX b0.w, iX b0.h] 62, qW C [pX J, iX f.x, iX f.y, .bool f.hid] 30, qa4 J K L E ((qo f.g b0 g2m)), qN t (g2m), qa4 D M N H (f.g), qN U (g2m), qbO 66 6 o j c (flat (inE g2m (((k : Nat) : Int) - b0.y) j)), qW ah [rX (inC g2m (((k : Nat) : Int) - b0.y) j).rune, .bool (inC g2m (((k : Nat) : Int) - b0.y) j).sty.bold, .bool (inC g2m (((k : Nat) : Int) - b0.y) j).sty.under, .bool (inC g2m (((k : Nat) : Int) - b0.y) j).sty.turned, iX (inC g2m (((k : Nat) : Int) - b0.y) j).sty.fore, iX (inC g2m (((k : Nat) : Int) - b0.y) j).sty.back] 66]) (fun ey bh => ?_) (fun u h => ?_)
       ·refine ys <| zD [] h fun u h => yd (uL 0 7) [] (.l (h.gwh 4).1 .z) <| yv [133] (rL ((j : Nat) : Int) g2m.w) (fun bi => ?_) fun bi => ?_
        ·have ez := bi; refine yd (uL 7 10) [] (.l (h.c 1 1) (.q6 (((k : Nat) : Int) - b0.y) (.l (h.gwh 4).2 .z))) <| dkeep [5, 7, 8, 9, 11, 12, 13, 14, 15, 93, 94, 122, 123, 143] (f' := [(5, pX q), (7, pX C), (8, pX t), (9, pX D), (11, iX ((k : Nat) : Int)), (12, .slice (some ⟨d.b, 0, none⟩) d.n d.cap), (13, .slice (o.map at0) j c), (14, iX ((j : Nat) : Int)), (15, pX ah), (93, iX (qo f.g b0 g2m).h), (94, iX ((k : Nat) : Int)), (122, iX b0.w), (123, iX ((j : Nat) : Int)), (143, .bool (decide ((((k : Nat) : Int) - b0.y) < g2m.h)))]) <| yDe (nS ?_); refine yc (rL (((k : Nat) : Int) - b0.y) g2m.h) (fun bj => ?_) fun bj => ?_
         ·have eA := bj; refine q7 <| yp 6 [] (.l (h.c 1 1) (.q6 (((k : Nat) : Int) - b0.y) .z)) <| yo (yQ (h.look ((h.grid 4).elim fun _ hG => qiS _ _ _ (((j : Nat) : Int)) ((((k : Nat) : Int) - b0.y)) _ (qJ h.ch hT (fun _ h => h.elim)).tb hG)) fun u h => ?_); refine yo (zs h 8 fun u h => ?_); have h := h.nrm 8 [rX (atG g2m (((j : Nat) : Int)) ((((k : Nat) : Int) - b0.y))).rune, .bool (atG g2m (((j : Nat) : Int)) ((((k : Nat) : Int) - b0.y))).sty.bold, .bool (atG g2m (((j : Nat) : Int)) ((((k : Nat) : Int) - b0.y))).sty.under, .bool (atG g2m (((j : Nat) : Int)) ((((k : Nat) : Int) - b0.y))).sty.turned, iX (atG g2m (((j : Nat) : Int)) ((((k : Nat) : Int) - b0.y))).sty.fore, iX (atG g2m (((j : Nat) : Int)) ((((k : Nat) : Int) - b0.y))).sty.back]; refine yE (fun a ha => bh _ (h.nrm 8 [rX (inC g2m (((k : Nat) : Int) - b0.y) j).rune, .bool (inC g2m (((k : Nat) : Int) - b0.y) j).sty.bold, .bool (inC g2m (((k : Nat) : Int) - b0.y) j).sty.under, .bool (inC g2m (((k : Nat) : Int) - b0.y) j).sty.turned, iX (inC g2m (((k : Nat) : Int) - b0.y) j).sty.fore, iX (inC g2m (((k : Nat) : Int) - b0.y) j).sty.back] (e := by rw [show (inC g2m (((k : Nat) : Int) - b0.y) j) = (atG g2m (((j : Nat) : Int)) ((((k : Nat) : Int) - b0.y))) from (if_pos ⟨by omega, by omega⟩ : (inC g2m (((k : Nat) : Int) - b0.y) j) = _).trans (if_pos (there_iff.2 ⟨⟨by omega, by omega⟩, by omega, by omega⟩)).symm])) a (ha.kp [5, 7, 8, 9, 11, 12, 13, 15, 93, 94, 122, 123]))
         have eB := bj; have h := h.nrm 8 [rX 32, .bool false, .bool false, .bool false, iX 0, iX 0]; refine qf (fun a ha => bh _ (h.nrm 8 [rX (inC g2m (((k : Nat) : Int) - b0.y) j).rune, .bool (inC g2m (((k : Nat) : Int) - b0.y) j).sty.bold, .bool (inC g2m (((k : Nat) : Int) - b0.y) j).sty.under, .bool (inC g2m (((k : Nat) : Int) - b0.y) j).sty.turned, iX (inC g2m (((k : Nat) : Int) - b0.y) j).sty.fore, iX (inC g2m (((k : Nat) : Int) - b0.y) j).sty.back] (e := by first | (rw [show (inC g2m (((k : Nat) : Int) - b0.y) j) = (Cel.mk 32 qaD) from if_neg (fun h => by have := h.1; have := h.2; omega)]; done) | (rw [show (inC g2m (((k : Nat) : Int) - b0.y) j) = (Cel.mk 32 qaD) from if_neg (fun h => by have := h.1; have := h.2; omega)]; rfl))) a (ha.kp [5, 7, 8, 9, 11, 12, 13, 15, 93, 94, 122, 123]))
        have eC := bi; refine yd (uL 7 10) [] .z <| dkeep [5, 7, 8, 9, 11, 12, 13, 14, 15, 93, 94, 122, 123, 143] (f' := [(5, pX q), (7, pX C), (8, pX t), (9, pX D), (11, iX ((k : Nat) : Int)), (12, .slice (some ⟨d.b, 0, none⟩) d.n d.cap), (13, .slice (o.map at0) j c), (14, iX ((j : Nat) : Int)), (15, pX ah), (93, iX (qo f.g b0 g2m).h), (94, iX ((k : Nat) : Int)), (122, iX b0.w), (123, iX ((j : Nat) : Int)), (143, .bool false)]) <| yDe (nS ?_); refine ycf ?_; have h := h.nrm 8 [rX 32, .bool false, .bool false, .bool false, iX 0, iX 0]; refine qf (fun a ha => bh _ (h.nrm 8 [rX (inC g2m (((k : Nat) : Int) - b0.y) j).rune, .bool (inC g2m (((k : Nat) : Int) - b0.y) j).sty.bold, .bool (inC g2m (((k : Nat) : Int) - b0.y) j).sty.under, .bool (inC g2m (((k : Nat) : Int) - b0.y) j).sty.turned, iX (inC g2m (((k : Nat) : Int) - b0.y) j).sty.fore, iX (inC g2m (((k : Nat) : Int) - b0.y) j).sty.back] (e := by first | (rw [show (inC g2m (((k : Nat) : Int) - b0.y) j) = (Cel.mk 32 qaD) from if_neg (fun h => by have := h.1; have := h.2; omega)]; done) | (rw [show (inC g2m (((k : Nat) : Int) - b0.y) j) = (Cel.mk 32 qaD) from if_neg (fun h => by have := h.1; have := h.2; omega)]; rfl))) a (ha.kp [5, 7, 8, 9, 11, 12, 13, 15, 93, 94, 122, 123]))
       refine q7 <| yp 2 [] (.a (h.cs 8 0 6) .z) <| yo (zB [rX (inC g2m (((k : Nat) : Int) - b0.y) j).rune, .bool (inC g2m (((k : Nat) : Int) - b0.y) j).sty.bold, .bool (inC g2m (((k : Nat) : Int) - b0.y) j).sty.under, .bool (inC g2m (((k : Nat) : Int) - b0.y) j).sty.turned, iX (inC g2m (((k : Nat) : Int) - b0.y) j).sty.fore, iX (inC g2m (((k : Nat) : Int) - b0.y) j).sty.back] 66 1 h fun u eD h => ?_); refine yo (zA 7 32 1 1 (j + 1) (flat (inE g2m (((k : Nat) : Int) - b0.y) (j + 1))) h (Rd.all (h.b 9)) rfl (hz := qbA rfl) (hb := by simp only [maxLen]; omega) fun u cS cT h eE => ?_); refine yq 5 <| yE (nB (nS ?_)); refine q7 <| yp 2 [] (.q6 (((j : Nat) : Int) + 1) .z) <| yE (fun a ha => cR (j + 1, cS, cT) _ ⟨by omega, h.take 8⟩ (by show b0.w.toNat - (j + 1) < b0.w.toNat - j; omega) a (ha.kp [5, 7, 8, 9, 11, 12, 13, 93, 94, 122, 123]))
      have eF := bg; have Q : b0.w.toNat = j := by omega
      obtain ⟨ob, rfl⟩ : ∃ ob, o = some ob := by
       cases ho : o with
       | some b => exact ⟨b, rfl⟩
       | none => have := ((h.own 7).2.2.2.1 ho).1; omega
      refine qp (eS (qd (qb (nS ?_)))); refine ysr <| yq 1 <| yo (yC (qbz ob j c (inE g2m (((k : Nat) : Int) - b0.y) j) _ (h.ownRd 7) ((h.newo 7) ob rfl).2 qy (by omega)) ?_); rintro _ u ⟨a1, a2, rfl, cU, cV, cW⟩; refine ⟨_, rfl, ?_⟩; have h := h.fresh (e := qbN) cU (fun g e => zi e ▸ cV) cW; subst Q; rw [show (qj (inE g2m (((k : Nat) : Int) - b0.y) b0.w.toNat)).length = b0.w.toNat by rw [qm]; exact qy] at h; refine yz 3 <| yx 1 <| ys <| yx 3 <| q9 ?_; have h := h.pick [0, 1, 2, 3, 4, 5, 6, 8]; refine qP [5, 7, 8, 9, 11, 13, 16, 93, 94, 158, 159, 160] (f' := [(5, pX q), (7, pX C), (8, pX t), (9, pX D), (11, iX ((k : Nat) : Int)), (13, .slice (some ⟨a1, 0, none⟩) b0.w.toNat a2), (16, nX), (93, iX (qo f.g b0 g2m).h), (94, iX ((k : Nat) : Int)), (158, .slice (some ⟨d.b, 0, none⟩) d.n d.cap), (159, iX ((d.n : Nat) : Int)), (160, iX 0)]) <| qz (σ := Nat × Option Nat × Nat) (fun ⟨j, o, c⟩ => [(5, pX q), (7, pX C), (8, pX t), (9, pX D), (11, iX ((k : Nat) : Int)), (13, .slice (some ⟨a1, 0, none⟩) b0.w.toNat a2), (16, .slice (o.map at0) j c), (93, iX (qo f.g b0 g2m).h), (94, iX ((k : Nat) : Int)), (158, .slice (some ⟨d.b, 0, none⟩) d.n d.cap), (159, iX ((d.n : Nat) : Int)), (160, iX ((j : Nat) : Int))]) (fun ⟨j, o, c⟩ u => j ≤ d.n ∧ Sep w (fun _ => False) u [qW O [iX p1, iX p2] 22, qW q [iX b0.x, iX b0.y, iX b0.w, iX b0.h] 62, qW C [pX J, iX f.x, iX f.y, .bool f.hid] 30, qa4 J K L E ((qo f.g b0 g2m)), qN t (g2m), qa4 D M N H (f.g), qN U (g2m), qbO 66 6 (some a1) b0.w.toNat a2 (flat (qj (inE g2m (((k : Nat) : Int) - b0.y) b0.w.toNat))), qbO 66 6 o j c (flat (qcL b0 (qj (inE g2m (((k : Nat) : Int) - b0.y) b0.w.toNat)) d.l j))]) (fun ⟨j, o, c⟩ => d.n - j) (0, none, 0) rfl ?_ ?_
      ·exact ⟨Nat.zero_le _, h.own0 66 6⟩
      intro p u cX eG cY; obtain ⟨j, o, c⟩ := p; obtain ⟨hj, h⟩ := cX; refine yx 1 <| ys <| yc (rL ((j : Nat) : Int) ((d.n : Nat) : Int)) (fun bk => ?_) fun bk => ?_
      ·have eH := bk; refine yk <| ys <| q9 <| ysr <| yp 3 [] (.i ((j : Nat) : Int) (d.n) (.m (qb8 (i := ((j : Nat) : Int)) (h.giln 5 r) (by omega) (by omega)) (.m (qh (i := ((j : Nat) : Int)) (h.giln 5 r) (by omega) (by omega) 1 _ (by decide) rfl) (.m (qh (i := ((j : Nat) : Int)) (h.giln 5 r) (by omega) (by omega) 2 _ (by decide) rfl) (.m (qh (i := ((j : Nat) : Int)) (h.giln 5 r) (by omega) (by omega) 3 _ (by decide) rfl) (.m (qh (i := ((j : Nat) : Int)) (h.giln 5 r) (by omega) (by omega) 4 _ (by decide) rfl) (.m (qh (i := ((j : Nat) : Int)) (h.giln 5 r) (by omega) (by omega) 5 _ (by decide) rfl) (.e .z)))))))) <| yo (zN [rX 0, .bool false, .bool false, .bool false, iX 0, iX 0] 66 h fun u ai h => ?_); refine yq 5 <| yo (zs h 9 fun u h => ?_); refine ye <| qaa ([(5, pX q), (7, pX C), (8, pX t), (9, pX D), (11, iX ((k : Nat) : Int)), (13, .slice (some ⟨a1, 0, none⟩) b0.w.toNat a2), (16, .slice (o.map at0) j c), (18, pX ai), (93, iX (qo f.g b0 g2m).h), (94, iX ((k : Nat) : Int)), (158, .slice (some ⟨d.b, 0, none⟩) d.n d.cap), (159, iX ((d.n : Nat) : Int)), (160, iX ((j : Nat) : Int))]) (fun u => Sep w (fun _ => False) u [qW O [iX p1, iX p2] 22, qW q [iX b0.x, iX b0.y, iX b0.w, iX b0.h] 62, qW C [pX J, iX f.x, iX f.y, .bool f.hid] 30, qa4 J K L E ((qo f.g b0 g2m)), qN t (g2m), qa4 D M N H (f.g), qN U (g2m), qbO 66 6 (some a1) b0.w.toNat a2 (flat (qj (inE g2m (((k : Nat) : Int) - b0.y) b0.w.toNat))), qbO 66 6 o j c (flat (qcL b0 (qj (inE g2m (((k : Nat) : Int) - b0.y) b0.w.toNat)) d.l j)), qW ai [rX (qF b0 (qj (inE g2m (((k : Nat) : Int) - b0.y) b0.w.toNat)) d.l j).rune, .bool (qF b0 (qj (inE g2m (((k : Nat) : Int) - b0.y) b0.w.toNat)) d.l j).sty.bold, .bool (qF b0 (qj (inE g2m (((k : Nat) : Int) - b0.y) b0.w.toNat)) d.l j).sty.under, .bool (qF b0 (qj (inE g2m (((k : Nat) : Int) - b0.y) b0.w.toNat)) d.l j).sty.turned, iX (qF b0 (qj (inE g2m (((k : Nat) : Int) - b0.y) b0.w.toNat)) d.l j).sty.fore, iX (qF b0 (qj (inE g2m (((k : Nat) : Int) - b0.y) b0.w.toNat)) d.l j).sty.back] 66]) (fun eI bl => ?_) (fun u h => ?_)
       ·refine ysr <| yp 5 [] (.l (h.c 1 0) .z) <| yw [169] (rM b0.x ((j : Nat) : Int)) (fun bm => ?_) fun bm => ?_
        ·have eJ := bm; refine yf (f' := [(5, pX q), (7, pX C), (8, pX t), (9, pX D), (11, iX ((k : Nat) : Int)), (13, .slice (some ⟨a1, 0, none⟩) b0.w.toNat a2), (16, .slice (o.map at0) j c), (17, iX ((j : Nat) : Int)), (18, pX ai), (93, iX (qo f.g b0 g2m).h), (94, iX ((k : Nat) : Int)), (158, .slice (some ⟨d.b, 0, none⟩) d.n d.cap), (159, iX ((d.n : Nat) : Int)), (160, iX ((j : Nat) : Int)), (177, .bool (decide (((j : Nat) : Int) < (b0.x + b0.w))))]) 13 [] [5, 7, 8, 9, 11, 13, 16, 17, 18, 93, 94, 158, 159, 160, 177] (.l (h.c 1 0) (.l (h.c 1 2) (.q6 (b0.x + b0.w) .z))) <| ye <| yc (rL ((j : Nat) : Int) (b0.x + b0.w)) (fun bn => ?_) fun bn => ?_
         ·have eK := bn; refine q7 <| yp 7 [] (.l (h.c 1 0) (.q6 (((j : Nat) : Int) - b0.x) (.i (((j : Nat) : Int) - b0.x) (b0.w.toNat) (.m (qb8 (i := (((j : Nat) : Int) - b0.x)) (h.ownRd 7) (by omega) (by rw [qm]; unfold inE; rw [qy]; omega)) (.m (qh (i := (((j : Nat) : Int) - b0.x)) (h.ownRd 7) (by omega) (by rw [qm]; unfold inE; rw [qy]; omega) 1 _ (by decide) rfl) (.m (qh (i := (((j : Nat) : Int) - b0.x)) (h.ownRd 7) (by omega) (by rw [qm]; unfold inE; rw [qy]; omega) 2 _ (by decide) rfl) (.m (qh (i := (((j : Nat) : Int) - b0.x)) (h.ownRd 7) (by omega) (by rw [qm]; unfold inE; rw [qy]; omega) 3 _ (by decide) rfl) (.m (qh (i := (((j : Nat) : Int) - b0.x)) (h.ownRd 7) (by omega) (by rw [qm]; unfold inE; rw [qy]; omega) 4 _ (by decide) rfl) (.m (qh (i := (((j : Nat) : Int) - b0.x)) (h.ownRd 7) (by omega) (by rw [qm]; unfold inE; rw [qy]; omega) 5 _ (by decide) rfl) (.e .z)))))))))) <| yo (zs h 9 fun u h => ?_); have h := h.nrm 9 [rX (gc (qj (inE g2m (((k : Nat) : Int) - b0.y) b0.w.toNat)) (((j : Nat) : Int) - b0.x)).rune, .bool (gc (qj (inE g2m (((k : Nat) : Int) - b0.y) b0.w.toNat)) (((j : Nat) : Int) - b0.x)).sty.bold, .bool (gc (qj (inE g2m (((k : Nat) : Int) - b0.y) b0.w.toNat)) (((j : Nat) : Int) - b0.x)).sty.under, .bool (gc (qj (inE g2m (((k : Nat) : Int) - b0.y) b0.w.toNat)) (((j : Nat) : Int) - b0.x)).sty.turned, iX (gc (qj (inE g2m (((k : Nat) : Int) - b0.y) b0.w.toNat)) (((j : Nat) : Int) - b0.x)).sty.fore, iX (gc (qj (inE g2m (((k : Nat) : Int) - b0.y) b0.w.toNat)) (((j : Nat) : Int) - b0.x)).sty.back]
          refine yE (fun a ha => bl _ (h.nrm 9 [rX (qF b0 (qj (inE g2m (((k : Nat) : Int) - b0.y) b0.w.toNat)) d.l j).rune, .bool (qF b0 (qj (inE g2m (((k : Nat) : Int) - b0.y) b0.w.toNat)) d.l j).sty.bold, .bool (qF b0 (qj (inE g2m (((k : Nat) : Int) - b0.y) b0.w.toNat)) d.l j).sty.under, .bool (qF b0 (qj (inE g2m (((k : Nat) : Int) - b0.y) b0.w.toNat)) d.l j).sty.turned, iX (qF b0 (qj (inE g2m (((k : Nat) : Int) - b0.y) b0.w.toNat)) d.l j).sty.fore, iX (qF b0 (qj (inE g2m (((k : Nat) : Int) - b0.y) b0.w.toNat)) d.l j).sty.back] (e := by first | (rw [show (qF b0 (qj (inE g2m (((k : Nat) : Int) - b0.y) b0.w.toNat)) d.l j) = (gc (qj (inE g2m (((k : Nat) : Int) - b0.y) b0.w.toNat)) (((j : Nat) : Int) - b0.x)) from if_pos (by constructor <;> omega)]; done) | (rw [show (qF b0 (qj (inE g2m (((k : Nat) : Int) - b0.y) b0.w.toNat)) d.l j) = (gc (qj (inE g2m (((k : Nat) : Int) - b0.y) b0.w.toNat)) (((j : Nat) : Int) - b0.x)) from if_pos (by constructor <;> omega)]; rfl))) a (ha.kp [5, 7, 8, 9, 11, 13, 16, 18, 93, 94, 158, 159, 160]))
         have eL := bn; have h := h.nrm 9 [rX (gc d.l ((j : Nat) : Int)).rune, .bool (gc d.l ((j : Nat) : Int)).sty.bold, .bool (gc d.l ((j : Nat) : Int)).sty.under, .bool (gc d.l ((j : Nat) : Int)).sty.turned, iX (gc d.l ((j : Nat) : Int)).sty.fore, iX (gc d.l ((j : Nat) : Int)).sty.back]; refine qf (fun a ha => bl _ (h.nrm 9 [rX (qF b0 (qj (inE g2m (((k : Nat) : Int) - b0.y) b0.w.toNat)) d.l j).rune, .bool (qF b0 (qj (inE g2m (((k : Nat) : Int) - b0.y) b0.w.toNat)) d.l j).sty.bold, .bool (qF b0 (qj (inE g2m (((k : Nat) : Int) - b0.y) b0.w.toNat)) d.l j).sty.under, .bool (qF b0 (qj (inE g2m (((k : Nat) : Int) - b0.y) b0.w.toNat)) d.l j).sty.turned, iX (qF b0 (qj (inE g2m (((k : Nat) : Int) - b0.y) b0.w.toNat)) d.l j).sty.fore, iX (qF b0 (qj (inE g2m (((k : Nat) : Int) - b0.y) b0.w.toNat)) d.l j).sty.back] (e := by first | (rw [show (qF b0 (qj (inE g2m (((k : Nat) : Int) - b0.y) b0.w.toNat)) d.l j) = (gc d.l ((j : Nat) : Int)) from if_neg (fun h => by have := h.1; have := h.2; omega)]; done) | (rw [show (qF b0 (qj (inE g2m (((k : Nat) : Int) - b0.y) b0.w.toNat)) d.l j) = (gc d.l ((j : Nat) : Int)) from if_neg (fun h => by have := h.1; have := h.2; omega)]; rfl))) a (ha.kp [5, 7, 8, 9, 11, 13, 16, 18, 93, 94, 158, 159, 160]))
        have eM := bm; refine yf (f' := [(5, pX q), (7, pX C), (8, pX t), (9, pX D), (11, iX ((k : Nat) : Int)), (13, .slice (some ⟨a1, 0, none⟩) b0.w.toNat a2), (16, .slice (o.map at0) j c), (17, iX ((j : Nat) : Int)), (18, pX ai), (93, iX (qo f.g b0 g2m).h), (94, iX ((k : Nat) : Int)), (158, .slice (some ⟨d.b, 0, none⟩) d.n d.cap), (159, iX ((d.n : Nat) : Int)), (160, iX ((j : Nat) : Int)), (177, .bool false)]) 13 [] [5, 7, 8, 9, 11, 13, 16, 17, 18, 93, 94, 158, 159, 160, 177] .z <| ye <| ycf ?_; have h := h.nrm 9 [rX (gc d.l ((j : Nat) : Int)).rune, .bool (gc d.l ((j : Nat) : Int)).sty.bold, .bool (gc d.l ((j : Nat) : Int)).sty.under, .bool (gc d.l ((j : Nat) : Int)).sty.turned, iX (gc d.l ((j : Nat) : Int)).sty.fore, iX (gc d.l ((j : Nat) : Int)).sty.back]; refine qf (fun a ha => bl _ (h.nrm 9 [rX (qF b0 (qj (inE g2m (((k : Nat) : Int) - b0.y) b0.w.toNat)) d.l j).rune, .bool (qF b0 (qj (inE g2m (((k : Nat) : Int) - b0.y) b0.w.toNat)) d.l j).sty.bold, .bool (qF b0 (qj (inE g2m (((k : Nat) : Int) - b0.y) b0.w.toNat)) d.l j).sty.under, .bool (qF b0 (qj (inE g2m (((k : Nat) : Int) - b0.y) b0.w.toNat)) d.l j).sty.turned, iX (qF b0 (qj (inE g2m (((k : Nat) : Int) - b0.y) b0.w.toNat)) d.l j).sty.fore, iX (qF b0 (qj (inE g2m (((k : Nat) : Int) - b0.y) b0.w.toNat)) d.l j).sty.back] (e := by first | (rw [show (qF b0 (qj (inE g2m (((k : Nat) : Int) - b0.y) b0.w.toNat)) d.l j) = (gc d.l ((j : Nat) : Int)) from if_neg (fun h => by have := h.1; have := h.2; omega)]; done) | (rw [show (qF b0 (qj (inE g2m (((k : Nat) : Int) - b0.y) b0.w.toNat)) d.l j) = (gc d.l ((j : Nat) : Int)) from if_neg (fun h => by have := h.1; have := h.2; omega)]; rfl))) a (ha.kp [5, 7, 8, 9, 11, 13, 16, 18, 93, 94, 158, 159, 160]))
       refine q7 <| yp 2 [] (.a (h.cs 9 0 6) .z) <| yo (zB [rX (qF b0 (qj (inE g2m (((k : Nat) : Int) - b0.y) b0.w.toNat)) d.l j).rune, .bool (qF b0 (qj (inE g2m (((k : Nat) : Int) - b0.y) b0.w.toNat)) d.l j).sty.bold, .bool (qF b0 (qj (inE g2m (((k : Nat) : Int) - b0.y) b0.w.toNat)) d.l j).sty.under, .bool (qF b0 (qj (inE g2m (((k : Nat) : Int) - b0.y) b0.w.toNat)) d.l j).sty.turned, iX (qF b0 (qj (inE g2m (((k : Nat) : Int) - b0.y) b0.w.toNat)) d.l j).sty.fore, iX (qF b0 (qj (inE g2m (((k : Nat) : Int) - b0.y) b0.w.toNat)) d.l j).sty.back] 66 1 h fun u eN h => ?_); refine yo (zA 8 32 1 1 (j + 1) (flat (qcL b0 (qj (inE g2m (((k : Nat) : Int) - b0.y) b0.w.toNat)) d.l (j + 1))) h (Rd.all (h.b 10)) rfl (hz := qbA rfl) (hb := by simp only [maxLen]; omega) fun u cZ d0 h eO => ?_); refine yq 5 <| yE (nB (nS ?_)); refine q7 <| yp 2 [] (.q6 (((j : Nat) : Int) + 1) .z) <| yE (fun a ha => cY (j + 1, cZ, d0) _ ⟨by omega, h.take 9⟩ (by show d.n - (j + 1) < d.n - j; omega) a (ha.kp [5, 7, 8, 9, 11, 13, 16, 93, 94, 158, 159, 160]))
      have eP := bk; have Q : d.n = j := by omega
      obtain ⟨ob, rfl⟩ : ∃ ob, o = some ob := by
       cases ho : o with
       | some b => exact ⟨b, rfl⟩
       | none => have := ((h.own 8).2.2.2.1 ho).1; omega
      refine qp (eS (qd (qb (nS ?_)))); refine q7 <| yq 1 <| yo (yC (qbz ob j c (qcL b0 (qj (inE g2m (((k : Nat) : Int) - b0.y) b0.w.toNat)) d.l j) _ (h.ownRd 8) ((h.newo 8) ob rfl).2 qy (by omega)) ?_); rintro _ u ⟨d1, d2, rfl, d3, d4, d5⟩; refine ⟨_, rfl, ?_⟩; have h := h.fresh (e := qbN) d3 (fun g e => zi e ▸ d4) d5; subst Q; refine yq 3 <| yE (fun a ha => aa (d1, d2) _ ⟨h.take 7, by rw [show (qaR b0 g2m ((k : Nat) : Int) d.l) = qj (qcL b0 (qj (inE g2m (((k : Nat) : Int) - b0.y) b0.w.toNat)) d.l d.n) from (if_pos ⟨b8, by omega, by omega⟩ : (qaR b0 g2m ((k : Nat) : Int) d.l) = _).trans (by rw [a6])]; exact h.ownRd 9⟩ a (ha.kp [5, 7, 8, 9, 11, 12, 93, 94]))
     have eQ := ba; refine qf (fun a ha => aa (d.b, d.cap) _ ⟨h.take 7, by rw [show (qaR b0 g2m ((k : Nat) : Int) d.l) = d.l from if_neg (fun h => by have := h.2; omega)]; exact h.giln 5 r⟩ a (ha.kp [5, 7, 8, 9, 11, 12, 93, 94]))
    have eR := b9; refine yz 17 <| ycf <| qf (fun a ha => aa (d.b, d.cap) _ ⟨h.take 7, by rw [show (qaR b0 g2m ((k : Nat) : Int) d.l) = d.l from if_neg (fun h => by have := h.2; omega)]; exact h.giln 5 r⟩ a (ha.kp [5, 7, 8, 9, 11, 12, 93, 94]))
   have d6 := b7; refine yz 17 <| ycf <| qf (fun a ha => aa (d.b, d.cap) _ ⟨h.take 7, by rw [show (qaR b0 g2m ((k : Nat) : Int) d.l) = d.l from if_neg (fun h => Bool.false_ne_true (d6.symm.trans h.1))]; exact h.giln 5 r⟩ a (ha.kp [5, 7, 8, 9, 11, 12, 93, 94]))
  obtain ⟨wb, wc⟩ := gs; obtain ⟨h, aZ⟩ := h; refine ysr <| yp 9 [] (.l (h.c 2 0) (.l (h.gic 3 2) (.i ((k : Nat) : Int) (E.length) (.l (h.girow 3 P) .z)))) <| yo (yQ (h.look (qfJ G.b wb G.cap wc G.l (qaR b0 g2m ((k : Nat) : Int) d.l) _ (h.giln 3 P) aZ (by simp only [maxLen]; omega) (by omega) aH)) fun u h => ?_); refine yq 12 <| yw [203] (rN (rY (eqLB G.l (qaR b0 g2m ((k : Nat) : Int) d.l)))) (fun bo => ?_) fun bo => ?_
  ·have d7 := bo; exact absurd (qh2 S.1) (by rw [d7]; decide)
  have eT := bo; refine yp 20 [] (.l (h.c 2 0) (.l (h.gic 3 2) (.i ((k : Nat) : Int) (E.length) (.l (h.girow 3 P) .z)))) <| yo (yQ (h.look (qfY G.b G.n G.cap G.l _ (qJ h.ch hT (fun _ h => h.elim)).tb (h.giln 3 P) ((h.gI 3 rfl).elim fun _ hI => (hI.line G (List.mem_of_getElem? P)).1.lt) aE (by omega))) fun u h => ?_); refine yz 23 <| yc (rN (rY (qcd G.l))) (fun bp => ?_) fun bp => ?_
  ·have d8 := bp; exact Bool.noConfusion (S.2.symm.trans d8)
  have eU := bp; refine qf (nB (nS ?_)); refine q7 <| yp 2 [] (.q6 (((k : Nat) : Int) + 1) .z) <| yE (fun a ha => cF (k + 1) _ ⟨by omega, h.take 7⟩ (by show f.g.h.toNat - (k + 1) < f.g.h.toNat - k; omega) a (ha.kp [5, 7, 8, 9, 93, 94]))
 have eV := b6; refine qp (eS (qd (qb (nS ?_)))); refine yx 1 <| q8 (yR1 (.bool true) ?_); exact ⟨rfl, h.ch⟩
theorem qf3 (p1 p2 : Int) (a : Option Addr) (c : Nat) (b0 : Bx) (w : World) (hT : LT w) (h7 : gTop ≤ w.heap.size) : Calls Tryz.prog 7 [.agg #[iX p1, iX p2], .slice a 0 c, .agg #[iX b0.x, iX b0.y, iX b0.w, iX b0.h]].toArray w fun e w' => e = .returned (.bool true) ∧ Ch (fun _ => False) w w' := by
 have b := qc9 p1; have d := qc9 p2; have h := Sep.nil w; refine yA Tryz.func7 rfl <| ysr <| yo (zN [iX p1, iX p2] 22 h fun u f h => ?_); refine yo (zN [iX b0.x, iX b0.y, iX b0.w, iX b0.h] 62 h fun u g h => ?_); refine yz 3 <| ys <| ysr <| yo (yQ (h.look (qfR _ (qJ h.ch hT (fun _ h => h.elim)) (Nat.le_trans h7 h.ch.size))) fun u h => ?_); refine yz 2 <| ycf <| yk <| ys <| ysr <| yq 1 <| yo (yQ (h.look (qi9 a c _)) fun u h => ?_); refine yz 8 <| yct <| yx 1 <| q8 (rS (yR1 (.bool true) ?_)); exact ⟨rfl, h.ch⟩
theorem paints22_any (p1 p2 : Int) (a : Option Addr) (n c : Nat) (ls : List Lk) (b0 : Bx) (w : World) (hT : LT w) (h7 : gTop ≤ w.heap.size) (ha : n = 0 ∨ ∃ b off, a = some ⟨b, off, none⟩) (hr : Rd w a (lkV ls)) (hn : ls.length = n) (hlk : ∀ y ∈ ls, ∃ l : List Cel, (y.n = 0 ∨ ∃ b off, y.a = some ⟨b, off, none⟩) ∧ Rd w y.a (flat l) ∧ l.length = y.n) (hmx : n ≤ 9223372036854775807) : Calls Tryz.prog 7 [.agg #[iX p1, iX p2], .slice a n c, .agg #[iX b0.x, iX b0.y, iX b0.w, iX b0.h]].toArray w fun e w' => e = .returned (.bool true) ∧ Ch (fun _ => False) w w' := by
 subst hn; by_cases d : ls.length = 0
 ·rw [d]; exact qf3 p1 p2 a c b0 w hT h7
 obtain ⟨b, off, rfl⟩ := ha.resolve_left d; exact qf2 p1 p2 b off c ls b0 w hT h7 hr hlk hmx
end Go.Proofs.YtjklgjjgndalcaaGreatDoor.X
namespace Go.Proofs.YtjklgjjgndalcaaGreatDoor
open Go.ChangeShapes Go.WideShapes Go.ChangeAt Go.RowKit
theorem qgA : ownKnob Tryz.prog.godebug = none := by kernel_rfl
abbrev qif : List (String × DataW Unit) := [("flipbook/glyph.wide", Rows.laid_flipbook_glyph_wide), ("flipbook/glyph.signs", Rows.laid_flipbook_glyph_signs), ("math/bits.deBruijn32tab", Rows.laid_math_bits_deBruijn32tab), ("math/bits.deBruijn64tab", Rows.laid_math_bits_deBruijn64tab), ("internal/strconv.uint64pow10", Rows.laid_internal_strconv_uint64pow10), ("unicode/utf8.acceptRanges", Rows.laid_unicode_utf8_acceptRanges), ("unicode/utf8.first", Rows.laid_unicode_utf8_first)]
theorem doorMet (os : Os) (args : Array Value) : laidMetH Tryz.prog qif ((World.laidAll Tryz.prog os qif).forCall (fun _ _ => 0) ⟨#[], args, []⟩).memory := by
 rw [MakeChecks.laidMetH_plain _ _ _ (by kernel_rfl)]; exact laidMet_laidAll _ (by kernel_rfl) (by kernel_rfl)
theorem qig (os : Os) : (World.laidAll Tryz.prog os qif).Shaped Tryz.prog := World.shaped_of_ZipB (by kernel_rfl) (by kernel_rfl)
theorem qbi {W : World} {g n t : Nat} {k : IntKind} {e : TypeId} (he : Tryz.prog.underlying e = some (.int k)) (ce : Tryz.prog.cellsOf e = 1) {name : String} {cs : Array Value} {fuel : Nat} {l : List Int} {q : List MemPlace} (hg : Tryz.prog.globalNamed name = some g) (hv : W.var? Tryz.prog name = some cs)
  (hd : DataW.trod (H := Unit) (fun _ => ()) Tryz.prog W 0 (fun _ => true) false fuel t cs.toList = some (.agg (l.map fun n => .lit (.int k n)), q))
  (ht : Tryz.prog.underlying t = some (.array n e)) (hl : l.length = n) : ∀ r, r < l.length → W.cell? ⟨g, r, none⟩ = some (.int k (l.getD r 0)) := by
 obtain ⟨xs, m, _, ex, _, hlx, hel⟩ := DataW.trod_array ht hd
 intro r hr
 have hE := hel r (by omega)
 rw [ce, Nat.mul_one, List.getElem?_eq_getElem (by omega)] at hE
 obtain ⟨z, e1, e2, _⟩ := DataW.trod_int he hE
 have e3 : (xs.map (·.1)) = l.map fun n => .lit (.int k n) := (DataW.agg.inj (Prod.mk.inj ex).1).symm
 have e4 : (xs.map (·.1))[r]? = (l.map fun n => (DataW.lit (.int k n) : DataW Unit))[r]? := by rw [e3]
 rw [List.getElem?_map, List.getElem?_map, List.getElem?_eq_getElem (by omega : r < xs.length), List.getElem?_eq_getElem (by omega : r < l.length), e2] at e4
 have hz : z = l.getD r 0 := by
  simp only [Option.map_some, Option.some.injEq, DataW.lit.injEq, Lit.int.injEq, true_and] at e4
  rw [e4, List.getD, List.getElem?_eq_getElem (by omega : r < l.length)]; rfl
 rw [World.var?_cell hg hv r, ← hz]
 have : cs.toList[r]? = some (.int k z) := by
  have h0 : ((cs.toList.drop r).take 1)[0]? = some (.int k z) := by rw [e1]; rfl
  simpa using h0
 simpa using this
theorem qf4 {W : World} {g n t e u : Nat} {k : IntKind} {fs : Array Field} (hs : Tryz.prog.underlying e = some (.struct fs)) (h0 : ∃ f, fs[0]? = some f ∧ f.type = u ∧ f.offset = 0) (h1 : ∃ f, fs[1]? = some f ∧ f.type = u ∧ f.offset = 1) (hz : fs.size = 2) (hu : Tryz.prog.underlying u = some (.int k)) (ce : Tryz.prog.cellsOf e = 2) (cu : Tryz.prog.cellsOf u = 1)
  {name : String} {cs : Array Value} {fuel : Nat} {l : List (Int × Int)} {q : List MemPlace} (hg : Tryz.prog.globalNamed name = some g) (hv : W.var? Tryz.prog name = some cs)
  (hd : DataW.trod (H := Unit) (fun _ => ()) Tryz.prog W 0 (fun _ => true) false fuel t cs.toList = some (.agg (l.map fun p => .agg [.lit (.int k p.1), .lit (.int k p.2)]), q))
  (ht : Tryz.prog.underlying t = some (.array n e)) (hl : l.length = n) : ∀ r p, l[r]? = some p → W.cell? ⟨g, r * 2, none⟩ = some (.int k p.1) ∧ W.cell? ⟨g, r * 2 + 1, none⟩ = some (.int k p.2) := by
 obtain ⟨xs, m, _, ex, _, hlx, hel⟩ := DataW.trod_array ht hd
 intro r p hp
 have hr : r < l.length := (List.getElem?_eq_some_iff.1 hp).1
 have hE := hel r (by omega)
 rw [ce, List.getElem?_eq_getElem (by omega)] at hE
 have e3 : (xs.map (·.1)) = l.map fun p => .agg [.lit (.int k p.1), .lit (.int k p.2)] := (DataW.agg.inj (Prod.mk.inj ex).1).symm
 have e4 : (xs.map (·.1))[r]? = (l.map fun p => (DataW.agg [.lit (.int k p.1), .lit (.int k p.2)] : DataW Unit))[r]? := by rw [e3]
 rw [List.getElem?_map, List.getElem?_map, List.getElem?_eq_getElem (by omega : r < xs.length), hp] at e4
 simp only [Option.map_some, Option.some.injEq] at e4
 obtain ⟨ys, m2, _, ey, _, hly, hfy⟩ := DataW.trod_struct hs hE
 rw [ey] at e4
 have e5 := DataW.agg.inj e4
 obtain ⟨f0, hf0, t0, o0⟩ := h0
 obtain ⟨f1, hf1, t1, o1⟩ := h1
 have k0 := hfy 0 f0 hf0
 have k1 := hfy 1 f1 hf1
 rw [t0, o0, cu, List.drop_zero, List.take_take] at k0
 rw [t1, o1, cu] at k1
 have hy : ys.length = 2 := by rw [hly, hz]
 rw [List.getElem?_eq_getElem (by omega)] at k0 k1
 obtain ⟨z0, a0, b0, _⟩ := DataW.trod_int hu k0
 obtain ⟨z1, a1, b1, _⟩ := DataW.trod_int hu k1
 have c0 : (ys.map (·.1))[0]? = some (.lit (.int k p.1)) := by rw [e5]; rfl
 have c1 : (ys.map (·.1))[1]? = some (.lit (.int k p.2)) := by rw [e5]; rfl
 rw [List.getElem?_map, List.getElem?_eq_getElem (by omega), b0] at c0
 rw [List.getElem?_map, List.getElem?_eq_getElem (by omega), b1] at c1
 simp only [Option.map_some, Option.some.injEq, DataW.lit.injEq, Lit.int.injEq, true_and] at c0 c1
 subst c0 c1
 have d0 : cs.toList[r * 2]? = some (.int k p.1) := by
  have h0 : ((cs.toList.drop (r * 2)).take (min 1 2))[0]? = some (.int k p.1) := by rw [a0]; rfl
  simpa using h0
 have d1 : cs.toList[r * 2 + 1]? = some (.int k p.2) := by
  have h0 : ((((cs.toList.drop (r * 2)).take 2).drop 1).take 1)[0]? = some (.int k p.2) := by rw [a1]; rfl
  simpa using h0
 exact ⟨by rw [World.var?_cell hg hv]; simpa using d0, by rw [World.var?_cell hg hv]; simpa using d1⟩
def firstL : List Int := (List.range 256).map X.firstN
def accL : List (Int × Int) := (List.range 16).map X.accN
theorem qf5 {c : Nat} (h : c < 256) : firstL.length = 256 ∧ firstL.getD c 0 = X.firstN c := by
 have e : firstL.length = 256 := by simp [firstL]
 refine ⟨e, ?_⟩
 rw [List.getD, firstL, List.getElem?_map, List.getElem?_range h]; rfl
theorem acc_at {i : Nat} (h : i < 16) : accL[i]? = some (X.accN i) := by
 rw [accL, List.getElem?_map, List.getElem?_range h]; rfl
set_option maxRecDepth 100000 in
theorem qih {W : World} (h : laidMetH Tryz.prog qif W) : X.LT W := by
 rw [MakeChecks.laidMetH_plain _ _ _ (by kernel_rfl)] at h
 obtain ⟨ps, ⟨g0, t0, cs0, f0, p0, q0, hg0, ht0, hv0, hd0, ⟨g1, t1, cs1, f1, p1, q1, hg1, ht1, hv1, hd1, ⟨g2, t2, cs2, f2, p2, q2, hg2, ht2, hv2, hd2, ⟨g3, t3, cs3, f3, p3, q3, hg3, ht3, hv3, hd3, ⟨g4, t4, cs4, f4, p4, q4, hg4, ht4, hv4, hd4, ⟨g5, t5, cs5, f5, p5, q5, hg5, ht5, hv5, hd5, ⟨g6, t6, cs6, f6, p6, q6, hg6, ht6, hv6, hd6, _, _⟩, _⟩, _⟩, _⟩, _⟩, _⟩, _⟩, _, _⟩ := h
 obtain rfl := Option.some.inj ((show Tryz.prog.globalNamed "flipbook/glyph.wide" = some 0 by kernel_rfl).symm.trans hg0)
 obtain rfl := Option.some.inj ((show Tryz.prog.globalNamed "flipbook/glyph.signs" = some 3 by kernel_rfl).symm.trans hg1)
 obtain rfl := Option.some.inj ((show Tryz.prog.globalNamed "internal/strconv.uint64pow10" = some 4 by kernel_rfl).symm.trans hg4)
 obtain rfl := Option.some.inj ((show Tryz.prog.globalNamed "unicode/utf8.acceptRanges" = some 2 by kernel_rfl).symm.trans hg5)
 obtain rfl := Option.some.inj ((show Tryz.prog.globalNamed "unicode/utf8.first" = some 1 by kernel_rfl).symm.trans hg6)
 obtain rfl := Option.some.inj ((show (Tryz.prog.globals[0]?).map (·.type) = some 117 by kernel_rfl).symm.trans ht0)
 obtain rfl := Option.some.inj ((show (Tryz.prog.globals[3]?).map (·.type) = some 156 by kernel_rfl).symm.trans ht1)
 obtain rfl := Option.some.inj ((show (Tryz.prog.globals[4]?).map (·.type) = some 170 by kernel_rfl).symm.trans ht4)
 obtain rfl := Option.some.inj ((show (Tryz.prog.globals[2]?).map (·.type) = some 155 by kernel_rfl).symm.trans ht5)
 obtain rfl := Option.some.inj ((show (Tryz.prog.globals[1]?).map (·.type) = some 152 by kernel_rfl).symm.trans ht6)
 have z6 : Rows.laid_unicode_utf8_first = .agg (firstL.map fun n => .lit (.int .u8 n)) := by kernel_rfl
 rw [z6] at hd6
 have z5 : (Rows.laid_unicode_utf8_acceptRanges : DataW Unit) = .agg (accL.map fun p => .agg [.lit (.int .u8 p.1), .lit (.int .u8 p.2)]) := by kernel_rfl
 rw [z5] at hd5
 refine ⟨⟨qbi (k := .i32) (e := 21) (by kernel_rfl) (by kernel_rfl) hg0 hv0 hd0 (by kernel_rfl) rfl, qbi (k := .i32) (e := 21) (by kernel_rfl) (by kernel_rfl) hg1 hv1 hd1 (by kernel_rfl) rfl⟩, ⟨fun c hc => ?_, fun i hi => ?_⟩, fun i hi => ?_⟩
 ·have := qbi (k := .u8) (e := 5) (by kernel_rfl) (by kernel_rfl) hg6 hv6 hd6 (by kernel_rfl) (qf5 hc).1 c (by rw [(qf5 hc).1]; exact hc)
  rw [(qf5 hc).2] at this; exact this
 ·exact qf4 (k := .u8) (e := 154) (u := 5) Tryz.underlying154 ⟨_, rfl, rfl, rfl⟩ ⟨_, rfl, rfl, rfl⟩ rfl Tryz.underlying5 (by kernel_rfl) (by kernel_rfl) hg5 hv5 hd5 Tryz.underlying155 (by simp [accL]) i _ (acc_at hi)
 ·have h1 := qbi (k := .u64) (e := 149) (l := [1, 10, 100, 1000, 10000, 100000, 1000000, 10000000, 100000000, 1000000000, 10000000000, 100000000000, 1000000000000, 10000000000000, 100000000000000, 1000000000000000, 10000000000000000, 100000000000000000, 1000000000000000000, 10000000000000000000]) (by kernel_rfl) (by kernel_rfl) hg4 hv4 hd4 (by kernel_rfl) rfl i (Nat.lt_of_lt_of_le hi (by decide))
  rw [h1]
  obtain rfl | rfl | rfl : i = 0 ∨ i = 1 ∨ i = 2 := by omega
  all_goals rfl
end Go.Proofs.YtjklgjjgndalcaaGreatDoor
namespace Go.Proofs.YtjklgjjgndalcaaGreatDoor
open Go.ChangeShapes Go.WideShapes Go.ChangeAt Go.RowKit
section
variable {H : Type} {enc : TypeId × Value → H} {P : Program} {w : World} {base : Nat} {spare : Nat → Bool} {held : Bool}
theorem qa7 {α : Type} {l : List α} {i : Nat} {x : α} (h : (l.drop i).take 1 = [x]) : l[i]? = some x := by
 have h0 : ((l.drop i).take 1)[0]? = some x := by rw [h]; rfl
 simpa using h0
theorem qjO {r : Reach} {b0 : Nat} {t e : TypeId} {k : IntKind} {v : Value} {d : DataW H} {ps : List MemPlace} (ht : P.underlying t = some (.array 2 e)) (he : P.underlying e = some (.int k)) (ce : P.cellsOf e = 1) (ct : P.cellsOf t = 2)
  (hval : Value.okWide P w r b0 t v) (hd : DataW.Trod enc P w base spare held t v d ps) :
  ∃ a b, v = .agg #[.int k a, .int k b] ∧ d = .agg [.lit (.int k a), .lit (.int k b)] ∧ ps = [] ∧ (Lit.int k a).wf = true ∧ (Lit.int k b).wf = true := by
 obtain ⟨cs, rfl, hs, _⟩ : ∃ cs, v = .agg cs ∧ cs.size = 2 ∧ True := by
  unfold Value.okWide at hval
  rw [ht] at hval
  obtain ⟨cs, h1, h2, _⟩ := hval
  exact ⟨cs, h1, by rw [h2, ct], trivial⟩
 obtain ⟨fuel, hf⟩ := hd
 obtain ⟨xs, m, _, ex, _, hlx, hel⟩ := DataW.trod_array ht hf
 have k0 := hel 0 (by omega)
 have k1 := hel 1 (by omega)
 rw [ce, List.getElem?_eq_getElem (by omega)] at k0 k1
 obtain ⟨a, a0, b0, w0⟩ := DataW.trod_int he k0
 obtain ⟨b, a1, b1, w1⟩ := DataW.trod_int he k1
 have c0 := qa7 a0
 have c1 := qa7 a1
 simp only [Value.cells, Nat.zero_mul, Nat.one_mul] at c0 c1
 have hcs : cs = #[.int k a, .int k b] := by
  apply Array.ext'
  match hl : cs.toList, (show cs.toList.length = 2 by simpa using hs) with
  | [x, y], _ =>
   rw [hl] at c0 c1
   simp at c0 c1
   rw [c0, c1]
 have hxs : xs = [(.lit (.int k a), []), (.lit (.int k b), [])] := by
  match xs, hlx with
  | [x, y], _ =>
   simp at b0 b1
   rw [b0, b1]
 subst hcs hxs
 have e1 := (Prod.mk.inj ex)
 exact ⟨a, b, rfl, by simpa using e1.1, by simpa using e1.2, w0, w1⟩
theorem qjP {t e : TypeId} {k : IntKind} {a b : Int} (ht : P.underlying t = some (.array 2 e)) (he : P.underlying e = some (.int k)) (ce : P.cellsOf e = 1) (ct : P.cellsOf t = 2) (wa : (Lit.int k a).wf = true) (wb : (Lit.int k b).wf = true) :
  DataW.Trod enc P w base spare held t (.agg #[.int k a, .int k b]) (.agg [.lit (.int k a), .lit (.int k b)]) [] :=
 ⟨2, by simp [DataW.trod, Value.cells, ht, he, ce, ct, wa, wb, List.range_succ]⟩
end
theorem qgB {w w' : World} (h : X.Ch (fun _ => False) w w') : Below w.heap.size w w' := ⟨h.os, h.tape, h.output, h.size, fun k hk => h.block k hk id⟩
theorem qgC {W : World} (h : laidMetH Tryz.prog qif W) : X.gTop ≤ W.heap.size := by
 rw [MakeChecks.laidMetH_plain _ _ _ (by kernel_rfl)] at h
 obtain ⟨ps, ⟨g0, t0, cs0, f0, p0, q0, hg0, ht0, hv0, hd0, ⟨g1, t1, cs1, f1, p1, q1, hg1, ht1, hv1, hd1, ⟨g2, t2, cs2, f2, p2, q2, hg2, ht2, hv2, hd2, ⟨g3, t3, cs3, f3, p3, q3, hg3, ht3, hv3, hd3, _, _⟩, _⟩, _⟩, _⟩, _, _⟩ := h
 obtain rfl := Option.some.inj ((show Tryz.prog.globalNamed "math/bits.deBruijn64tab" = some 6 by kernel_rfl).symm.trans hg3)
 obtain rfl := Option.some.inj ((show (Tryz.prog.globals[6]?).map (·.type) = some 176 by kernel_rfl).symm.trans ht3)
 obtain ⟨xs, m, _, _, hlen, _⟩ := DataW.trod_array Tryz.underlying176 hd3
 have hl : cs3.toList.length = 64 := hlen.trans (by kernel_rfl)
 have hc := World.var?_cell hg3 hv3 0
 have : ∃ v, cs3[0]? = some v := ⟨_, Array.getElem?_eq_getElem (by simpa using (show 0 < cs3.toList.length by omega))⟩
 obtain ⟨v, hv⟩ := this
 rw [hv] at hc
 have := X.cell_lt hc
 show 7 ≤ _
 omega
end Go.Proofs.YtjklgjjgndalcaaGreatDoor

namespace Go.Proofs.YtjklgjjgndalcaaGreatDoor
open Go.ChangeShapes Go.WideShapes Go.ChangeAt Go.RowKit
section
variable {H : Type} {enc : TypeId × Value → H} {w : World} {base : Nat}
set_option maxRecDepth 100000 in
theorem qgD {spare : Nat → Bool} {held : Bool} {n : Nat} {cs : List Value} {x : DataW H × List MemPlace} (h : DataW.trod enc Tryz.prog w base spare held n 33 cs = some x) (hl : cs.length = 5) : ∃ y : X.Sty, cs = y.vals := by
 obtain ⟨xs, m, _, _, _, hlx, hf⟩ := DataW.trod_struct Tryz.underlying33 h
 have c1 : Tryz.prog.cellsOf 4 = 1 := by kernel_rfl
 have c2 : Tryz.prog.cellsOf 3 = 1 := by kernel_rfl
 have k0 : DataW.trod enc Tryz.prog w base spare held m 4 ((cs.drop 0).take (Tryz.prog.cellsOf 4)) = xs[0]? := hf 0 _ rfl
 have k1 : DataW.trod enc Tryz.prog w base spare held m 4 ((cs.drop 1).take (Tryz.prog.cellsOf 4)) = xs[1]? := hf 1 _ rfl
 have k2 : DataW.trod enc Tryz.prog w base spare held m 4 ((cs.drop 2).take (Tryz.prog.cellsOf 4)) = xs[2]? := hf 2 _ rfl
 have k3 : DataW.trod enc Tryz.prog w base spare held m 3 ((cs.drop 3).take (Tryz.prog.cellsOf 3)) = xs[3]? := hf 3 _ rfl
 have k4 : DataW.trod enc Tryz.prog w base spare held m 3 ((cs.drop 4).take (Tryz.prog.cellsOf 3)) = xs[4]? := hf 4 _ rfl
 rw [c1] at k0 k1 k2
 rw [c2] at k3 k4
 have hlx5 : xs.length = 5 := hlx
 rw [List.getElem?_eq_getElem (by omega)] at k0 k1 k2 k3 k4
 obtain ⟨b0, a0, _⟩ := DataW.trod_bool Tryz.underlying4 k0
 obtain ⟨b1, a1, _⟩ := DataW.trod_bool Tryz.underlying4 k1
 obtain ⟨b2, a2, _⟩ := DataW.trod_bool Tryz.underlying4 k2
 obtain ⟨b3, a3, _⟩ := DataW.trod_int Tryz.underlying3 k3
 obtain ⟨b4, a4, _⟩ := DataW.trod_int Tryz.underlying3 k4
 have g0 := qa7 a0
 have g1 := qa7 a1
 have g2 := qa7 a2
 have g3 := qa7 a3
 have g4 := qa7 a4
 refine ⟨⟨b0, b1, b2, b3, b4⟩, ?_⟩
 match cs, hl with
 | [u0, u1, u2, u3, u4], _ =>
  simp only [List.getElem?_cons_zero, List.getElem?_cons_succ, Option.some.injEq] at g0 g1 g2 g3 g4
  rw [g0, g1, g2, g3, g4]; rfl
set_option maxRecDepth 100000 in
theorem qii {spare : Nat → Bool} {held : Bool} {n : Nat} {cs : List Value} {x : DataW H × List MemPlace} (h : DataW.trod enc Tryz.prog w base spare held n 66 cs = some x) (hl : cs.length = 6) : ∃ y : X.Cel, cs = y.vals := by
 obtain ⟨xs, m, _, _, _, hlx, hf⟩ := DataW.trod_struct Tryz.underlying66 h
 have c1 : Tryz.prog.cellsOf 21 = 1 := by kernel_rfl
 have c2 : Tryz.prog.cellsOf 33 = 5 := by kernel_rfl
 have k0 : DataW.trod enc Tryz.prog w base spare held m 21 ((cs.drop 0).take (Tryz.prog.cellsOf 21)) = xs[0]? := hf 0 _ rfl
 have k1 : DataW.trod enc Tryz.prog w base spare held m 33 ((cs.drop 1).take (Tryz.prog.cellsOf 33)) = xs[1]? := hf 1 _ rfl
 rw [c1] at k0
 rw [c2] at k1
 have hlx2 : xs.length = 2 := hlx
 rw [List.getElem?_eq_getElem (by omega)] at k0 k1
 obtain ⟨r, a0, _⟩ := DataW.trod_int Tryz.underlying21 k0
 obtain ⟨s, a1⟩ := qgD k1 (by rw [List.length_take, List.length_drop, hl]; rfl)
 have g0 := qa7 a0
 refine ⟨⟨r, s⟩, ?_⟩
 match cs, hl with
 | [u0, u1, u2, u3, u4, u5], _ =>
  simp only [List.getElem?_cons_zero, Option.some.injEq] at g0
  have a1' : [u1, u2, u3, u4, u5] = s.vals := a1
  rw [g0, a1']; rfl
set_option maxRecDepth 100000 in
theorem qij {n0 : Nat} {v : Value} {x : DataW H × List MemPlace} (hf : DataW.trod enc Tryz.prog w base (fun _ => true) true n0 49 [v] = some x) :
  ∃ (a : Option Addr) (n c : Nat) (l : List X.Cel), v = .slice a n c ∧ (n = 0 ∨ ∃ b off, a = some ⟨b, off, none⟩) ∧ X.Rd w a (X.flat l) ∧ l.length = n := by
 have ce : Tryz.prog.cellsOf 66 = 6 := by kernel_rfl
 rcases Deep.open_slice Tryz.underlying49 hf with ⟨h0, _⟩ | ⟨a, len, cap, m, n, D, Pl, hv, _, hl, _, hm, _, hx⟩
 ·have h1 : v = .slice (none) 0 0 := List.head_eq_of_cons_eq h0
  exact ⟨none, 0, 0, [], h1, .inl rfl, X.Rd.nil _ _, rfl⟩
 ·have h1 : v = .slice (some a) len cap := List.head_eq_of_cons_eq hv
  have hm' : m = cap := by simpa using hm
  rw [ce] at hx
  have each : ∀ i, i < len → ∃ y : X.Cel, w.cells? base (a.add (i * 6)) 6 = some y.vals := fun i hi => by
   obtain ⟨cs, e1, e2⟩ := hx i (by omega)
   obtain ⟨_, hlen, _⟩ := World.cells?_some e1
   obtain ⟨y, rfl⟩ := qii e2 hlen
   exact ⟨y, e1⟩
  have : Inhabited X.Cel := ⟨X.cel0⟩
  obtain ⟨f, hfy⟩ := Deep.choose_lt each
  refine ⟨some a, len, cap, (List.range len).map f, h1, ?_, ⟨fun e => (by cases e), fun ad e j u hj => ?_⟩, by simp⟩
  ·rcases Nat.eq_zero_or_pos len with h0 | h0
   ·exact .inl h0
   ·right
    obtain ⟨_, _, hc⟩ := World.cells?_some (hfy 0 h0)
    have h2 := hc 0 (by omega)
    rw [Deep.add_add] at h2
    have h3 : w.cell? a = some (.int .i32 (f 0).rune) := h2
    obtain ⟨b, off, sp⟩ := a
    cases sp with
    | none => exact ⟨b, off, rfl⟩
    | some q =>
     unfold World.cell? at h3
     split at h3
     ·simp at h3
     ·cases h3
  ·obtain rfl : a = ad := by injection e
   have hlen : (X.flat ((List.range len).map f)).length = len * 6 := by rw [X.flat_len]; simp
   have hlt : j < len * 6 := by
    rw [← hlen]
    exact (List.getElem?_eq_some_iff.1 hj).1
   have hi : j / 6 < len := by omega
   have hr : j % 6 < 6 := by omega
   have hjj : j = j / 6 * 6 + j % 6 := by omega
   have h2 := X.flat_get ((List.range len).map f) ((j / 6 : Nat) : Int) (j % 6) (by omega) (by simp; omega) hr
   rw [Int.toNat_natCast, ← hjj, hj] at h2
   have hg : X.gc ((List.range len).map f) ((j / 6 : Nat) : Int) = f (j / 6) := by rw [X.gc_at (by simpa using hi), List.getElem_map, List.getElem_range]
   rw [hg] at h2
   obtain ⟨_, _, hc⟩ := World.cells?_some (hfy (j / 6) hi)
   have h3 := hc (j % 6) hr
   rw [Deep.add_add, ← hjj] at h3
   rw [h3, ← h2]
theorem agg4 {P : Program} {r : Reach} {b0 : Nat} {t : TypeId} {fs : Array Field} {v : Value} (ht : P.underlying t = some (.struct fs)) (ct : P.cellsOf t = 4) (hval : Value.okWide P w r b0 t v) : ∃ u0 u1 u2 u3, v = .agg #[u0, u1, u2, u3] := by
 obtain ⟨cs, rfl, hs⟩ : ∃ cs, v = .agg cs ∧ cs.size = 4 := by
  unfold Value.okWide at hval
  rw [ht] at hval
  obtain ⟨cs, h1, h2, _⟩ := hval
  exact ⟨cs, h1, by rw [h2, ct]⟩
 match hl : cs.toList, (show cs.toList.length = 4 by simpa using hs) with
 | [a, b, c, d], _ => exact ⟨a, b, c, d, by rw [← Array.toArray_toList (xs := cs), hl]⟩
set_option maxRecDepth 100000 in
theorem open_box {r : Reach} {b0 : Nat} {v : Value} {d : DataW H} {ps : List MemPlace} (hval : Value.okWide Tryz.prog w r b0 62 v) (hd : DataW.Trod enc Tryz.prog w base (fun _ => true) true 62 v d ps) :
  ∃ b : X.Bx, v = .agg #[.int .i64 b.x, .int .i64 b.y, .int .i64 b.w, .int .i64 b.h] := by
 obtain ⟨u0, u1, u2, u3, rfl⟩ := agg4 Tryz.underlying62 (by kernel_rfl) hval
 obtain ⟨fuel, hf⟩ := hd
 obtain ⟨xs, m, _, _, _, hlx, hf⟩ := DataW.trod_struct Tryz.underlying62 hf
 have c2 : Tryz.prog.cellsOf 3 = 1 := by kernel_rfl
 have hlx4 : xs.length = 4 := hlx
 have k0 : DataW.trod enc Tryz.prog w base (fun _ => true) true m 3 (([u0, u1, u2, u3].drop 0).take (Tryz.prog.cellsOf 3)) = xs[0]? := hf 0 _ rfl
 have k1 : DataW.trod enc Tryz.prog w base (fun _ => true) true m 3 (([u0, u1, u2, u3].drop 1).take (Tryz.prog.cellsOf 3)) = xs[1]? := hf 1 _ rfl
 have k2 : DataW.trod enc Tryz.prog w base (fun _ => true) true m 3 (([u0, u1, u2, u3].drop 2).take (Tryz.prog.cellsOf 3)) = xs[2]? := hf 2 _ rfl
 have k3 : DataW.trod enc Tryz.prog w base (fun _ => true) true m 3 (([u0, u1, u2, u3].drop 3).take (Tryz.prog.cellsOf 3)) = xs[3]? := hf 3 _ rfl
 rw [c2] at k0 k1 k2 k3
 rw [List.getElem?_eq_getElem (by omega)] at k0 k1 k2 k3
 obtain ⟨x, a0, _⟩ := DataW.trod_int Tryz.underlying3 k0
 obtain ⟨y, a1, _⟩ := DataW.trod_int Tryz.underlying3 k1
 obtain ⟨z, a2, _⟩ := DataW.trod_int Tryz.underlying3 k2
 obtain ⟨z', a3, _⟩ := DataW.trod_int Tryz.underlying3 k3
 have g0 := qa7 a0
 have g1 := qa7 a1
 have g2 := qa7 a2
 have g3 := qa7 a3
 simp only [List.getElem?_cons_zero, List.getElem?_cons_succ, Option.some.injEq] at g0 g1 g2 g3
 exact ⟨⟨x, y, z, z'⟩, by rw [g0, g1, g2, g3]⟩
end
end Go.Proofs.YtjklgjjgndalcaaGreatDoor
namespace Go.Proofs.YtjklgjjgndalcaaGreatDoor
open Go.ChangeShapes Go.WideShapes Go.ChangeAt Go.RowKit
theorem X.flat_sz {A : Type} {sz : Nat} {vals : A → List Value} (hv : ∀ x, (vals x).length = sz) : ∀ l : List A, ((l.map vals).flatten).length = l.length * sz
 | [] => by simp
 | x :: l => by rw [List.map_cons, List.flatten_cons, List.length_append, hv, X.flat_sz hv l, List.length_cons, Nat.add_mul]; omega
theorem X.flat_ix {A : Type} {sz : Nat} {vals : A → List Value} (hv : ∀ x, (vals x).length = sz) : ∀ (l : List A) (i j : Nat) (hi : i < l.length), j < sz → ((l.map vals).flatten)[i * sz + j]? = (vals l[i])[j]?
 | x :: l, 0, j, _, hj => by
  rw [List.map_cons, List.flatten_cons, Nat.zero_mul, Nat.zero_add, List.getElem?_append_left (by rw [hv]; exact hj)]; rfl
 | x :: l, i + 1, j, hi, hj => by
  have e : (i + 1) * sz = sz + i * sz := by rw [Nat.add_mul]; omega
  rw [List.map_cons, List.flatten_cons, List.getElem?_append_right (by rw [hv]; omega), hv, show (i + 1) * sz + j - sz = i * sz + j by omega, X.flat_ix hv l i j (by simpa using hi) hj]; rfl
section
variable {H : Type} {enc : TypeId × Value → H} {w : World} {base : Nat}
theorem qgE {A : Type} [Inhabited A] (sz : Nat) (h0 : 0 < sz) (vals : A → List Value) (hv : ∀ x, (vals x).length = sz) (Pq : A → Prop) {et t : TypeId} (ce : Tryz.prog.cellsOf et = sz) (ht : Tryz.prog.underlying t = some (.slice et))
  (hs : ∀ (x : A) (b off : Nat) q, w.cell? ⟨b, off, some q⟩ ≠ (vals x)[0]?) (each : ∀ n cs x, DataW.trod enc Tryz.prog w base (fun _ => true) true n et cs = some x → cs.length = sz → ∃ y, cs = vals y ∧ Pq y)
  {n0 : Nat} {v : Value} {x : DataW H × List MemPlace} (hf : DataW.trod enc Tryz.prog w base (fun _ => true) true n0 t [v] = some x) :
  ∃ (a : Option Addr) (n c : Nat) (l : List A), v = .slice a n c ∧ (n = 0 ∨ ∃ b off, a = some ⟨b, off, none⟩) ∧ X.Rd w a ((l.map vals).flatten) ∧ l.length = n ∧ (∀ y ∈ l, Pq y) ∧ (a = none → c = 0) ∧ n ≤ c ∧ c ≤ maxLen := by
 rcases Deep.open_slice ht hf with ⟨h0', _⟩ | ⟨a, len, cap, m, n, D, Pl, hv', _, hl, hmx, hm, _, hx⟩
 ·have h1 : v = .slice (none) 0 0 := List.head_eq_of_cons_eq h0'
  exact ⟨none, 0, 0, [], h1, .inl rfl, X.Rd.nil _ _, rfl, (fun y hy => by cases hy), fun _ => rfl, Nat.le_refl _, Nat.zero_le _⟩
 ·have h1 : v = .slice (some a) len cap := List.head_eq_of_cons_eq hv'
  have hm' : m = cap := by simpa using hm
  rw [ce] at hx
  have each' : ∀ i, i < len → ∃ y : A, w.cells? base (a.add (i * sz)) sz = some (vals y) ∧ Pq y := fun i hi => by
   obtain ⟨cs, e1, e2⟩ := hx i (by omega)
   obtain ⟨_, hlen, _⟩ := World.cells?_some e1
   obtain ⟨y, rfl, hy⟩ := each _ _ _ e2 hlen
   exact ⟨y, e1, hy⟩
  obtain ⟨f, hfy⟩ := Deep.choose_lt each'
  refine ⟨some a, len, cap, (List.range len).map f, h1, ?_, ⟨fun e => (by cases e), fun ad e j u hj => ?_⟩, by simp, fun y hy => ?_, (fun e => by cases e), hl, hmx⟩
  ·rcases Nat.eq_zero_or_pos len with hz | hz
   ·exact .inl hz
   ·right
    obtain ⟨_, _, hc⟩ := World.cells?_some (hfy 0 hz).1
    have h2 := hc 0 h0
    rw [Deep.add_add, Nat.zero_mul] at h2
    have h3 : w.cell? a = (vals (f 0))[0]? := h2
    obtain ⟨b, off, sp⟩ := a
    cases sp with
    | none => exact ⟨b, off, rfl⟩
    | some q => exact absurd h3 (hs _ b off q)
  ·obtain rfl : a = ad := by injection e
   have hlen : (((List.range len).map f).map vals).flatten.length = len * sz := by rw [X.flat_sz hv]; simp
   have hlt : j < len * sz := by
    rw [← hlen]
    exact (List.getElem?_eq_some_iff.1 hj).1
   have hi : j / sz < len := (Nat.div_lt_iff_lt_mul h0).2 hlt
   have hr : j % sz < sz := Nat.mod_lt _ h0
   have hjj : j = j / sz * sz + j % sz := by rw [Nat.mul_comm]; exact (Nat.div_add_mod j sz).symm
   have h2 := X.flat_ix hv ((List.range len).map f) (j / sz) (j % sz) (by simpa using hi) hr
   rw [← hjj, hj, List.getElem_map, List.getElem_range] at h2
   obtain ⟨_, _, hc⟩ := World.cells?_some (hfy (j / sz) hi).1
   have h3 := hc (j % sz) hr
   rw [Deep.add_add, ← hjj] at h3
   rw [h3, ← h2]
  ·obtain ⟨i, hi, rfl⟩ := List.mem_map.1 hy
   exact (hfy i (List.mem_range.1 hi)).2
set_option maxRecDepth 100000 in
theorem qik {n : Nat} {cs : List Value} {x : DataW H × List MemPlace} (h : DataW.trod enc Tryz.prog w base (fun _ => true) true n 51 cs = some x) (hl : cs.length = 4) : ∃ y : X.Lk, cs = y.vals ∧ ∃ l : List X.Cel, (y.n = 0 ∨ ∃ b off, y.a = some ⟨b, off, none⟩) ∧ X.Rd w y.a (X.flat l) ∧ l.length = y.n := by
 obtain ⟨xs, m, _, _, _, hlx, hf⟩ := DataW.trod_struct Tryz.underlying51 h
 have c1 : Tryz.prog.cellsOf 4 = 1 := by kernel_rfl
 have c2 : Tryz.prog.cellsOf 3 = 1 := by kernel_rfl
 have c3 : Tryz.prog.cellsOf 49 = 1 := by kernel_rfl
 have hlx4 : xs.length = 4 := hlx
 match cs, hl with
 | [u0, u1, u2, u3], _ =>
  have k0 : DataW.trod enc Tryz.prog w base (fun _ => true) true m 49 (([u0, u1, u2, u3].drop 0).take (Tryz.prog.cellsOf 49)) = xs[0]? := hf 0 _ rfl
  have k1 : DataW.trod enc Tryz.prog w base (fun _ => true) true m 3 (([u0, u1, u2, u3].drop 1).take (Tryz.prog.cellsOf 3)) = xs[1]? := hf 1 _ rfl
  have k2 : DataW.trod enc Tryz.prog w base (fun _ => true) true m 3 (([u0, u1, u2, u3].drop 2).take (Tryz.prog.cellsOf 3)) = xs[2]? := hf 2 _ rfl
  have k3 : DataW.trod enc Tryz.prog w base (fun _ => true) true m 4 (([u0, u1, u2, u3].drop 3).take (Tryz.prog.cellsOf 4)) = xs[3]? := hf 3 _ rfl
  rw [c3] at k0
  rw [c2] at k1 k2
  rw [c1] at k3
  rw [List.getElem?_eq_getElem (by omega)] at k0 k1 k2 k3
  obtain ⟨a, n, c, l, e0, ha, hr, hn⟩ := qij (v := u0) k0
  obtain ⟨x, a1, _⟩ := DataW.trod_int Tryz.underlying3 k1
  obtain ⟨y, a2, _⟩ := DataW.trod_int Tryz.underlying3 k2
  obtain ⟨z, a3, _⟩ := DataW.trod_bool Tryz.underlying4 k3
  have g1 := qa7 a1
  have g2 := qa7 a2
  have g3 := qa7 a3
  simp only [List.getElem?_cons_zero, List.getElem?_cons_succ, Option.some.injEq] at g1 g2 g3
  exact ⟨⟨a, n, c, x, y, z⟩, by rw [e0, g1, g2, g3]; rfl, l, ha, hr, hn⟩
theorem X.lkV_flat : ∀ ls : List X.Lk, X.lkV ls = (ls.map X.Lk.vals).flatten
 | [] => rfl
 | k :: l => by rw [List.map_cons, List.flatten_cons, ← X.lkV_flat l]; rfl
set_option maxRecDepth 100000 in
theorem qil {r : Reach} {b0 : Nat} {t : TypeId} {v : Value} {d : DataW H} {ps : List MemPlace} (ht : Tryz.prog.underlying t = some (.slice 51)) (hval : Value.okWide Tryz.prog w r b0 t v) (hd : DataW.Trod enc Tryz.prog w base (fun _ => true) true t v d ps) :
  ∃ (a : Option Addr) (n c : Nat) (ls : List X.Lk), v = .slice a n c ∧ (n = 0 ∨ ∃ b off, a = some ⟨b, off, none⟩) ∧ X.Rd w a (X.lkV ls) ∧ ls.length = n ∧ (∀ y ∈ ls, ∃ l : List X.Cel, (y.n = 0 ∨ ∃ b off, y.a = some ⟨b, off, none⟩) ∧ X.Rd w y.a (X.flat l) ∧ l.length = y.n) ∧ n ≤ 9223372036854775807 := by
 obtain ⟨fuel, hf⟩ := hd
 obtain ⟨a0, n0, c0, rfl⟩ := okWide_slice ht hval
 have : Inhabited X.Lk := ⟨⟨none, 0, 0, 0, 0, false⟩⟩
 obtain ⟨a, n, c, l, e, h1, h2, h3, h4, _, h5, h6⟩ := qgE 4 (by decide) X.Lk.vals (fun _ => rfl) _ (by kernel_rfl) ht (fun x b off q h => by
  have h' : w.cell? ⟨b, off, some q⟩ = some (.slice x.a x.n x.cap) := h
  unfold World.cell? at h'
  split at h'
  ·simp at h'
  ·cases h') (fun _ _ _ => qik) hf
 exact ⟨a, n, c, l, e, h1, X.lkV_flat l ▸ h2, h3, h4, Nat.le_trans h5 h6⟩
end
end Go.Proofs.YtjklgjjgndalcaaGreatDoor
