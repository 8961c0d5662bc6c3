/- What the proof of TermBounds needs, part 6: the walks of the program's functions and the plain laws about them. -/
import Derived.Test.YteoejhjfbfacdaaGreatDoorQB5
import Derived.Test.YteoejhjfbfacdaaGreatDoorRows
import Derived.ProofKit
import Derived.OpenShut
import Derived.ChangeArms
import Derived.LaidMore
import Derived.Lay
import Derived.Stop.Joined
import Derived.Below
import Derived.SevenTiedAt
import Derived.Deep.Slices
import Derived.Carry
set_option linter.unusedSimpArgs false
set_option linter.unusedVariables false
namespace Go.Proofs.YteoejhjfbfacdaaGreatDoor.X
open Go Go.RowKit Go.Proofs.YteoejhjfbfacdaaGreatDoor
set_option maxHeartbeats 4000000 in
theorem bcur_any0 {w0 w : World} {bs : List (Nat × List Value × TypeId)} {t : Nat} {T : TS} (hS : Sys w0 w ([] ++ bs) [(t, T)]) (c : Cur) (hx : 0 ≤ c.x ∧ c.x < T.grid.w) (hy : 0 ≤ c.y ∧ c.y < T.grid.h) (hl : c.late = true → c.x = T.grid.w - 1) (hs : styleB c.sty = true) (hb : T.grid.w ≤ 60) : Calls Tryz.prog 16 [pX t, .agg #[iX c.x, iX c.y, .bool c.late, .bool c.sty.bold, .bool c.sty.under, .bool c.sty.turned, iX c.sty.fore, iX c.sty.back]].toArray w fun e w' => e = .returned (.bool true) ∧ Ch (fun _ => False) w w' := by
 refine yA Tryz.func16 rfl <| ysr <| yo (yN [iX c.x, iX c.y, .bool c.late, .bool c.sty.bold, .bool c.sty.under, .bool c.sty.turned, iX c.sty.fore, iX c.sty.back] 45 fun w10 b11 hb12 hz13 hB14 hc15 => ?_)
 have hlo16 : w.heap.size ≤ b11 := by rw [hb12]; exact Ch.size (Up.refl w.heap.size w)
 have hu17 := Up.step (Up.refl w.heap.size w) hc15 iZ
 refine yp 2 [] .z <| ye <| ys <| yD [53] fun w18 hH19 hc20 => ?_
 have hu21 := Up.step hu17 hc20 iZ
 have hS22 : Sys w0 w10 ([(b11, [iX c.x, iX c.y, .bool c.late, .bool c.sty.bold, .bool c.sty.under, .bool c.sty.turned, iX c.sty.fore, iX c.sty.back], 45)] ++ bs) [(t, T)] := hS.boxO hc15 hB14 (Nat.le_of_eq hb12.symm)
 have hS23 := hS22.same hc20
 refine x_gfree (by kernel_rfl) (fun hfr24 => ?_)
 refine yg hfr24 (uL 0 4) [] (.l ((hS23.blk 0 (b11, [iX c.x, iX c.y, .bool c.late, .bool c.sty.bold, .bool c.sty.under, .bool c.sty.turned, iX c.sty.fore, iX c.sty.back], 45) rfl).c 0) .z) <| yv [8] (rM 0 c.x) (fun hC25 => ?_) fun hC25 => ?_
 ·have hf26 := hC25
  obtain ⟨g27, F28, hg29, hG30⟩ := hS23.grid (i := 0) rfl
  obtain ⟨r31, rc32, rows33, hI34⟩ := hG30
  have hlenhI34 := hI34.len
  refine yg hfr24 (uL 4 12) [] (.l ((hS23.blk 0 (b11, [iX c.x, iX c.y, .bool c.late, .bool c.sty.bold, .bool c.sty.under, .bool c.sty.turned, iX c.sty.fore, iX c.sty.back], 45) rfl).c 0) (.l hg29 (.l (hI34.head.c 0) .z))) <| yv [20] (rL c.x T.grid.w) (fun hC35 => ?_) fun hC35 => ?_
  ·have hf36 := hC35
   refine yg hfr24 (uL 16 5) [] (.l ((hS23.blk 0 (b11, [iX c.x, iX c.y, .bool c.late, .bool c.sty.bold, .bool c.sty.under, .bool c.sty.turned, iX c.sty.fore, iX c.sty.back], 45) rfl).c 1) .z) <| yv [25] (rM 0 c.y) (fun hC37 => ?_) fun hC37 => ?_
   ·have hf38 := hC37
    refine yg hfr24 (uL 21 12) [] (.l ((hS23.blk 0 (b11, [iX c.x, iX c.y, .bool c.late, .bool c.sty.bold, .bool c.sty.under, .bool c.sty.turned, iX c.sty.fore, iX c.sty.back], 45) rfl).c 1) (.l hg29 (.l (hI34.head.c 1) .z))) <| yv [37] (rL c.y T.grid.h) (fun hC39 => ?_) fun hC39 => ?_
    ·have hf40 := hC39
     refine yg hfr24 (uL 33 4) [] (.l ((hS23.blk 0 (b11, [iX c.x, iX c.y, .bool c.late, .bool c.sty.bold, .bool c.sty.under, .bool c.sty.turned, iX c.sty.fore, iX c.sty.back], 45) rfl).c 2) .z) <| yv [41] (rN (rY c.late)) (fun hC41 => ?_) fun hC41 => ?_
     ·refine yg hfr24 (uL 37 16) [] (.a ((hS23.blk 0 (b11, [iX c.x, iX c.y, .bool c.late, .bool c.sty.bold, .bool c.sty.under, .bool c.sty.turned, iX c.sty.fore, iX c.sty.back], 45) rfl).cs 3 5) .z) <| yK 53 (yQ (style_any c.sty _) fun w43 hc42 => ?_)
      have hu44 := Up.step hu21 hc42 iZ
      refine x_killed <| yg hfr24 [54, 55] [] .z <| yGe (nS ?_)
      refine x_ret (yR1 (.bool (styleB c.sty)) ?_)
      refine ⟨congrArg Ending.returned (congrArg Value.bool ?_), Up.ch hu44⟩
      first | rfl | exact hs | (rw [hs]; rfl) | simp [*]
     have hlx := hl hC41
     refine yg hfr24 (uL 37 14) [] (.l ((hS23.blk 0 (b11, [iX c.x, iX c.y, .bool c.late, .bool c.sty.bold, .bool c.sty.under, .bool c.sty.turned, iX c.sty.fore, iX c.sty.back], 45) rfl).c 0) (.l hg29 (.l (hI34.head.c 0) (.q6 (T.grid.w - 1) .z)))) <| yv [55] (rE c.x (T.grid.w - 1)) (fun hC48 => ?_) fun hC48 => ?_
     ·have hf49 := hC48
      refine yg hfr24 [51, 52] [] (.a ((hS23.blk 0 (b11, [iX c.x, iX c.y, .bool c.late, .bool c.sty.bold, .bool c.sty.under, .bool c.sty.turned, iX c.sty.fore, iX c.sty.back], 45) rfl).cs 3 5) .z) <| yK 53 (yQ (style_any c.sty _) fun w51 hc50 => ?_)
      have hu52 := Up.step hu21 hc50 iZ
      refine x_killed <| yg hfr24 [54, 55] [] .z <| yGe (nS ?_)
      refine x_ret (yR1 (.bool (styleB c.sty)) ?_)
      refine ⟨congrArg Ending.returned (congrArg Value.bool ?_), Up.ch hu52⟩
      first | rfl | exact hs | (rw [hs]; rfl) | simp [*]
     have hf56 := hC48
     exfalso; omega
    have hf57 := hC39
    exfalso; omega
   have hf58 := hC37
   exfalso; omega
  have hf59 := hC35
  exfalso; omega
 have hf60 := hC25
 exfalso; omega
theorem bcur_any {w0 w : World} {bs : List (Nat × List Value × TypeId)} {t : Nat} {T : TS} (hS : Sys w0 w bs [(t, T)]) (c : Cur) (hx : 0 ≤ c.x ∧ c.x < T.grid.w) (hy : 0 ≤ c.y ∧ c.y < T.grid.h) (hl : c.late = true → c.x = T.grid.w - 1) (hs : styleB c.sty = true) (hb : T.grid.w ≤ 60) : Calls Tryz.prog 16 [pX t, .agg #[iX c.x, iX c.y, .bool c.late, .bool c.sty.bold, .bool c.sty.under, .bool c.sty.turned, iX c.sty.fore, iX c.sty.back]].toArray w fun e w' => e = .returned (.bool true) ∧ Ch (fun _ => False) w w' :=
  bcur_any0 (bs := bs) hS c hx hy hl hs hb
set_option maxHeartbeats 4000000 in
theorem bounds_some (p1 p2 : Int) (sb so sc : Nat) (st : List Stp) (w : World) (hT : LT w) (h7 : gTop ≤ w.heap.size) (hst : Rd w (some ⟨sb, so, none⟩) (flatS st)) : Calls Tryz.prog 5 [.agg #[iX p1, iX p2], .slice (some ⟨sb, so, none⟩) st.length sc].toArray w fun e w' => e = .returned (.bool true) ∧ Ch (fun _ => False) w w' := by
 have hS := Sys.start hT h7
 refine yA Tryz.func5 rfl <| ysr <| yo (yN [iX p1, iX p2] 22 fun w10 b11 hb12 hz13 hB14 hc15 => ?_)
 refine yp 2 [] .z <| ye <| ys <| ysr ?_
 have hS16 : Sys w w10 [(b11, [iX p1, iX p2], 22)] [] := hS.box hc15 hB14 (Nat.le_of_eq hb12.symm)
 refine yo (yQ (lawfit_any _ hS16.lt (Nat.le_trans hS16.top hS16.ch.size)) fun w18 hc17 => ?_)
 have hS19 := hS16.same hc17
 refine yp 2 [] .z <| ye <| ycf <| yk <| ys <| ysr <| yp 1 [] .z <| yo (yQ (short_some sb so sc st _ hS19.lt (Nat.le_trans hS19.top hS19.ch.size) (Ch.rd hS19.ch hst id)) fun w21 hc20 => ?_)
 have hS22 := hS19.same hc20
 refine yp 3 [] .z <| ye <| yc (rN (rY (shortB st))) (fun hC23 => ?_) fun hC23 => ?_
 ·refine ysr <| yp 1 [] .z <| ye <| x_ret (rS (yR1 (.bool true) ?_))
  exact ⟨rfl, hS22.ch⟩
 have hsh := shortB_iff.1 hC23
 refine yk <| ysr <| yp 4 [] (.i 0 (2) (.l ((hS22.blk 0 (b11, [iX p1, iX p2], 22) rfl).c 0) (.i 1 (2) (.l ((hS22.blk 0 (b11, [iX p1, iX p2], 22) rfl).c 1) .z)))) <| yo (yC (hS22.new (p1) (p2)) ?_)
 rintro _ w27 ⟨t24, rfl, hS25, hc26⟩
 refine ⟨_, rfl, ?_⟩
 replace hS25 : Sys w w27 [(b11, [iX p1, iX p2], 22)] [(t24, (startT zeroT (p1) (p2)))] := hS25
 refine yp 6 [] .z <| ye <| ys <| ysr <| yp 3 [] .z <| ye <| x_block <| ykeep [5, 18, 19, 20] (f' := [(5, pX t24), (18, .slice (some ⟨sb, so, none⟩) st.length sc), (19, iX ((st.length : Nat) : Int)), (20, iX 0)]) <| x_loop (σ := Nat × TS) (fun ⟨k, T⟩ => [(5, pX t24), (18, .slice (some ⟨sb, so, none⟩) st.length sc), (19, iX ((st.length : Nat) : Int)), (20, iX ((k : Nat) : Int))]) (fun ⟨k, T⟩ wv => (k : Int) ≤ ((st.length : Nat) : Int) ∧ Sys w wv [(b11, [iX p1, iX p2], 22)] [(t24, T)] ∧ (∃ W H, Okt true W H T) ∧ PRight T.parser) (fun ⟨k, T⟩ => (((st.length : Nat) : Int)).toNat - k) (0, (startT zeroT (p1) (p2))) rfl ?_ ?_
 ·exact ⟨by omega, hS25, ⟨_, _, ok_start zeroT p1 p2 (by decide)⟩, pr_at (.inl rfl)⟩
 intro p w28 hI29 K30 hL31
 obtain ⟨k, T⟩ := p
 obtain ⟨hk32, hS33, ⟨W1, H1, hO34⟩, hP35⟩ := hI29
 replace hS33 : Sys w w28 [(b11, [iX p1, iX p2], 22)] [(t24, T)] := hS33
 refine ysr <| yp 1 [] .z <| ye <| ys <| yc (rL ((k : Nat) : Int) ((st.length : Nat) : Int)) (fun hC36 => ?_) fun hC36 => ?_
 ·have hf37 := hC36
  refine yk <| ys <| x_block <| ysr <| yp 3 [] (.i ((k : Nat) : Int) (st.length) (.m (s_text (k := k) (Ch.rd hS33.ch hst id) (by omega)) (.m (s_w (k := k) (Ch.rd hS33.ch hst id) (by omega)) (.m (s_h (k := k) (Ch.rd hS33.ch hst id) (by omega)) (.e .z))))) <| yo (yN [.string ByteArray.empty, iX 0, iX 0] 35 fun w38 b39 hb40 hz41 hB42 hc43 => ?_)
  refine yp 5 [] .z ?_
  have hS44 : Sys w w38 [(b11, [iX p1, iX p2], 22), (b39, [.string ByteArray.empty, iX 0, iX 0], 35)] [(t24, T)] := hS33.box hc43 hB42 (Nat.le_of_eq hb40.symm)
  refine yo (yS (hS44.blk 1 (b39, [.string ByteArray.empty, iX 0, iX 0], 35) rfl) fun w45 hB46 hc47 => ?_)
  have hS48 : Sys w w45 [(b11, [iX p1, iX p2], 22), (b39, [.string (gs st k).text, iX (gs st k).w, iX (gs st k).h], 35)] [(t24, T)] := hS44.set 1 rfl hc47 (Blk.to hB46 (by kernel_rfl))
  refine ye <| ysr <| yp 2 [] (.a ((hS48.blk 1 (b39, [.string (gs st k).text, iX (gs st k).w, iX (gs st k).h], 35) rfl).cs 0 3) .z) <| yo (yQ (hS48.do (i := 0) rfl (gs st k) (by have := hsh.2 k (by omega); omega)) fun w50 hS49 => ?_)
  replace hS49 : Sys w w50 [(b11, [iX p1, iX p2], 22), (b39, [.string (gs st k).text, iX (gs st k).w, iX (gs st k).h], 35)] [(t24, (doT T (gs st k)))] := hS49
  obtain ⟨W2, H2, hO51⟩ := ok_do hO34 (hS48.fine (i := 0) rfl).2 (gs st k)
  have hP52 := pr_do hP35 (hS48.fine (i := 0) rfl).2 (gs st k)
  obtain ⟨U53, hU54⟩ : ∃ U : TS, U = (doT T (gs st k)) := ⟨_, rfl⟩
  rw [← hU54] at hS49 hO51 hP52
  refine ye <| ys <| ysr <| yp 3 [] .z <| ye <| yc (rE (bitsv .and .i64 ((k : Nat) : Int) 3) 3) (fun hC55 => ?_) fun hC55 => ?_
  ·have hf56 := hC55
   refine x_region <| yp 1 [] .z <| yo (yQ (hS49.take (i := 0) rfl) fun w58 hS57 => ?_)
   replace hS57 : Sys w w58 [(b11, [iX p1, iX p2], 22), (b39, [.string (gs st k).text, iX (gs st k).w, iX (gs st k).h], 35)] [(t24, ({ U53 with reply := ByteArray.empty } : TS))] := hS57
   have hO59 := ok_take hO51
   have hP60 : PRight (({ U53 with reply := ByteArray.empty } : TS)).parser := hP52
   obtain ⟨U61, hU62⟩ : ∃ U : TS, U = ({ U53 with reply := ByteArray.empty } : TS) := ⟨_, rfl⟩
   rw [← hU62] at hS57 hO59 hP60
   refine ye <| ys <| ys <| yD [5, 13, 22] fun w63 hH64 hc65 => ?_
   have hS66 := hS57.same hc65
   refine x_gfree (by kernel_rfl) (fun hfr67 => ?_)
   refine yg hfr67 (uL 0 5) [] (.m (v := iX U61.cursor.x) (hS66.cell (i := 0) (t := t24) (T := U61) rfl 2 (fun _ _ _ _ => by kernel_rfl)) (.m (v := iX U61.cursor.y) (hS66.cell (i := 0) (t := t24) (T := U61) rfl 3 (fun _ _ _ _ => by kernel_rfl)) (.m (v := .bool U61.cursor.late) (hS66.cell (i := 0) (t := t24) (T := U61) rfl 4 (fun _ _ _ _ => by kernel_rfl)) (.m (v := .bool U61.cursor.sty.bold) (hS66.cell (i := 0) (t := t24) (T := U61) rfl 5 (fun _ _ _ _ => by kernel_rfl)) (.m (v := .bool U61.cursor.sty.under) (hS66.cell (i := 0) (t := t24) (T := U61) rfl 6 (fun _ _ _ _ => by kernel_rfl)) (.m (v := .bool U61.cursor.sty.turned) (hS66.cell (i := 0) (t := t24) (T := U61) rfl 7 (fun _ _ _ _ => by kernel_rfl)) (.m (v := iX U61.cursor.sty.fore) (hS66.cell (i := 0) (t := t24) (T := U61) rfl 8 (fun _ _ _ _ => by kernel_rfl)) (.m (v := iX U61.cursor.sty.back) (hS66.cell (i := 0) (t := t24) (T := U61) rfl 9 (fun _ _ _ _ => by kernel_rfl)) (.e .z))))))))) ?_
   have hlm := hO59.lim.all
   have htz := hO59.ti
   have hpl := (hS66.fine (i := 0) rfl).2
   refine yK 5 (yQ (bcur_any hS66 U61.cursor (by omega) (by omega) (fun e => by have := hO59.cl rfl e; omega) hO59.cs (by omega)) fun w69 hc68 => ?_)
   have hS70 := hS66.same hc68
   refine x_killed <| yg hfr67 (uL 6 7) [] (.m (v := iX U61.saved.x) (hS70.cell (i := 0) (t := t24) (T := U61) rfl 10 (fun _ _ _ _ => by kernel_rfl)) (.m (v := iX U61.saved.y) (hS70.cell (i := 0) (t := t24) (T := U61) rfl 11 (fun _ _ _ _ => by kernel_rfl)) (.m (v := .bool U61.saved.late) (hS70.cell (i := 0) (t := t24) (T := U61) rfl 12 (fun _ _ _ _ => by kernel_rfl)) (.m (v := .bool U61.saved.sty.bold) (hS70.cell (i := 0) (t := t24) (T := U61) rfl 13 (fun _ _ _ _ => by kernel_rfl)) (.m (v := .bool U61.saved.sty.under) (hS70.cell (i := 0) (t := t24) (T := U61) rfl 14 (fun _ _ _ _ => by kernel_rfl)) (.m (v := .bool U61.saved.sty.turned) (hS70.cell (i := 0) (t := t24) (T := U61) rfl 15 (fun _ _ _ _ => by kernel_rfl)) (.m (v := iX U61.saved.sty.fore) (hS70.cell (i := 0) (t := t24) (T := U61) rfl 16 (fun _ _ _ _ => by kernel_rfl)) (.m (v := iX U61.saved.sty.back) (hS70.cell (i := 0) (t := t24) (T := U61) rfl 17 (fun _ _ _ _ => by kernel_rfl)) (.e .z))))))))) <| yK 13 (yQ (bcur_any hS70 U61.saved (by omega) (by omega) (fun e => by have := hO59.sl e; omega) hO59.ss (by omega)) fun w72 hc71 => ?_)
   have hS73 := hS70.same hc71
   refine x_killed <| yg hfr67 (uL 14 8) [] (.m (v := iX U61.away.x) (hS73.cell (i := 0) (t := t24) (T := U61) rfl 18 (fun _ _ _ _ => by kernel_rfl)) (.m (v := iX U61.away.y) (hS73.cell (i := 0) (t := t24) (T := U61) rfl 19 (fun _ _ _ _ => by kernel_rfl)) (.m (v := .bool U61.away.late) (hS73.cell (i := 0) (t := t24) (T := U61) rfl 20 (fun _ _ _ _ => by kernel_rfl)) (.m (v := .bool U61.away.sty.bold) (hS73.cell (i := 0) (t := t24) (T := U61) rfl 21 (fun _ _ _ _ => by kernel_rfl)) (.m (v := .bool U61.away.sty.under) (hS73.cell (i := 0) (t := t24) (T := U61) rfl 22 (fun _ _ _ _ => by kernel_rfl)) (.m (v := .bool U61.away.sty.turned) (hS73.cell (i := 0) (t := t24) (T := U61) rfl 23 (fun _ _ _ _ => by kernel_rfl)) (.m (v := iX U61.away.sty.fore) (hS73.cell (i := 0) (t := t24) (T := U61) rfl 24 (fun _ _ _ _ => by kernel_rfl)) (.m (v := iX U61.away.sty.back) (hS73.cell (i := 0) (t := t24) (T := U61) rfl 25 (fun _ _ _ _ => by kernel_rfl)) (.e .z))))))))) <| yK 22 (yQ (bcur_any hS73 U61.away (by omega) (by omega) (fun e => by have := hO59.al e; omega) hO59.ay (by omega)) fun w75 hc74 => ?_)
   have hS76 := hS73.same hc74
   refine x_killed <| yg hfr67 (uL 23 10) [] (.l (v := iX U61.top) (hS76.cell (i := 0) (t := t24) (T := U61) rfl 26 (fun _ _ _ _ => by kernel_rfl)) .z) <| yv [65] (rL U61.top 0) (fun hC77 => ?_) fun hC77 => ?_
   ·have hf78 := hC77
    exfalso; omega
   have hf79 := hC77
   refine yg hfr67 (uL 33 11) [] (.l (v := iX U61.top) (hS76.cell (i := 0) (t := t24) (T := U61) rfl 26 (fun _ _ _ _ => by kernel_rfl)) (.l (v := iX U61.bot) (hS76.cell (i := 0) (t := t24) (T := U61) rfl 27 (fun _ _ _ _ => by kernel_rfl)) .z)) <| yv [76] (rM U61.bot U61.top) (fun hC80 => ?_) fun hC80 => ?_
   ·have hf81 := hC80
    exfalso; omega
   have hf82 := hC80
   obtain ⟨g83, F84, hg85, hG86⟩ := hS76.grid (i := 0) rfl
   obtain ⟨r87, rc88, rows89, hI90⟩ := hG86
   have hlenhI90 := hI90.len
   refine yg hfr67 (uL 44 14) [] (.l (v := iX U61.bot) (hS76.cell (i := 0) (t := t24) (T := U61) rfl 27 (fun _ _ _ _ => by kernel_rfl)) (.l hg85 (.l (hI90.head.c 1) .z))) <| yv [90] (rL U61.grid.h U61.bot) (fun hC91 => ?_) fun hC91 => ?_
   ·have hf92 := hC91
    exfalso; omega
   have hf93 := hC91
   refine yg hfr67 (uL 58 10) [] (.l hg85 (.l (hI90.head.c 0) .z)) <| yv [100] (rL U61.grid.w 1) (fun hC94 => ?_) fun hC94 => ?_
   ·have hf95 := hC94
    exfalso; omega
   have hf96 := hC94
   refine yg hfr67 (uL 68 10) [] (.l hg85 (.l (hI90.head.c 0) .z)) <| yv [110] (rL 60 U61.grid.w) (fun hC97 => ?_) fun hC97 => ?_
   ·have hf98 := hC97
    exfalso; omega
   have hf99 := hC97
   refine yg hfr67 (uL 78 10) [] (.l hg85 (.l (hI90.head.c 1) .z)) <| yv [120] (rL U61.grid.h 1) (fun hC100 => ?_) fun hC100 => ?_
   ·have hf101 := hC100
    exfalso; omega
   have hf102 := hC100
   refine yg hfr67 (uL 88 9) [] (.l hg85 (.l (hI90.head.c 1) .z)) <| yGe (nS ?_)
   refine yc (rL 60 U61.grid.h) (fun hC103 => ?_) fun hC103 => ?_
   ·have hf104 := hC103
    exfalso; omega
   have hf105 := hC103
   refine yk <| ys <| yD [21, 45, 53, 85] fun w106 hH107 hc108 => ?_
   have hS109 := hS76.same hc108
   have hg110 := cell_ch hc108 hg85 id
   have hI111 := hI90.ch hc108 iZ
   refine x_gfree (by kernel_rfl) (fun hfr112 => ?_)
   refine yg hfr112 (uL 0 21) [] (.l hg110 (.l (hI111.head.c 2) (.l hg110 (.l (hI111.head.c 0) (.l hg110 (.l (hI111.head.c 1) .z)))))) <| dkeep [5, 18, 19, 20, 136, 143, 150] (f' := [(5, pX t24), (18, .slice (some ⟨sb, so, none⟩) st.length sc), (19, iX ((st.length : Nat) : Int)), (20, iX ((k : Nat) : Int)), (136, .slice (some ⟨r87, 0, none⟩) rows89.length rc88), (143, iX U61.grid.w), (150, iX U61.grid.h)]) <| yK 21 (yQ (wholes_any (some ⟨r87, 0, none⟩) (rows89.length) (rc88) (U61.grid.w) (U61.grid.h) _ hS109.lt.tb hI111.asLines (.inr ⟨_, _, rfl⟩) (by omega) (grid_hall hI111 hO59.g ⟨by omega, by omega, by omega⟩) (.inr (by omega))) fun w114 hc113 => ?_)
   have hS115 := hS109.same hc113
   have hg116 := cell_ch hc113 hg110 id
   have hI117 := hI111.ch hc113 iZ
   refine x_killed ?_
   obtain ⟨g118, F119, hg120, hG121⟩ := hS115.other (i := 0) rfl
   obtain ⟨r122, rc123, rows124, hI125⟩ := hG121
   have hlenhI125 := hI125.len
   refine yg hfr112 (uL 22 23) [] (.l hg120 (.l (hI125.head.c 2) (.l hg116 (.l (hI117.head.c 0) (.l hg116 (.l (hI117.head.c 1) .z)))))) <| yK 45 (yQ (wholes_any (some ⟨r122, 0, none⟩) (rows124.length) (rc123) (U61.grid.w) (U61.grid.h) _ hS115.lt.tb hI125.asLines (.inr ⟨_, _, rfl⟩) (by omega) (grid_hall hI125 hO59.o ⟨by omega, by omega, by omega⟩) (.inr (by omega))) fun w127 hc126 => ?_)
   have hS128 := hS115.same hc126
   refine x_killed ?_
   obtain ⟨ba133, bn134, bc135, ro136, FB137, hg138, hbl139, hL140, hm141, hz142⟩ := hS128.outs (i := 0) rfl
   refine yg hfr112 (uL 46 7) [] (.l hg138 .z) <| yK 53 (yQ (wholes_any ba133 (bn134) (bc135) ((-1)) ((-1)) _ hS128.lt.tb hL140 hz142 (by omega) (back_hall hL140 hm141 hO59.b) (.inl (by decide))) fun w144 hc143 => ?_)
   have hS145 := hS128.same hc143
   have hg148 := cell_ch hc143 hg138 id
   refine x_killed <| yg hfr112 (uL 54 11) [] (.l hg148 .z) <| yv [194] (rL 20 ((bn134 : Nat) : Int)) (fun hC152 => ?_) fun hC152 => ?_
   ·have hf153 := hC152
    exfalso; omega
   have hf154 := hC152
   refine yg hfr112 (uL 65 8) [] (.l (v := .string U61.reply) (hS145.cell (i := 0) (t := t24) (T := U61) rfl 107 (fun _ _ _ _ => by kernel_rfl)) .z) <| yv [202] (rL 400 ((U61.reply).size : Int)) (fun hC155 => ?_) fun hC155 => ?_
   ·have hf156 := hC155
    exfalso; omega
   have hf157 := hC155
   refine yg hfr112 (uL 73 8) [] (.l (v := .string U61.title) (hS145.cell (i := 0) (t := t24) (T := U61) rfl 96 (fun _ _ _ _ => by kernel_rfl)) .z) <| yv [210] (rL 40 ((U61.title).size : Int)) (fun hC158 => ?_) fun hC158 => ?_
   ·have hf159 := hC158
    exfalso; omega
   have hf160 := hC158
   obtain ⟨pa161, pn162, pc163, hg164, hpl165, hpr166, hpz167⟩ := hS145.pars (i := 0) rfl
   refine yg hfr112 (uL 81 4) [] (.m (v := iX U61.parser.state) (hS145.cell (i := 0) (t := t24) (T := U61) rfl 98 (fun _ _ _ _ => by kernel_rfl)) (.m (v := uX U61.parser.utf.b0) (hS145.cell (i := 0) (t := t24) (T := U61) rfl 99 (fun _ _ _ _ => by kernel_rfl)) (.m (v := uX U61.parser.utf.b1) (hS145.cell (i := 0) (t := t24) (T := U61) rfl 100 (fun _ _ _ _ => by kernel_rfl)) (.m (v := uX U61.parser.utf.b2) (hS145.cell (i := 0) (t := t24) (T := U61) rfl 101 (fun _ _ _ _ => by kernel_rfl)) (.m (v := iX U61.parser.utf.n) (hS145.cell (i := 0) (t := t24) (T := U61) rfl 102 (fun _ _ _ _ => by kernel_rfl)) (.m (v := .string U61.parser.marks) (hS145.cell (i := 0) (t := t24) (T := U61) rfl 103 (fun _ _ _ _ => by kernel_rfl)) (.m hg164 (.m (v := .string U61.parser.text) (hS145.cell (i := 0) (t := t24) (T := U61) rfl 105 (fun _ _ _ _ => by kernel_rfl)) (.m (v := iX U61.parser.within) (hS145.cell (i := 0) (t := t24) (T := U61) rfl 106 (fun _ _ _ _ => by kernel_rfl)) (.e .z)))))))))) <| yK 85 (yQ (right_any U61.parser pa161 pn162 pc163 _ hS145.lt.ut hP60 hpl hpr166 hpl165 hpz167) fun w169 hc168 => ?_)
   have hS170 := hS145.same hc168
   refine x_killed <| yg hfr112 [86, 87] [] .z <| yGe (nS ?_)
   refine ycf <| x_skip (nB (nS ?_))
   refine x_region <| yp 2 [] (.q6 (((k : Nat) : Int) + 1) .z) <| yE (fun a ha => hL31 (k + 1, U61) _ ⟨by omega, (Sys.pre (bs' := [(b39, [.string (gs st k).text, iX (gs st k).w, iX (gs st k).h], 35)]) (show Sys w w169 (_ ++ [(b39, [.string (gs st k).text, iX (gs st k).w, iX (gs st k).h], 35)]) _ from hS170)), ⟨_, _, hO59⟩, hP60⟩ (by show (((st.length : Nat) : Int)).toNat - (k + 1) < (((st.length : Nat) : Int)).toNat - k; omega) a (ha.kp [5, 18, 19, 20]))
  have hf179 := hC55
  refine yk <| ys <| ys <| yD [5, 13, 22] fun w180 hH181 hc182 => ?_
  have hS183 := hS49.same hc182
  refine x_gfree (by kernel_rfl) (fun hfr184 => ?_)
  refine yg hfr184 (uL 0 5) [] (.m (v := iX U53.cursor.x) (hS183.cell (i := 0) (t := t24) (T := U53) rfl 2 (fun _ _ _ _ => by kernel_rfl)) (.m (v := iX U53.cursor.y) (hS183.cell (i := 0) (t := t24) (T := U53) rfl 3 (fun _ _ _ _ => by kernel_rfl)) (.m (v := .bool U53.cursor.late) (hS183.cell (i := 0) (t := t24) (T := U53) rfl 4 (fun _ _ _ _ => by kernel_rfl)) (.m (v := .bool U53.cursor.sty.bold) (hS183.cell (i := 0) (t := t24) (T := U53) rfl 5 (fun _ _ _ _ => by kernel_rfl)) (.m (v := .bool U53.cursor.sty.under) (hS183.cell (i := 0) (t := t24) (T := U53) rfl 6 (fun _ _ _ _ => by kernel_rfl)) (.m (v := .bool U53.cursor.sty.turned) (hS183.cell (i := 0) (t := t24) (T := U53) rfl 7 (fun _ _ _ _ => by kernel_rfl)) (.m (v := iX U53.cursor.sty.fore) (hS183.cell (i := 0) (t := t24) (T := U53) rfl 8 (fun _ _ _ _ => by kernel_rfl)) (.m (v := iX U53.cursor.sty.back) (hS183.cell (i := 0) (t := t24) (T := U53) rfl 9 (fun _ _ _ _ => by kernel_rfl)) (.e .z))))))))) ?_
  have hlm := hO51.lim.all
  have htz := hO51.ti
  have hpl := (hS183.fine (i := 0) rfl).2
  refine yK 5 (yQ (bcur_any hS183 U53.cursor (by omega) (by omega) (fun e => by have := hO51.cl rfl e; omega) hO51.cs (by omega)) fun w186 hc185 => ?_)
  have hS187 := hS183.same hc185
  refine x_killed <| yg hfr184 (uL 6 7) [] (.m (v := iX U53.saved.x) (hS187.cell (i := 0) (t := t24) (T := U53) rfl 10 (fun _ _ _ _ => by kernel_rfl)) (.m (v := iX U53.saved.y) (hS187.cell (i := 0) (t := t24) (T := U53) rfl 11 (fun _ _ _ _ => by kernel_rfl)) (.m (v := .bool U53.saved.late) (hS187.cell (i := 0) (t := t24) (T := U53) rfl 12 (fun _ _ _ _ => by kernel_rfl)) (.m (v := .bool U53.saved.sty.bold) (hS187.cell (i := 0) (t := t24) (T := U53) rfl 13 (fun _ _ _ _ => by kernel_rfl)) (.m (v := .bool U53.saved.sty.under) (hS187.cell (i := 0) (t := t24) (T := U53) rfl 14 (fun _ _ _ _ => by kernel_rfl)) (.m (v := .bool U53.saved.sty.turned) (hS187.cell (i := 0) (t := t24) (T := U53) rfl 15 (fun _ _ _ _ => by kernel_rfl)) (.m (v := iX U53.saved.sty.fore) (hS187.cell (i := 0) (t := t24) (T := U53) rfl 16 (fun _ _ _ _ => by kernel_rfl)) (.m (v := iX U53.saved.sty.back) (hS187.cell (i := 0) (t := t24) (T := U53) rfl 17 (fun _ _ _ _ => by kernel_rfl)) (.e .z))))))))) <| yK 13 (yQ (bcur_any hS187 U53.saved (by omega) (by omega) (fun e => by have := hO51.sl e; omega) hO51.ss (by omega)) fun w189 hc188 => ?_)
  have hS190 := hS187.same hc188
  refine x_killed <| yg hfr184 (uL 14 8) [] (.m (v := iX U53.away.x) (hS190.cell (i := 0) (t := t24) (T := U53) rfl 18 (fun _ _ _ _ => by kernel_rfl)) (.m (v := iX U53.away.y) (hS190.cell (i := 0) (t := t24) (T := U53) rfl 19 (fun _ _ _ _ => by kernel_rfl)) (.m (v := .bool U53.away.late) (hS190.cell (i := 0) (t := t24) (T := U53) rfl 20 (fun _ _ _ _ => by kernel_rfl)) (.m (v := .bool U53.away.sty.bold) (hS190.cell (i := 0) (t := t24) (T := U53) rfl 21 (fun _ _ _ _ => by kernel_rfl)) (.m (v := .bool U53.away.sty.under) (hS190.cell (i := 0) (t := t24) (T := U53) rfl 22 (fun _ _ _ _ => by kernel_rfl)) (.m (v := .bool U53.away.sty.turned) (hS190.cell (i := 0) (t := t24) (T := U53) rfl 23 (fun _ _ _ _ => by kernel_rfl)) (.m (v := iX U53.away.sty.fore) (hS190.cell (i := 0) (t := t24) (T := U53) rfl 24 (fun _ _ _ _ => by kernel_rfl)) (.m (v := iX U53.away.sty.back) (hS190.cell (i := 0) (t := t24) (T := U53) rfl 25 (fun _ _ _ _ => by kernel_rfl)) (.e .z))))))))) <| yK 22 (yQ (bcur_any hS190 U53.away (by omega) (by omega) (fun e => by have := hO51.al e; omega) hO51.ay (by omega)) fun w192 hc191 => ?_)
  have hS193 := hS190.same hc191
  refine x_killed <| yg hfr184 (uL 23 10) [] (.l (v := iX U53.top) (hS193.cell (i := 0) (t := t24) (T := U53) rfl 26 (fun _ _ _ _ => by kernel_rfl)) .z) <| yv [65] (rL U53.top 0) (fun hC194 => ?_) fun hC194 => ?_
  ·have hf195 := hC194
   exfalso; omega
  have hf196 := hC194
  refine yg hfr184 (uL 33 11) [] (.l (v := iX U53.top) (hS193.cell (i := 0) (t := t24) (T := U53) rfl 26 (fun _ _ _ _ => by kernel_rfl)) (.l (v := iX U53.bot) (hS193.cell (i := 0) (t := t24) (T := U53) rfl 27 (fun _ _ _ _ => by kernel_rfl)) .z)) <| yv [76] (rM U53.bot U53.top) (fun hC197 => ?_) fun hC197 => ?_
  ·have hf198 := hC197
   exfalso; omega
  have hf199 := hC197
  obtain ⟨g200, F201, hg202, hG203⟩ := hS193.grid (i := 0) rfl
  obtain ⟨r204, rc205, rows206, hI207⟩ := hG203
  have hlenhI207 := hI207.len
  refine yg hfr184 (uL 44 14) [] (.l (v := iX U53.bot) (hS193.cell (i := 0) (t := t24) (T := U53) rfl 27 (fun _ _ _ _ => by kernel_rfl)) (.l hg202 (.l (hI207.head.c 1) .z))) <| yv [90] (rL U53.grid.h U53.bot) (fun hC208 => ?_) fun hC208 => ?_
  ·have hf209 := hC208
   exfalso; omega
  have hf210 := hC208
  refine yg hfr184 (uL 58 10) [] (.l hg202 (.l (hI207.head.c 0) .z)) <| yv [100] (rL U53.grid.w 1) (fun hC211 => ?_) fun hC211 => ?_
  ·have hf212 := hC211
   exfalso; omega
  have hf213 := hC211
  refine yg hfr184 (uL 68 10) [] (.l hg202 (.l (hI207.head.c 0) .z)) <| yv [110] (rL 60 U53.grid.w) (fun hC214 => ?_) fun hC214 => ?_
  ·have hf215 := hC214
   exfalso; omega
  have hf216 := hC214
  refine yg hfr184 (uL 78 10) [] (.l hg202 (.l (hI207.head.c 1) .z)) <| yv [120] (rL U53.grid.h 1) (fun hC217 => ?_) fun hC217 => ?_
  ·have hf218 := hC217
   exfalso; omega
  have hf219 := hC217
  refine yg hfr184 (uL 88 9) [] (.l hg202 (.l (hI207.head.c 1) .z)) <| yGe (nS ?_)
  refine yc (rL 60 U53.grid.h) (fun hC220 => ?_) fun hC220 => ?_
  ·have hf221 := hC220
   exfalso; omega
  have hf222 := hC220
  refine yk <| ys <| yD [21, 45, 53, 85] fun w223 hH224 hc225 => ?_
  have hS226 := hS193.same hc225
  have hg227 := cell_ch hc225 hg202 id
  have hI228 := hI207.ch hc225 iZ
  refine x_gfree (by kernel_rfl) (fun hfr229 => ?_)
  refine yg hfr229 (uL 0 21) [] (.l hg227 (.l (hI228.head.c 2) (.l hg227 (.l (hI228.head.c 0) (.l hg227 (.l (hI228.head.c 1) .z)))))) <| dkeep [5, 18, 19, 20, 136, 143, 150] (f' := [(5, pX t24), (18, .slice (some ⟨sb, so, none⟩) st.length sc), (19, iX ((st.length : Nat) : Int)), (20, iX ((k : Nat) : Int)), (136, .slice (some ⟨r204, 0, none⟩) rows206.length rc205), (143, iX U53.grid.w), (150, iX U53.grid.h)]) <| yK 21 (yQ (wholes_any (some ⟨r204, 0, none⟩) (rows206.length) (rc205) (U53.grid.w) (U53.grid.h) _ hS226.lt.tb hI228.asLines (.inr ⟨_, _, rfl⟩) (by omega) (grid_hall hI228 hO51.g ⟨by omega, by omega, by omega⟩) (.inr (by omega))) fun w231 hc230 => ?_)
  have hS232 := hS226.same hc230
  have hg233 := cell_ch hc230 hg227 id
  have hI234 := hI228.ch hc230 iZ
  refine x_killed ?_
  obtain ⟨g235, F236, hg237, hG238⟩ := hS232.other (i := 0) rfl
  obtain ⟨r239, rc240, rows241, hI242⟩ := hG238
  have hlenhI242 := hI242.len
  refine yg hfr229 (uL 22 23) [] (.l hg237 (.l (hI242.head.c 2) (.l hg233 (.l (hI234.head.c 0) (.l hg233 (.l (hI234.head.c 1) .z)))))) <| yK 45 (yQ (wholes_any (some ⟨r239, 0, none⟩) (rows241.length) (rc240) (U53.grid.w) (U53.grid.h) _ hS232.lt.tb hI242.asLines (.inr ⟨_, _, rfl⟩) (by omega) (grid_hall hI242 hO51.o ⟨by omega, by omega, by omega⟩) (.inr (by omega))) fun w244 hc243 => ?_)
  have hS245 := hS232.same hc243
  refine x_killed ?_
  obtain ⟨ba250, bn251, bc252, ro253, FB254, hg255, hbl256, hL257, hm258, hz259⟩ := hS245.outs (i := 0) rfl
  refine yg hfr229 (uL 46 7) [] (.l hg255 .z) <| yK 53 (yQ (wholes_any ba250 (bn251) (bc252) ((-1)) ((-1)) _ hS245.lt.tb hL257 hz259 (by omega) (back_hall hL257 hm258 hO51.b) (.inl (by decide))) fun w261 hc260 => ?_)
  have hS262 := hS245.same hc260
  have hg265 := cell_ch hc260 hg255 id
  refine x_killed <| yg hfr229 (uL 54 11) [] (.l hg265 .z) <| yv [194] (rL 20 ((bn251 : Nat) : Int)) (fun hC269 => ?_) fun hC269 => ?_
  ·have hf270 := hC269
   exfalso; omega
  have hf271 := hC269
  refine yg hfr229 (uL 65 8) [] (.l (v := .string U53.reply) (hS262.cell (i := 0) (t := t24) (T := U53) rfl 107 (fun _ _ _ _ => by kernel_rfl)) .z) <| yv [202] (rL 400 ((U53.reply).size : Int)) (fun hC272 => ?_) fun hC272 => ?_
  ·have hf273 := hC272
   exfalso; omega
  have hf274 := hC272
  refine yg hfr229 (uL 73 8) [] (.l (v := .string U53.title) (hS262.cell (i := 0) (t := t24) (T := U53) rfl 96 (fun _ _ _ _ => by kernel_rfl)) .z) <| yv [210] (rL 40 ((U53.title).size : Int)) (fun hC275 => ?_) fun hC275 => ?_
  ·have hf276 := hC275
   exfalso; omega
  have hf277 := hC275
  obtain ⟨pa278, pn279, pc280, hg281, hpl282, hpr283, hpz284⟩ := hS262.pars (i := 0) rfl
  refine yg hfr229 (uL 81 4) [] (.m (v := iX U53.parser.state) (hS262.cell (i := 0) (t := t24) (T := U53) rfl 98 (fun _ _ _ _ => by kernel_rfl)) (.m (v := uX U53.parser.utf.b0) (hS262.cell (i := 0) (t := t24) (T := U53) rfl 99 (fun _ _ _ _ => by kernel_rfl)) (.m (v := uX U53.parser.utf.b1) (hS262.cell (i := 0) (t := t24) (T := U53) rfl 100 (fun _ _ _ _ => by kernel_rfl)) (.m (v := uX U53.parser.utf.b2) (hS262.cell (i := 0) (t := t24) (T := U53) rfl 101 (fun _ _ _ _ => by kernel_rfl)) (.m (v := iX U53.parser.utf.n) (hS262.cell (i := 0) (t := t24) (T := U53) rfl 102 (fun _ _ _ _ => by kernel_rfl)) (.m (v := .string U53.parser.marks) (hS262.cell (i := 0) (t := t24) (T := U53) rfl 103 (fun _ _ _ _ => by kernel_rfl)) (.m hg281 (.m (v := .string U53.parser.text) (hS262.cell (i := 0) (t := t24) (T := U53) rfl 105 (fun _ _ _ _ => by kernel_rfl)) (.m (v := iX U53.parser.within) (hS262.cell (i := 0) (t := t24) (T := U53) rfl 106 (fun _ _ _ _ => by kernel_rfl)) (.e .z)))))))))) <| yK 85 (yQ (right_any U53.parser pa278 pn279 pc280 _ hS262.lt.ut hP52 hpl hpr283 hpl282 hpz284) fun w286 hc285 => ?_)
  have hS287 := hS262.same hc285
  refine x_killed <| yg hfr229 [86, 87] [] .z <| yGe (nS ?_)
  refine ycf <| x_skip (nB (nS ?_))
  refine x_region <| yp 2 [] (.q6 (((k : Nat) : Int) + 1) .z) <| yE (fun a ha => hL31 (k + 1, U53) _ ⟨by omega, (Sys.pre (bs' := [(b39, [.string (gs st k).text, iX (gs st k).w, iX (gs st k).h], 35)]) (show Sys w w286 (_ ++ [(b39, [.string (gs st k).text, iX (gs st k).w, iX (gs st k).h], 35)]) _ from hS287)), ⟨_, _, hO51⟩, hP52⟩ (by show (((st.length : Nat) : Int)).toNat - (k + 1) < (((st.length : Nat) : Int)).toNat - k; omega) a (ha.kp [5, 18, 19, 20]))
 have hf296 := hC36
 refine x_exit (eS (then_exit (block_exit (nS ?_))))
 refine ysr <| yp 1 [] .z <| ye <| x_ret (yR1 (.bool true) ?_)
 exact ⟨rfl, hS33.ch⟩
set_option maxHeartbeats 4000000 in
theorem bounds_nil (p1 p2 : Int) (a : Option Addr) (sc : Nat) (w : World) (hT : LT w) (h7 : gTop ≤ w.heap.size) : Calls Tryz.prog 5 [.agg #[iX p1, iX p2], .slice a 0 sc].toArray w fun e w' => e = .returned (.bool true) ∧ Ch (fun _ => False) w w' := by
 have hS := Sys.start hT h7
 refine yA Tryz.func5 rfl <| ysr <| yo (yN [iX p1, iX p2] 22 fun w10 b11 hb12 hz13 hB14 hc15 => ?_)
 refine yp 2 [] .z <| ye <| ys <| ysr ?_
 have hS16 : Sys w w10 [(b11, [iX p1, iX p2], 22)] [] := hS.box hc15 hB14 (Nat.le_of_eq hb12.symm)
 refine yo (yQ (lawfit_any _ hS16.lt (Nat.le_trans hS16.top hS16.ch.size)) fun w18 hc17 => ?_)
 have hS19 := hS16.same hc17
 refine yp 2 [] .z <| ye <| ycf <| yk <| ys <| ysr <| yp 1 [] .z <| yo (yQ (short_nil a sc _ hS19.lt (Nat.le_trans hS19.top hS19.ch.size)) fun w21 hc20 => ?_)
 have hS22 := hS19.same hc20
 refine yp 3 [] .z <| ye <| yc (rN (rY (shortB []))) (fun hC23 => ?_) fun hC23 => ?_
 ·refine ysr <| yp 1 [] .z <| ye <| x_ret (rS (yR1 (.bool true) ?_))
  exact ⟨rfl, hS22.ch⟩
 have hsh := shortB_iff.1 hC23
 refine yk <| ysr <| yp 4 [] (.i 0 (2) (.l ((hS22.blk 0 (b11, [iX p1, iX p2], 22) rfl).c 0) (.i 1 (2) (.l ((hS22.blk 0 (b11, [iX p1, iX p2], 22) rfl).c 1) .z)))) <| yo (yC (hS22.new (p1) (p2)) ?_)
 rintro _ w27 ⟨t24, rfl, hS25, hc26⟩
 refine ⟨_, rfl, ?_⟩
 replace hS25 : Sys w w27 [(b11, [iX p1, iX p2], 22)] [(t24, (startT zeroT (p1) (p2)))] := hS25
 refine yp 6 [] .z <| ye <| ys <| ysr <| yp 3 [] .z <| ye <| x_block <| yU 1 (yU1 ?_)
 refine ysr <| yp 1 [] .z <| ye <| ys <| ycf <| x_exit (eS (then_exit (block_exit (nS ?_))))
 refine ysr <| yp 1 [] .z <| ye <| x_ret (yR1 (.bool true) ?_)
 exact ⟨rfl, hS25.ch⟩
theorem bounds_any (p1 p2 : Int) (a : Option Addr) (n sc : Nat) (st : List Stp) (w : World) (hT : LT w) (h7 : gTop ≤ w.heap.size) (ha : n = 0 ∨ ∃ b off, a = some ⟨b, off, none⟩) (hn : st.length = n) (hst : Rd w a (flatS st)) :
    Calls Tryz.prog 5 [.agg #[iX p1, iX p2], .slice a n sc].toArray w fun e w' => e = .returned (.bool true) ∧ Ch (fun _ => False) w w' := by
  rcases ha with rfl | ⟨b, off, rfl⟩
  · exact bounds_nil p1 p2 a sc w hT h7
  · subst hn; exact bounds_some p1 p2 b off sc st w hT h7 hst
end Go.Proofs.YteoejhjfbfacdaaGreatDoor.X
namespace Go.Proofs.YteoejhjfbfacdaaGreatDoor
open Go.ChangeShapes Go.WideShapes Go.ChangeAt Go.RowKit
theorem ownKnobNone : ownKnob Tryz.prog.godebug = none := by kernel_rfl
abbrev laidT : List (String × DataW Unit) := [("flipbook/glyph.wide", Rows.laid_flipbook_glyph_wide), ("flipbook/glyph.signs", Rows.laid_flipbook_glyph_signs), ("math/bits.deBruijn32tab", Rows.laid_math_bits_deBruijn32tab), ("math/bits.deBruijn64tab", Rows.laid_math_bits_deBruijn64tab), ("internal/strconv.uint64pow10", Rows.laid_internal_strconv_uint64pow10), ("unicode/utf8.acceptRanges", Rows.laid_unicode_utf8_acceptRanges), ("unicode/utf8.first", Rows.laid_unicode_utf8_first)]
theorem doorMet (os : Os) (args : Array Value) : laidMetH Tryz.prog laidT ((World.laidAll Tryz.prog os laidT).forCall (fun _ _ => 0) ⟨#[], args, []⟩).memory := by
 rw [MakeChecks.laidMetH_plain _ _ _ (by kernel_rfl)]; exact laidMet_laidAll _ (by kernel_rfl) (by kernel_rfl)
theorem doorShaped (os : Os) : (World.laidAll Tryz.prog os laidT).Shaped Tryz.prog := World.shaped_of_ZipB (by kernel_rfl) (by kernel_rfl)
theorem lits_of_trod {W : World} {g n t : Nat} {k : IntKind} {e : TypeId} (he : Tryz.prog.underlying e = some (.int k)) (ce : Tryz.prog.cellsOf e = 1) {name : String} {cs : Array Value} {fuel : Nat} {l : List Int} {q : List MemPlace} (hg : Tryz.prog.globalNamed name = some g) (hv : W.var? Tryz.prog name = some cs)
  (hd : DataW.trod (H := Unit) (fun _ => ()) Tryz.prog W 0 (fun _ => true) false fuel t cs.toList = some (.agg (l.map fun n => .lit (.int k n)), q))
  (ht : Tryz.prog.underlying t = some (.array n e)) (hl : l.length = n) : ∀ r, r < l.length → W.cell? ⟨g, r, none⟩ = some (.int k (l.getD r 0)) := by
 obtain ⟨xs, m, _, ex, _, hlx, hel⟩ := DataW.trod_array ht hd
 intro r hr
 have hE := hel r (by omega)
 rw [ce, Nat.mul_one, List.getElem?_eq_getElem (by omega)] at hE
 obtain ⟨z, e1, e2, _⟩ := DataW.trod_int he hE
 have e3 : (xs.map (·.1)) = l.map fun n => .lit (.int k n) := (DataW.agg.inj (Prod.mk.inj ex).1).symm
 have e4 : (xs.map (·.1))[r]? = (l.map fun n => (DataW.lit (.int k n) : DataW Unit))[r]? := by rw [e3]
 rw [List.getElem?_map, List.getElem?_map, List.getElem?_eq_getElem (by omega : r < xs.length), List.getElem?_eq_getElem (by omega : r < l.length), e2] at e4
 have hz : z = l.getD r 0 := by
  simp only [Option.map_some, Option.some.injEq, DataW.lit.injEq, Lit.int.injEq, true_and] at e4
  rw [e4, List.getD, List.getElem?_eq_getElem (by omega : r < l.length)]; rfl
 rw [World.var?_cell hg hv r, ← hz]
 have : cs.toList[r]? = some (.int k z) := by
  have h0 : ((cs.toList.drop r).take 1)[0]? = some (.int k z) := by rw [e1]; rfl
  simpa using h0
 simpa using this
theorem pairs_of_trod {W : World} {g n t e u : Nat} {k : IntKind} {fs : Array Field} (hs : Tryz.prog.underlying e = some (.struct fs)) (h0 : ∃ f, fs[0]? = some f ∧ f.type = u ∧ f.offset = 0) (h1 : ∃ f, fs[1]? = some f ∧ f.type = u ∧ f.offset = 1) (hz : fs.size = 2) (hu : Tryz.prog.underlying u = some (.int k)) (ce : Tryz.prog.cellsOf e = 2) (cu : Tryz.prog.cellsOf u = 1)
  {name : String} {cs : Array Value} {fuel : Nat} {l : List (Int × Int)} {q : List MemPlace} (hg : Tryz.prog.globalNamed name = some g) (hv : W.var? Tryz.prog name = some cs)
  (hd : DataW.trod (H := Unit) (fun _ => ()) Tryz.prog W 0 (fun _ => true) false fuel t cs.toList = some (.agg (l.map fun p => .agg [.lit (.int k p.1), .lit (.int k p.2)]), q))
  (ht : Tryz.prog.underlying t = some (.array n e)) (hl : l.length = n) : ∀ r p, l[r]? = some p → W.cell? ⟨g, r * 2, none⟩ = some (.int k p.1) ∧ W.cell? ⟨g, r * 2 + 1, none⟩ = some (.int k p.2) := by
 obtain ⟨xs, m, _, ex, _, hlx, hel⟩ := DataW.trod_array ht hd
 intro r p hp
 have hr : r < l.length := (List.getElem?_eq_some_iff.1 hp).1
 have hE := hel r (by omega)
 rw [ce, List.getElem?_eq_getElem (by omega)] at hE
 have e3 : (xs.map (·.1)) = l.map fun p => .agg [.lit (.int k p.1), .lit (.int k p.2)] := (DataW.agg.inj (Prod.mk.inj ex).1).symm
 have e4 : (xs.map (·.1))[r]? = (l.map fun p => (DataW.agg [.lit (.int k p.1), .lit (.int k p.2)] : DataW Unit))[r]? := by rw [e3]
 rw [List.getElem?_map, List.getElem?_map, List.getElem?_eq_getElem (by omega : r < xs.length), hp] at e4
 simp only [Option.map_some, Option.some.injEq] at e4
 obtain ⟨ys, m2, _, ey, _, hly, hfy⟩ := DataW.trod_struct hs hE
 rw [ey] at e4
 have e5 := DataW.agg.inj e4
 obtain ⟨f0, hf0, t0, o0⟩ := h0
 obtain ⟨f1, hf1, t1, o1⟩ := h1
 have k0 := hfy 0 f0 hf0
 have k1 := hfy 1 f1 hf1
 rw [t0, o0, cu, List.drop_zero, List.take_take] at k0
 rw [t1, o1, cu] at k1
 have hy : ys.length = 2 := by rw [hly, hz]
 rw [List.getElem?_eq_getElem (by omega)] at k0 k1
 obtain ⟨z0, a0, b0, _⟩ := DataW.trod_int hu k0
 obtain ⟨z1, a1, b1, _⟩ := DataW.trod_int hu k1
 have c0 : (ys.map (·.1))[0]? = some (.lit (.int k p.1)) := by rw [e5]; rfl
 have c1 : (ys.map (·.1))[1]? = some (.lit (.int k p.2)) := by rw [e5]; rfl
 rw [List.getElem?_map, List.getElem?_eq_getElem (by omega), b0] at c0
 rw [List.getElem?_map, List.getElem?_eq_getElem (by omega), b1] at c1
 simp only [Option.map_some, Option.some.injEq, DataW.lit.injEq, Lit.int.injEq, true_and] at c0 c1
 subst c0 c1
 have d0 : cs.toList[r * 2]? = some (.int k p.1) := by
  have h0 : ((cs.toList.drop (r * 2)).take (min 1 2))[0]? = some (.int k p.1) := by rw [a0]; rfl
  simpa using h0
 have d1 : cs.toList[r * 2 + 1]? = some (.int k p.2) := by
  have h0 : ((((cs.toList.drop (r * 2)).take 2).drop 1).take 1)[0]? = some (.int k p.2) := by rw [a1]; rfl
  simpa using h0
 exact ⟨by rw [World.var?_cell hg hv]; simpa using d0, by rw [World.var?_cell hg hv]; simpa using d1⟩
def firstL : List Int := (List.range 256).map X.firstN
def accL : List (Int × Int) := (List.range 16).map X.accN
theorem first_at {c : Nat} (h : c < 256) : firstL.length = 256 ∧ firstL.getD c 0 = X.firstN c := by
 have e : firstL.length = 256 := by simp [firstL]
 refine ⟨e, ?_⟩
 rw [List.getD, firstL, List.getElem?_map, List.getElem?_range h]; rfl
theorem acc_at {i : Nat} (h : i < 16) : accL[i]? = some (X.accN i) := by
 rw [accL, List.getElem?_map, List.getElem?_range h]; rfl
set_option maxRecDepth 100000 in
theorem lt_of_laid {W : World} (h : laidMetH Tryz.prog laidT W) : X.LT W := by
 rw [MakeChecks.laidMetH_plain _ _ _ (by kernel_rfl)] at h
 obtain ⟨ps, ⟨g0, t0, cs0, f0, p0, q0, hg0, ht0, hv0, hd0, ⟨g1, t1, cs1, f1, p1, q1, hg1, ht1, hv1, hd1, ⟨g2, t2, cs2, f2, p2, q2, hg2, ht2, hv2, hd2, ⟨g3, t3, cs3, f3, p3, q3, hg3, ht3, hv3, hd3, ⟨g4, t4, cs4, f4, p4, q4, hg4, ht4, hv4, hd4, ⟨g5, t5, cs5, f5, p5, q5, hg5, ht5, hv5, hd5, ⟨g6, t6, cs6, f6, p6, q6, hg6, ht6, hv6, hd6, _, _⟩, _⟩, _⟩, _⟩, _⟩, _⟩, _⟩, _, _⟩ := h
 obtain rfl := Option.some.inj ((show Tryz.prog.globalNamed "flipbook/glyph.wide" = some 0 by kernel_rfl).symm.trans hg0)
 obtain rfl := Option.some.inj ((show Tryz.prog.globalNamed "flipbook/glyph.signs" = some 3 by kernel_rfl).symm.trans hg1)
 obtain rfl := Option.some.inj ((show Tryz.prog.globalNamed "internal/strconv.uint64pow10" = some 4 by kernel_rfl).symm.trans hg4)
 obtain rfl := Option.some.inj ((show Tryz.prog.globalNamed "unicode/utf8.acceptRanges" = some 2 by kernel_rfl).symm.trans hg5)
 obtain rfl := Option.some.inj ((show Tryz.prog.globalNamed "unicode/utf8.first" = some 1 by kernel_rfl).symm.trans hg6)
 obtain rfl := Option.some.inj ((show (Tryz.prog.globals[0]?).map (·.type) = some 142 by kernel_rfl).symm.trans ht0)
 obtain rfl := Option.some.inj ((show (Tryz.prog.globals[3]?).map (·.type) = some 159 by kernel_rfl).symm.trans ht1)
 obtain rfl := Option.some.inj ((show (Tryz.prog.globals[4]?).map (·.type) = some 182 by kernel_rfl).symm.trans ht4)
 obtain rfl := Option.some.inj ((show (Tryz.prog.globals[2]?).map (·.type) = some 146 by kernel_rfl).symm.trans ht5)
 obtain rfl := Option.some.inj ((show (Tryz.prog.globals[1]?).map (·.type) = some 143 by kernel_rfl).symm.trans ht6)
 have z6 : Rows.laid_unicode_utf8_first = .agg (firstL.map fun n => .lit (.int .u8 n)) := by kernel_rfl
 rw [z6] at hd6
 have z5 : (Rows.laid_unicode_utf8_acceptRanges : DataW Unit) = .agg (accL.map fun p => .agg [.lit (.int .u8 p.1), .lit (.int .u8 p.2)]) := by kernel_rfl
 rw [z5] at hd5
 refine ⟨⟨lits_of_trod (k := .i32) (e := 21) (by kernel_rfl) (by kernel_rfl) hg0 hv0 hd0 (by kernel_rfl) rfl, lits_of_trod (k := .i32) (e := 21) (by kernel_rfl) (by kernel_rfl) hg1 hv1 hd1 (by kernel_rfl) rfl⟩, ⟨fun c hc => ?_, fun i hi => ?_⟩, fun i hi => ?_⟩
 ·have := lits_of_trod (k := .u8) (e := 5) (by kernel_rfl) (by kernel_rfl) hg6 hv6 hd6 (by kernel_rfl) (first_at hc).1 c (by rw [(first_at hc).1]; exact hc)
  rw [(first_at hc).2] at this; exact this
 ·exact pairs_of_trod (k := .u8) (e := 145) (u := 5) Tryz.underlying145 ⟨_, rfl, rfl, rfl⟩ ⟨_, rfl, rfl, rfl⟩ rfl Tryz.underlying5 (by kernel_rfl) (by kernel_rfl) hg5 hv5 hd5 Tryz.underlying146 (by simp [accL]) i _ (acc_at hi)
 ·have h1 := lits_of_trod (k := .u64) (e := 173) (l := [1, 10, 100, 1000, 10000, 100000, 1000000, 10000000, 100000000, 1000000000, 10000000000, 100000000000, 1000000000000, 10000000000000, 100000000000000, 1000000000000000, 10000000000000000, 100000000000000000, 1000000000000000000, 10000000000000000000]) (by kernel_rfl) (by kernel_rfl) hg4 hv4 hd4 (by kernel_rfl) rfl i (Nat.lt_of_lt_of_le hi (by decide))
  rw [h1]
  obtain rfl | rfl | rfl : i = 0 ∨ i = 1 ∨ i = 2 := by omega
  all_goals rfl
end Go.Proofs.YteoejhjfbfacdaaGreatDoor
namespace Go.Proofs.YteoejhjfbfacdaaGreatDoor
open Go.ChangeShapes Go.WideShapes Go.ChangeAt Go.RowKit
section
variable {H : Type} {enc : TypeId × Value → H} {P : Program} {w : World} {base : Nat} {spare : Nat → Bool} {held : Bool}
theorem take_one {α : Type} {l : List α} {i : Nat} {x : α} (h : (l.drop i).take 1 = [x]) : l[i]? = some x := by
 have h0 : ((l.drop i).take 1)[0]? = some x := by rw [h]; rfl
 simpa using h0
theorem open_pair {r : Reach} {b0 : Nat} {t e : TypeId} {k : IntKind} {v : Value} {d : DataW H} {ps : List MemPlace} (ht : P.underlying t = some (.array 2 e)) (he : P.underlying e = some (.int k)) (ce : P.cellsOf e = 1) (ct : P.cellsOf t = 2)
  (hval : Value.okWide P w r b0 t v) (hd : DataW.Trod enc P w base spare held t v d ps) :
  ∃ a b, v = .agg #[.int k a, .int k b] ∧ d = .agg [.lit (.int k a), .lit (.int k b)] ∧ ps = [] ∧ (Lit.int k a).wf = true ∧ (Lit.int k b).wf = true := by
 obtain ⟨cs, rfl, hs, _⟩ : ∃ cs, v = .agg cs ∧ cs.size = 2 ∧ True := by
  unfold Value.okWide at hval
  rw [ht] at hval
  obtain ⟨cs, h1, h2, _⟩ := hval
  exact ⟨cs, h1, by rw [h2, ct], trivial⟩
 obtain ⟨fuel, hf⟩ := hd
 obtain ⟨xs, m, _, ex, _, hlx, hel⟩ := DataW.trod_array ht hf
 have k0 := hel 0 (by omega)
 have k1 := hel 1 (by omega)
 rw [ce, List.getElem?_eq_getElem (by omega)] at k0 k1
 obtain ⟨a, a0, b0, w0⟩ := DataW.trod_int he k0
 obtain ⟨b, a1, b1, w1⟩ := DataW.trod_int he k1
 have c0 := take_one a0
 have c1 := take_one a1
 simp only [Value.cells, Nat.zero_mul, Nat.one_mul] at c0 c1
 have hcs : cs = #[.int k a, .int k b] := by
  apply Array.ext'
  match hl : cs.toList, (show cs.toList.length = 2 by simpa using hs) with
  | [x, y], _ =>
   rw [hl] at c0 c1
   simp at c0 c1
   rw [c0, c1]
 have hxs : xs = [(.lit (.int k a), []), (.lit (.int k b), [])] := by
  match xs, hlx with
  | [x, y], _ =>
   simp at b0 b1
   rw [b0, b1]
 subst hcs hxs
 have e1 := (Prod.mk.inj ex)
 exact ⟨a, b, rfl, by simpa using e1.1, by simpa using e1.2, w0, w1⟩
theorem shut_pair {t e : TypeId} {k : IntKind} {a b : Int} (ht : P.underlying t = some (.array 2 e)) (he : P.underlying e = some (.int k)) (ce : P.cellsOf e = 1) (ct : P.cellsOf t = 2) (wa : (Lit.int k a).wf = true) (wb : (Lit.int k b).wf = true) :
  DataW.Trod enc P w base spare held t (.agg #[.int k a, .int k b]) (.agg [.lit (.int k a), .lit (.int k b)]) [] :=
 ⟨2, by simp [DataW.trod, Value.cells, ht, he, ce, ct, wa, wb, List.range_succ]⟩
end
theorem below_of_ch {w w' : World} (h : X.Ch (fun _ => False) w w') : Below w.heap.size w w' := ⟨h.os, h.tape, h.output, h.size, fun k hk => h.block k hk id⟩
theorem top_of_laid {W : World} (h : laidMetH Tryz.prog laidT W) : X.gTop ≤ W.heap.size := by
 rw [MakeChecks.laidMetH_plain _ _ _ (by kernel_rfl)] at h
 obtain ⟨ps, ⟨g0, t0, cs0, f0, p0, q0, hg0, ht0, hv0, hd0, ⟨g1, t1, cs1, f1, p1, q1, hg1, ht1, hv1, hd1, ⟨g2, t2, cs2, f2, p2, q2, hg2, ht2, hv2, hd2, ⟨g3, t3, cs3, f3, p3, q3, hg3, ht3, hv3, hd3, _, _⟩, _⟩, _⟩, _⟩, _, _⟩ := h
 obtain rfl := Option.some.inj ((show Tryz.prog.globalNamed "math/bits.deBruijn64tab" = some 6 by kernel_rfl).symm.trans hg3)
 obtain rfl := Option.some.inj ((show (Tryz.prog.globals[6]?).map (·.type) = some 188 by kernel_rfl).symm.trans ht3)
 obtain ⟨xs, m, _, _, hlen, _⟩ := DataW.trod_array Tryz.underlying188 hd3
 have hl : cs3.toList.length = 64 := hlen.trans (by kernel_rfl)
 have hc := World.var?_cell hg3 hv3 0
 have : ∃ v, cs3[0]? = some v := ⟨_, Array.getElem?_eq_getElem (by simpa using (show 0 < cs3.toList.length by omega))⟩
 obtain ⟨v, hv⟩ := this
 rw [hv] at hc
 have := X.cell_lt hc
 show 7 ≤ _
 omega
end Go.Proofs.YteoejhjfbfacdaaGreatDoor
namespace Go.Proofs.YteoejhjfbfacdaaGreatDoor
open Go.ChangeShapes Go.WideShapes Go.ChangeAt Go.RowKit
section
variable {H : Type} {enc : TypeId × Value → H} {w : World} {base : Nat}
theorem three_of {cs : List Value} {a b c : Value} (hl : cs.length = 3) (h0 : cs[0]? = some a) (h1 : cs[1]? = some b) (h2 : cs[2]? = some c) : cs = [a, b, c] := by
 match cs, hl with
 | [u0, u1, u2], _ =>
  simp only [List.getElem?_cons_zero, List.getElem?_cons_succ, Option.some.injEq] at h0 h1 h2
  rw [h0, h1, h2]
set_option maxRecDepth 100000 in
theorem step_cells {spare : Nat → Bool} {held : Bool} {n : Nat} {cs : List Value} {x : DataW H × List MemPlace} (h : DataW.trod enc Tryz.prog w base spare held n 35 cs = some x) (hl : cs.length = 3) : ∃ y : X.Stp, cs = y.vals := by
 obtain ⟨xs, m, _, _, _, hlx, hf⟩ := DataW.trod_struct Tryz.underlying35 h
 have c1 : Tryz.prog.cellsOf 9 = 1 := by kernel_rfl
 have c2 : Tryz.prog.cellsOf 3 = 1 := by kernel_rfl
 have k0 : DataW.trod enc Tryz.prog w base spare held m 9 ((cs.drop 0).take (Tryz.prog.cellsOf 9)) = xs[0]? := hf 0 _ rfl
 have k1 : DataW.trod enc Tryz.prog w base spare held m 3 ((cs.drop 1).take (Tryz.prog.cellsOf 3)) = xs[1]? := hf 1 _ rfl
 have k2 : DataW.trod enc Tryz.prog w base spare held m 3 ((cs.drop 2).take (Tryz.prog.cellsOf 3)) = xs[2]? := hf 2 _ rfl
 rw [c1] at k0
 rw [c2] at k1 k2
 have hlx3 : xs.length = 3 := hlx
 rw [List.getElem?_eq_getElem (by omega)] at k0 k1 k2
 obtain ⟨s, a0, _⟩ := DataW.trod_string Tryz.underlying9 k0
 obtain ⟨a, a1, _⟩ := DataW.trod_int Tryz.underlying3 k1
 obtain ⟨b, a2, _⟩ := DataW.trod_int Tryz.underlying3 k2
 have g0 := take_one a0
 have g1 := take_one a1
 have g2 := take_one a2
 exact ⟨⟨s, a, b⟩, three_of hl g0 g1 g2⟩
set_option maxRecDepth 100000 in
theorem open_steps {r : Reach} {b0 : Nat} {t : TypeId} {v : Value} {d : DataW H} {ps : List MemPlace} (ht : Tryz.prog.underlying t = some (.slice 35)) (hval : Value.okWide Tryz.prog w r b0 t v) (hd : DataW.Trod enc Tryz.prog w base (fun _ => true) true t v d ps) :
  ∃ (a : Option Addr) (n sc : Nat) (st : List X.Stp), v = .slice a n sc ∧ (n = 0 ∨ ∃ b off, a = some ⟨b, off, none⟩) ∧ st.length = n ∧ X.Rd w a (X.flatS st) := by
 obtain ⟨a0, n0, c0, rfl⟩ := okWide_slice ht hval
 obtain ⟨fuel, hf⟩ := hd
 have ce : Tryz.prog.cellsOf 35 = 3 := by kernel_rfl
 rcases Deep.open_slice ht hf with ⟨h0, _⟩ | ⟨a, len, cap, m, n, D, Pl, hv, _, hl, _, hm, _, hx⟩
 ·have h1 : Value.slice a0 n0 c0 = .slice none 0 0 := List.head_eq_of_cons_eq h0
  exact ⟨none, 0, 0, [], h1, .inl rfl, rfl, X.Rd.nil _ _⟩
 ·have h1 : Value.slice a0 n0 c0 = .slice (some a) len cap := List.head_eq_of_cons_eq hv
  have hm' : m = cap := by simpa using hm
  rw [ce] at hx
  have each : ∀ i, i < len → ∃ y : X.Stp, w.cells? base (a.add (i * 3)) 3 = some y.vals := fun i hi => by
   obtain ⟨cs, e1, e2⟩ := hx i (by omega)
   obtain ⟨_, hlen, _⟩ := World.cells?_some e1
   obtain ⟨y, rfl⟩ := step_cells e2 hlen
   exact ⟨y, e1⟩
  have : Inhabited X.Stp := ⟨X.stp0⟩
  obtain ⟨f, hfy⟩ := Deep.choose_lt each
  refine ⟨some a, len, cap, (List.range len).map f, h1, ?_, by simp, fun e => (by cases e), fun ad e j u hj => ?_⟩
  ·rcases Nat.eq_zero_or_pos len with h0 | h0
   ·exact .inl h0
   ·right
    obtain ⟨_, _, hc⟩ := World.cells?_some (hfy 0 h0)
    have h2 := hc 0 (by omega)
    rw [Deep.add_add] at h2
    have h3 : w.cell? a = some (.string (f 0).text) := h2
    obtain ⟨b, off, sp⟩ := a
    cases sp with
    | none => exact ⟨b, off, rfl⟩
    | some q =>
     unfold World.cell? at h3
     split at h3
     ·simp at h3
     ·cases h3
  ·obtain rfl := Option.some.inj e
   have hlen : (X.flatS ((List.range len).map f)).length = len * 3 := by rw [X.flatS_len]; simp
   have hlt : j < len * 3 := by
    rw [← hlen]
    exact (List.getElem?_eq_some_iff.1 hj).1
   have hi : j / 3 < len := by omega
   have hr : j % 3 < 3 := by omega
   have hjj : j = j / 3 * 3 + j % 3 := by omega
   have h2 := X.flatS_get ((List.range len).map f) (j / 3) (j % 3) (by simpa using hi) hr
   rw [← hjj, hj] at h2
   have hg : X.gs ((List.range len).map f) (j / 3) = f (j / 3) := by simp [X.gs, List.getD, hi]
   rw [hg] at h2
   obtain ⟨_, _, hc⟩ := World.cells?_some (hfy (j / 3) hi)
   have h3 := hc (j % 3) hr
   rw [Deep.add_add, ← hjj] at h3
   rw [h3, ← h2]
end
end Go.Proofs.YteoejhjfbfacdaaGreatDoor
