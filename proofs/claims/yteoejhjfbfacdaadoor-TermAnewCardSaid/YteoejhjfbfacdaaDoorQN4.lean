/- What the proof of TermAnew needs, part 4: the walks of the program's functions and the plain laws about them. -/
import Derived.Test.YteoejhjfbfacdaaDoorQN3
set_option linter.unusedSimpArgs false
set_option linter.unusedVariables false
namespace Go.Proofs.YteoejhjfbfacdaaDoor.X
open Go Go.RowKit Go.Proofs.YteoejhjfbfacdaaDoor
theorem atP_state (s : Int) : (atP s).state = s := rfl
set_option maxHeartbeats 4000000 in
theorem feed_any {w : World} {po : Option Nat} {pn pc : Nat} {p : PS} (hP : IntsAt w .i64 po pn pc p.params (fun b => po = some b)) (c : Int) (hcB : 0 ≤ c ∧ c ≤ 255) (hU : UTabs w) (hp : p.lim) (hn8 : pn ≤ 8) : Calls Tryd.prog 25 [.agg #[.int .i64 p.state, .int .u8 p.utf.b0, .int .u8 p.utf.b1, .int .u8 p.utf.b2, .int .i64 p.utf.n, .string p.marks, .slice (po.map at0) pn pc, .string p.text, .int .i64 p.within], .int .u8 c].toArray w fun e w' => Fed w w' e po (feedP p c).1 (feedP p c).2 := by
 refine yA Tryd.func25 rfl <| ysr <| yo (yN [iX p.state, uX p.utf.b0, uX p.utf.b1, uX p.utf.b2, iX p.utf.n, .string p.marks, .slice (po.map at0) pn pc, .string p.text, iX p.within] 39 fun w10 b11 hb12 hz13 hB14 hc15 => ?_)
 have hlo16 : w.heap.size ≤ b11 := by rw [hb12]; exact Ch.size (Up.refl w.heap.size w)
 have hu17 := Up.step (Up.refl w.heap.size w) hc15 iZ
 have hp18 := hP.ch hc15 iZ
 have hU19 := utabs_ch hc15 hU id id
 refine yo (yN [iX 0, uX 0, uX 0, uX 0, iX 0, .string ByteArray.empty, .slice none 0 0, .string ByteArray.empty, iX 0] 39 fun w20 b21 hb22 hz23 hB24 hc25 => ?_)
 have hlo26 : w.heap.size ≤ b21 := by rw [hb22]; exact Ch.size hu17
 have hu27 := Up.step hu17 hc25 iZ
 have hp28 := hp18.ch hc25 iZ
 have hU29 := utabs_ch hc25 hU19 id id
 have hB30 := hB14.ch hc25 id
 refine yp 3 [] .z <| ye <| x_scope 0 ([(1, uX c), (2, pX b11), (4, pX b21), (5, .slice none 0 0)]) (fun u => (p.state = 7 ∧ c ≠ 92) ∧ Blk u b11 [iX 1, uX 0, uX 0, uX 0, iX 0, .string ByteArray.empty, .slice none 0 0, .string ByteArray.empty, iX 0] 39 ∧ Blk u b21 [iX 0, uX 0, uX 0, uX 0, iX 0, .string ByteArray.empty, .slice none 0 0, .string ByteArray.empty, iX 0] 39 ∧ Up w.heap.size w u) rfl ?_ (fun u31 hJ32 => ?_)
 ·refine ys <| x_label (nS ?_)
  refine ys <| x_block <| ysr <| yp 4 [] (.l (hB30.c 0) .z) <| ye <| yc (rE p.state 0) (fun hC33 => ?_) fun hC33 => ?_
  ·have hpp0 := hC33
   refine ysr <| yp 2 [] (.a (hB30.cs 0 9) .z) <| yo (yC (ground_any hp28 c hcB hU29 hp) ?_)
   rintro _ w43 ⟨qo34, qn35, qc36, ao37, an38, ac39, rfl, hq40, ha41, hc42⟩
   refine ⟨_, rfl, ?_⟩
   have hold44 : b11 < w20.heap.size := hB30.lt
   have hold45 : b21 < w20.heap.size := hB24.lt
   have hu46 := Up.step hu27 hc42 iZ
   have hB50 := hB24.ch hc42 id
   have hs51 : w43.heap.size ≤ w43.heap.size := Nat.le_refl _
   refine yp 5 [] .z <| yo (yS hB50 fun w52 hB53 hc54 => ?_)
   have hu55 := Up.step hu46 hc54 (fun i hi (h : i = b21) => by omega)
   have hq59 := hq40.ch hc54 (fun b hb (e : b = b21) => hb.elim (fun hb => by have := (hP.2.2.2 b hb).2; have := hlo26; omega) (fun hb => by have := hold45; omega))
   have ha60 := ha41.ch hc54 (fun b hb (e : b = b21) => by have := hold45; omega)
   have hs61 := Nat.le_trans hs51 (Ch.size hc54)
   replace hB53 : Blk w52 b21 [iX (groundP p c).1.state, uX (groundP p c).1.utf.b0, uX (groundP p c).1.utf.b1, uX (groundP p c).1.utf.b2, iX (groundP p c).1.utf.n, .string (groundP p c).1.marks, .slice (qo34.map at0) qn35 qc36, .string (groundP p c).1.text, iX (groundP p c).1.within] _ := Blk.to hB53 (by kernel_rfl)
   refine yp 7 [] .z <| ye <| x_ret (rB (rS (jump_ret (yR2 [.agg #[iX (groundP p c).1.state, uX (groundP p c).1.utf.b0, uX (groundP p c).1.utf.b1, uX (groundP p c).1.utf.b2, iX (groundP p c).1.utf.n, .string (groundP p c).1.marks, .slice (qo34.map at0) qn35 qc36, .string (groundP p c).1.text, iX (groundP p c).1.within], .slice (ao37.map at0) an38 ac39] (.a (hB53.cs 0 9) .z) ?_))))
   have hpre := Ch.size hu27
   refine Fed.mk2 (p' := (groundP p c).1) (l := (groundP p c).2) qo34 qn35 qc36 ao37 an38 ac39 rfl (hq59.mono fun b hb => hb.imp id fun h => ⟨by omega, by omega⟩) (ha60.mono fun b h => ⟨⟨by omega, by omega⟩, h.2⟩) (Up.ch hu55) ?_
   simp only [feedP, feedP1, hpp0, ↓reduceIte, Int.reduceEq, Int.reduceLE, Int.reduceLT, reduceCtorEq, and_true, and_self, true_and, or_true, true_or, or_false, false_or, and_false, false_and, ne_eq, not_true, not_false_iff]
  have hpp0 := hC33
  refine ysr <| yp 4 [] (.l (hB30.c 0) .z) <| ye <| yc (rE p.state 7) (fun hC62 => ?_) fun hC62 => ?_
  ·have hpp1 := hC62
   refine ys <| ysr <| yp 2 [] .z <| ye <| yc (rE c 92) (fun hC63 => ?_) fun hC63 => ?_
   ·have hpp2 := hC63
    refine ysr <| yp 3 [] (.a (hB30.cs 0 9) (.l (hB30.c 8) .z)) <| yo (yC (finish_any hp28 p.within ) ?_)
    rintro _ w73 ⟨qo64, qn65, qc66, ao67, an68, ac69, rfl, hq70, ha71, hc72⟩
    refine ⟨_, rfl, ?_⟩
    have hold74 : b11 < w20.heap.size := hB30.lt
    have hold75 : b21 < w20.heap.size := hB24.lt
    have hu76 := Up.step hu27 hc72 iZ
    have hB80 := hB24.ch hc72 id
    have hs81 : w73.heap.size ≤ w73.heap.size := Nat.le_refl _
    refine yp 6 [] .z <| yo (yS hB80 fun w82 hB83 hc84 => ?_)
    have hu85 := Up.step hu76 hc84 (fun i hi (h : i = b21) => by omega)
    have hq89 := hq70.ch hc84 (fun b hb (e : b = b21) => hb.elim (fun hb => by have := (hP.2.2.2 b hb).2; have := hlo26; omega) (fun hb => by have := hold75; omega))
    have ha90 := ha71.ch hc84 (fun b hb (e : b = b21) => by have := hold75; omega)
    have hs91 := Nat.le_trans hs81 (Ch.size hc84)
    replace hB83 : Blk w82 b21 [iX (finishP p p.within).1.state, uX (finishP p p.within).1.utf.b0, uX (finishP p p.within).1.utf.b1, uX (finishP p p.within).1.utf.b2, iX (finishP p p.within).1.utf.n, .string (finishP p p.within).1.marks, .slice (qo64.map at0) qn65 qc66, .string (finishP p p.within).1.text, iX (finishP p p.within).1.within] _ := Blk.to hB83 (by kernel_rfl)
    refine yp 8 [] .z <| ye <| x_ret (rS (rB (rS (jump_ret (yR2 [.agg #[iX (finishP p p.within).1.state, uX (finishP p p.within).1.utf.b0, uX (finishP p p.within).1.utf.b1, uX (finishP p p.within).1.utf.b2, iX (finishP p p.within).1.utf.n, .string (finishP p p.within).1.marks, .slice (qo64.map at0) qn65 qc66, .string (finishP p p.within).1.text, iX (finishP p p.within).1.within], .slice (ao67.map at0) an68 ac69] (.a (hB83.cs 0 9) .z) ?_)))))
    have hpre := Ch.size hu27
    refine Fed.mk2 (p' := (finishP p p.within).1) (l := (finishP p p.within).2) qo64 qn65 qc66 ao67 an68 ac69 rfl (hq89.mono fun b hb => hb.imp id fun h => ⟨by omega, by omega⟩) (ha90.mono fun b h => ⟨⟨by omega, by omega⟩, h.2⟩) (Up.ch hu85) ?_
    simp only [feedP, feedP1, eq_false hpp0, hpp1, hpp2, ↓reduceIte, Int.reduceEq, Int.reduceLE, Int.reduceLT, reduceCtorEq, and_true, and_self, true_and, or_true, true_or, or_false, false_or, and_false, false_and, ne_eq, not_true, not_false_iff]
   have hpp2 := hC63
   refine yk <| ysr <| yo (yQ (pat_any 1 _) fun w93 hc92 => ?_)
   have hu94 := Up.step hu27 hc92 iZ
   have hB97 := hB30.ch hc92 id
   have hB98 := hB24.ch hc92 id
   refine yo (yS hB97 fun w99 hB100 hc101 => ?_)
   have hu102 := Up.step hu94 hc101 (fun i hi (h : i = b11) => by omega)
   have hB105 := hB98.ch hc101 (fun (h : b21 = b11) => by have := hB14.lt; omega)
   replace hB100 : Blk w99 b11 [iX 1, uX 0, uX 0, uX 0, iX 0, .string ByteArray.empty, .slice none 0 0, .string ByteArray.empty, iX 0] _ := Blk.to hB100 (by kernel_rfl)
   refine ye <| ykeep [1, 2, 4, 5] (f' := [(1, uX c), (2, pX b11), (4, pX b21), (5, .slice none 0 0)]) ?_
   exact x_goto (block_goto (gS (jump_goto ⟨⟨hpp1, hpp2⟩, hB100, hB105, hu102⟩)))
  have hpp1 := hC62
  refine ysr <| yp 4 [] (.l (hB30.c 0) .z) <| ye <| yc (rM 5 p.state) (fun hC106 => ?_) fun hC106 => ?_
  ·have hpp2 := hC106
   refine ysr <| yp 2 [] (.a (hB30.cs 0 9) .z) <| yo (yC (string_any hp28 c (by have := hp.t; omega)) ?_)
   rintro _ w116 ⟨qo107, qn108, qc109, ao110, an111, ac112, rfl, hq113, ha114, hc115⟩
   refine ⟨_, rfl, ?_⟩
   have hold117 : b11 < w20.heap.size := hB30.lt
   have hold118 : b21 < w20.heap.size := hB24.lt
   have hu119 := Up.step hu27 hc115 iZ
   have hB123 := hB24.ch hc115 id
   have hs124 : w116.heap.size ≤ w116.heap.size := Nat.le_refl _
   refine yp 5 [] .z <| yo (yS hB123 fun w125 hB126 hc127 => ?_)
   have hu128 := Up.step hu119 hc127 (fun i hi (h : i = b21) => by omega)
   have hq132 := hq113.ch hc127 (fun b hb (e : b = b21) => hb.elim (fun hb => by have := (hP.2.2.2 b hb).2; have := hlo26; omega) (fun hb => by have := hold118; omega))
   have ha133 := ha114.ch hc127 (fun b hb (e : b = b21) => by have := hold118; omega)
   have hs134 := Nat.le_trans hs124 (Ch.size hc127)
   replace hB126 : Blk w125 b21 [iX (stringP p c).1.state, uX (stringP p c).1.utf.b0, uX (stringP p c).1.utf.b1, uX (stringP p c).1.utf.b2, iX (stringP p c).1.utf.n, .string (stringP p c).1.marks, .slice (qo107.map at0) qn108 qc109, .string (stringP p c).1.text, iX (stringP p c).1.within] _ := Blk.to hB126 (by kernel_rfl)
   refine yp 7 [] .z <| ye <| x_ret (rB (rS (jump_ret (yR2 [.agg #[iX (stringP p c).1.state, uX (stringP p c).1.utf.b0, uX (stringP p c).1.utf.b1, uX (stringP p c).1.utf.b2, iX (stringP p c).1.utf.n, .string (stringP p c).1.marks, .slice (qo107.map at0) qn108 qc109, .string (stringP p c).1.text, iX (stringP p c).1.within], .slice (ao110.map at0) an111 ac112] (.a (hB126.cs 0 9) .z) ?_))))
   have hpre := Ch.size hu27
   refine Fed.mk2 (p' := (stringP p c).1) (l := (stringP p c).2) qo107 qn108 qc109 ao110 an111 ac112 rfl (hq132.mono fun b hb => hb.imp id fun h => ⟨by omega, by omega⟩) (ha133.mono fun b h => ⟨⟨by omega, by omega⟩, h.2⟩) (Up.ch hu128) ?_
   simp only [feedP, feedP1, eq_false hpp0, eq_false hpp1, eq_true hpp2, ↓reduceIte, Int.reduceEq, Int.reduceLE, Int.reduceLT, reduceCtorEq, and_true, and_self, true_and, or_true, true_or, or_false, false_or, and_false, false_and, ne_eq, not_true, not_false_iff]
  have hpp2 := hC106
  refine ysr <| yp 3 [] .z <| yw [40] (rE c 24) (fun hC135 => ?_) fun hC135 => ?_
  ·have hpp3 := hC135
   refine yp 7 [] .z <| ye <| yct <| ysr <| yo (yQ (pat_any 0 _) fun w137 hc136 => ?_)
   have hu138 := Up.step hu27 hc136 iZ
   have hB142 := hB24.ch hc136 id
   refine yo (yS hB142 fun w143 hB144 hc145 => ?_)
   have hu146 := Up.step hu138 hc145 (fun i hi (h : i = b21) => by omega)
   replace hB144 : Blk w143 b21 [iX 0, uX 0, uX 0, uX 0, iX 0, .string ByteArray.empty, .slice none 0 0, .string ByteArray.empty, iX 0] _ := Blk.to hB144 (by kernel_rfl)
   refine yp 3 [] .z <| ye <| x_ret (rB (rS (jump_ret (yR2 [.agg #[iX 0, uX 0, uX 0, uX 0, iX 0, .string ByteArray.empty, .slice none 0 0, .string ByteArray.empty, iX 0], .slice none 0 0] (.a (hB144.cs 0 9) .z) ?_))))
   refine Fed.mk' (p' := (PS.mk 0 ⟨0, 0, 0, 0⟩ ByteArray.empty [] ByteArray.empty 0)) (l := []) none 0 0 none 0 0 (.inl ⟨rfl, rfl, rfl, rfl⟩) rfl (IntsAt.nil _ _ _) (ActsAt.nil _ _) (Up.ch hu146) ?_
   simp only [feedP, feedP1, atP, acX, eq_false hpp0, eq_false hpp1, eq_false hpp2, hpp3, ↓reduceIte, Int.reduceEq, Int.reduceLE, Int.reduceLT, reduceCtorEq, and_true, and_self, true_and, or_true, true_or, or_false, false_or, and_false, false_and, ne_eq, not_true, not_false_iff]
  have hpp3 := hC135
  refine yp 7 [] .z <| ye <| yc (rE c 26) (fun hC150 => ?_) fun hC150 => ?_
  ·have hpp4 := hC150
   refine ysr <| yo (yQ (pat_any 0 _) fun w152 hc151 => ?_)
   have hu153 := Up.step hu27 hc151 iZ
   have hB157 := hB24.ch hc151 id
   refine yo (yS hB157 fun w158 hB159 hc160 => ?_)
   have hu161 := Up.step hu153 hc160 (fun i hi (h : i = b21) => by omega)
   replace hB159 : Blk w158 b21 [iX 0, uX 0, uX 0, uX 0, iX 0, .string ByteArray.empty, .slice none 0 0, .string ByteArray.empty, iX 0] _ := Blk.to hB159 (by kernel_rfl)
   refine yp 3 [] .z <| ye <| x_ret (rB (rS (jump_ret (yR2 [.agg #[iX 0, uX 0, uX 0, uX 0, iX 0, .string ByteArray.empty, .slice none 0 0, .string ByteArray.empty, iX 0], .slice none 0 0] (.a (hB159.cs 0 9) .z) ?_))))
   refine Fed.mk' (p' := (PS.mk 0 ⟨0, 0, 0, 0⟩ ByteArray.empty [] ByteArray.empty 0)) (l := []) none 0 0 none 0 0 (.inl ⟨rfl, rfl, rfl, rfl⟩) rfl (IntsAt.nil _ _ _) (ActsAt.nil _ _) (Up.ch hu161) ?_
   simp only [feedP, feedP1, atP, acX, eq_false hpp0, eq_false hpp1, eq_false hpp2, eq_false hpp3, hpp4, ↓reduceIte, Int.reduceEq, Int.reduceLE, Int.reduceLT, reduceCtorEq, and_true, and_self, true_and, or_true, true_or, or_false, false_or, and_false, false_and, ne_eq, not_true, not_false_iff]
  have hpp4 := hC150
  refine ysr <| yp 3 [] .z <| ye <| yc (rE c 27) (fun hC165 => ?_) fun hC165 => ?_
  ·have hpp5 := hC165
   refine ysr <| yo (yQ (pat_any 1 _) fun w167 hc166 => ?_)
   have hu168 := Up.step hu27 hc166 iZ
   have hB172 := hB24.ch hc166 id
   refine yo (yS hB172 fun w173 hB174 hc175 => ?_)
   have hu176 := Up.step hu168 hc175 (fun i hi (h : i = b21) => by omega)
   replace hB174 : Blk w173 b21 [iX 1, uX 0, uX 0, uX 0, iX 0, .string ByteArray.empty, .slice none 0 0, .string ByteArray.empty, iX 0] _ := Blk.to hB174 (by kernel_rfl)
   refine yp 3 [] .z <| ye <| x_ret (rB (rS (jump_ret (yR2 [.agg #[iX 1, uX 0, uX 0, uX 0, iX 0, .string ByteArray.empty, .slice none 0 0, .string ByteArray.empty, iX 0], .slice none 0 0] (.a (hB174.cs 0 9) .z) ?_))))
   refine Fed.mk' (p' := (PS.mk 1 ⟨0, 0, 0, 0⟩ ByteArray.empty [] ByteArray.empty 0)) (l := []) none 0 0 none 0 0 (.inl ⟨rfl, rfl, rfl, rfl⟩) rfl (IntsAt.nil _ _ _) (ActsAt.nil _ _) (Up.ch hu176) ?_
   simp only [feedP, feedP1, atP, acX, eq_false hpp0, eq_false hpp1, eq_false hpp2, eq_false hpp3, eq_false hpp4, hpp5, ↓reduceIte, Int.reduceEq, Int.reduceLE, Int.reduceLT, reduceCtorEq, and_true, and_self, true_and, or_true, true_or, or_false, false_or, and_false, false_and, ne_eq, not_true, not_false_iff]
  have hpp5 := hC165
  refine ysr <| yp 3 [] .z <| ye <| yc (rL c 32) (fun hC180 => ?_) fun hC180 => ?_
  ·have hpp6 := hC180
   refine ysr <| yp 3 [] (.a (hB30.cs 0 9) .z) <| yo (yB [iX 1, rX 0, uX c, .string ByteArray.empty, .slice none 0 0, .string ByteArray.empty] 73 1 fun w181 b182 hb183 hz184 hB185 hc186 => ?_)
   have hlo187 : w.heap.size ≤ b182 := by rw [hb183]; exact Ch.size hu27
   have hu188 := Up.step hu27 hc186 iZ
   have hp189 := hp28.ch hc186 iZ
   have hB192 := hB24.ch hc186 id
   refine yo (yS hB192 fun w193 hB194 hc195 => ?_)
   have hu196 := Up.step hu188 hc195 (fun i hi (h : i = b21) => by omega)
   have hp197 := hp189.ch hc195 (fun b hb (e : b = b21) => by have := (hP.2.2.2 b hb).2; have := hlo26; omega)
   have hB200 := hB185.ch hc195 (fun (h : b182 = b21) => by have := hB24.lt; omega)
   replace hB194 : Blk w193 b21 [iX p.state, uX p.utf.b0, uX p.utf.b1, uX p.utf.b2, iX p.utf.n, .string p.marks, .slice (po.map at0) pn pc, .string p.text, iX p.within] _ := Blk.to hB194 (by kernel_rfl)
   refine yp 6 [] .z <| ye <| x_ret (rB (rS (jump_ret (yR2 [.agg #[iX p.state, uX p.utf.b0, uX p.utf.b1, uX p.utf.b2, iX p.utf.n, .string p.marks, .slice (po.map at0) pn pc, .string p.text, iX p.within], .slice (some ⟨b182, 0, none⟩) 1 1] (.a (hB194.cs 0 9) .z) ?_))))
   refine Fed.mk' (p' := (PS.mk p.state ⟨p.utf.b0, p.utf.b1, p.utf.b2, p.utf.n⟩ p.marks p.params p.text p.within)) (l := [Ac.mk 1 0 c ByteArray.empty [] ByteArray.empty]) po pn pc (some b182) 1 1 (.inr (fun b h => (hP.2.2.2 b h).2)) rfl (hp197.old) (ActsAt.one hB200 ⟨by have := Ch.size hu196; omega, hB200.lt⟩ ⟨none, 0, 0, rfl, IntsAt.nil _ _ _⟩) (Up.ch hu196) ?_
   simp only [feedP, feedP1, atP, acX, eq_false hpp0, eq_false hpp1, eq_false hpp2, eq_false hpp3, eq_false hpp4, eq_false hpp5, eq_true hpp6, ↓reduceIte, Int.reduceEq, Int.reduceLE, Int.reduceLT, reduceCtorEq, and_true, and_self, true_and, or_true, true_or, or_false, false_or, and_false, false_and, ne_eq, not_true, not_false_iff]
  have hpp6 := hC180
  refine ysr <| yp 3 [] .z <| ye <| yc (rM 127 c) (fun hC201 => ?_) fun hC201 => ?_
  ·have hpp7 := hC201
   refine ysr <| yp 1 [] (.a (hB30.cs 0 9) .z) <| yo (yS hB24 fun w202 hB203 hc204 => ?_)
   have hu205 := Up.step hu27 hc204 (fun i hi (h : i = b21) => by omega)
   have hp206 := hp28.ch hc204 (fun b hb (e : b = b21) => by have := (hP.2.2.2 b hb).2; have := hlo26; omega)
   replace hB203 : Blk w202 b21 [iX p.state, uX p.utf.b0, uX p.utf.b1, uX p.utf.b2, iX p.utf.n, .string p.marks, .slice (po.map at0) pn pc, .string p.text, iX p.within] _ := Blk.to hB203 (by kernel_rfl)
   refine yp 3 [] .z <| ye <| x_ret (rB (rS (jump_ret (yR2 [.agg #[iX p.state, uX p.utf.b0, uX p.utf.b1, uX p.utf.b2, iX p.utf.n, .string p.marks, .slice (po.map at0) pn pc, .string p.text, iX p.within], .slice none 0 0] (.a (hB203.cs 0 9) .z) ?_))))
   refine Fed.mk' (p' := (PS.mk p.state ⟨p.utf.b0, p.utf.b1, p.utf.b2, p.utf.n⟩ p.marks p.params p.text p.within)) (l := []) po pn pc none 0 0 (.inl ⟨rfl, rfl, rfl, rfl⟩) rfl (hp206.old) (ActsAt.nil _ _) (Up.ch hu205) ?_
   simp only [feedP, feedP1, atP, acX, eq_false hpp0, eq_false hpp1, eq_false hpp2, eq_false hpp3, eq_false hpp4, eq_false hpp5, eq_false hpp6, eq_true hpp7, ↓reduceIte, Int.reduceEq, Int.reduceLE, Int.reduceLT, reduceCtorEq, and_true, and_self, true_and, or_true, true_or, or_false, false_or, and_false, false_and, ne_eq, not_true, not_false_iff]
  have hpp7 := hC201
  refine ysr <| yp 4 [] (.l (hB30.c 0) .z) <| yw [64] (rE p.state 3) (fun hC209 => ?_) fun hC209 => ?_
  ·have hpp8 := hC209
   refine yp 9 [] .z <| ye <| yct <| ysr <| yp 2 [] (.a (hB30.cs 0 9) .z) <| yo (yC (csi_any hp28 c hcB (by have := hp.m; omega) hn8 hp.b) ?_)
   rintro _ w219 ⟨qo210, qn211, qc212, ao213, an214, ac215, rfl, hq216, ha217, hc218⟩
   refine ⟨_, rfl, ?_⟩
   have hold220 : b11 < w20.heap.size := hB30.lt
   have hold221 : b21 < w20.heap.size := hB24.lt
   have hu222 := Up.step hu27 hc218 iZ
   have hB226 := hB24.ch hc218 id
   have hs227 : w219.heap.size ≤ w219.heap.size := Nat.le_refl _
   refine yp 5 [] .z <| yo (yS hB226 fun w228 hB229 hc230 => ?_)
   have hu231 := Up.step hu222 hc230 (fun i hi (h : i = b21) => by omega)
   have hq235 := hq216.ch hc230 (fun b hb (e : b = b21) => hb.elim (fun hb => by have := (hP.2.2.2 b hb).2; have := hlo26; omega) (fun hb => by have := hold221; omega))
   have ha236 := ha217.ch hc230 (fun b hb (e : b = b21) => by have := hold221; omega)
   have hs237 := Nat.le_trans hs227 (Ch.size hc230)
   replace hB229 : Blk w228 b21 [iX (csiP p c).1.state, uX (csiP p c).1.utf.b0, uX (csiP p c).1.utf.b1, uX (csiP p c).1.utf.b2, iX (csiP p c).1.utf.n, .string (csiP p c).1.marks, .slice (qo210.map at0) qn211 qc212, .string (csiP p c).1.text, iX (csiP p c).1.within] _ := Blk.to hB229 (by kernel_rfl)
   refine yp 7 [] .z <| ye <| x_ret (rB (rS (jump_ret (yR2 [.agg #[iX (csiP p c).1.state, uX (csiP p c).1.utf.b0, uX (csiP p c).1.utf.b1, uX (csiP p c).1.utf.b2, iX (csiP p c).1.utf.n, .string (csiP p c).1.marks, .slice (qo210.map at0) qn211 qc212, .string (csiP p c).1.text, iX (csiP p c).1.within], .slice (ao213.map at0) an214 ac215] (.a (hB229.cs 0 9) .z) ?_))))
   have hpre := Ch.size hu27
   refine Fed.mk2 (p' := (csiP p c).1) (l := (csiP p c).2) qo210 qn211 qc212 ao213 an214 ac215 rfl (hq235.mono fun b hb => hb.imp id fun h => ⟨by omega, by omega⟩) (ha236.mono fun b h => ⟨⟨by omega, by omega⟩, h.2⟩) (Up.ch hu231) ?_
   simp only [feedP, feedP1, eq_false hpp0, eq_false hpp1, eq_false hpp2, eq_false hpp3, eq_false hpp4, eq_false hpp5, eq_false hpp6, eq_false hpp7, hpp8, ↓reduceIte, Int.reduceEq, Int.reduceLE, Int.reduceLT, reduceCtorEq, and_true, and_self, true_and, or_true, true_or, or_false, false_or, and_false, false_and, ne_eq, not_true, not_false_iff]
  have hpp8 := hC209
  refine yp 9 [] (.l (hB30.c 0) .z) <| ye <| yc (rE p.state 4) (fun hC238 => ?_) fun hC238 => ?_
  ·have hpp9 := hC238
   refine ysr <| yp 2 [] (.a (hB30.cs 0 9) .z) <| yo (yC (csi_any hp28 c hcB (by have := hp.m; omega) hn8 hp.b) ?_)
   rintro _ w248 ⟨qo239, qn240, qc241, ao242, an243, ac244, rfl, hq245, ha246, hc247⟩
   refine ⟨_, rfl, ?_⟩
   have hold249 : b11 < w20.heap.size := hB30.lt
   have hold250 : b21 < w20.heap.size := hB24.lt
   have hu251 := Up.step hu27 hc247 iZ
   have hB255 := hB24.ch hc247 id
   have hs256 : w248.heap.size ≤ w248.heap.size := Nat.le_refl _
   refine yp 5 [] .z <| yo (yS hB255 fun w257 hB258 hc259 => ?_)
   have hu260 := Up.step hu251 hc259 (fun i hi (h : i = b21) => by omega)
   have hq264 := hq245.ch hc259 (fun b hb (e : b = b21) => hb.elim (fun hb => by have := (hP.2.2.2 b hb).2; have := hlo26; omega) (fun hb => by have := hold250; omega))
   have ha265 := ha246.ch hc259 (fun b hb (e : b = b21) => by have := hold250; omega)
   have hs266 := Nat.le_trans hs256 (Ch.size hc259)
   replace hB258 : Blk w257 b21 [iX (csiP p c).1.state, uX (csiP p c).1.utf.b0, uX (csiP p c).1.utf.b1, uX (csiP p c).1.utf.b2, iX (csiP p c).1.utf.n, .string (csiP p c).1.marks, .slice (qo239.map at0) qn240 qc241, .string (csiP p c).1.text, iX (csiP p c).1.within] _ := Blk.to hB258 (by kernel_rfl)
   refine yp 7 [] .z <| ye <| x_ret (rB (rS (jump_ret (yR2 [.agg #[iX (csiP p c).1.state, uX (csiP p c).1.utf.b0, uX (csiP p c).1.utf.b1, uX (csiP p c).1.utf.b2, iX (csiP p c).1.utf.n, .string (csiP p c).1.marks, .slice (qo239.map at0) qn240 qc241, .string (csiP p c).1.text, iX (csiP p c).1.within], .slice (ao242.map at0) an243 ac244] (.a (hB258.cs 0 9) .z) ?_))))
   have hpre := Ch.size hu27
   refine Fed.mk2 (p' := (csiP p c).1) (l := (csiP p c).2) qo239 qn240 qc241 ao242 an243 ac244 rfl (hq264.mono fun b hb => hb.imp id fun h => ⟨by omega, by omega⟩) (ha265.mono fun b h => ⟨⟨by omega, by omega⟩, h.2⟩) (Up.ch hu260) ?_
   simp only [feedP, feedP1, eq_false hpp0, eq_false hpp1, eq_false hpp2, eq_false hpp3, eq_false hpp4, eq_false hpp5, eq_false hpp6, eq_false hpp7, eq_false hpp8, hpp9, ↓reduceIte, Int.reduceEq, Int.reduceLE, Int.reduceLT, reduceCtorEq, and_true, and_self, true_and, or_true, true_or, or_false, false_or, and_false, false_and, ne_eq, not_true, not_false_iff]
  have hpp9 := hC238
  refine x_skip (nB (nS ?_))
  refine ysr <| yp 2 [] (.a (hB30.cs 0 9) .z) <| yo (yC (escape_any hp28 c ) ?_)
  rintro _ w276 ⟨qo267, qn268, qc269, ao270, an271, ac272, rfl, hq273, ha274, hc275⟩
  refine ⟨_, rfl, ?_⟩
  have hold277 : b11 < w20.heap.size := hB30.lt
  have hold278 : b21 < w20.heap.size := hB24.lt
  have hu279 := Up.step hu27 hc275 iZ
  have hB283 := hB24.ch hc275 id
  have hs284 : w276.heap.size ≤ w276.heap.size := Nat.le_refl _
  refine yp 5 [] .z <| yo (yS hB283 fun w285 hB286 hc287 => ?_)
  have hu288 := Up.step hu279 hc287 (fun i hi (h : i = b21) => by omega)
  have hq292 := hq273.ch hc287 (fun b hb (e : b = b21) => hb.elim (fun hb => by have := (hP.2.2.2 b hb).2; have := hlo26; omega) (fun hb => by have := hold278; omega))
  have ha293 := ha274.ch hc287 (fun b hb (e : b = b21) => by have := hold278; omega)
  have hs294 := Nat.le_trans hs284 (Ch.size hc287)
  replace hB286 : Blk w285 b21 [iX (escapeP p c).1.state, uX (escapeP p c).1.utf.b0, uX (escapeP p c).1.utf.b1, uX (escapeP p c).1.utf.b2, iX (escapeP p c).1.utf.n, .string (escapeP p c).1.marks, .slice (qo267.map at0) qn268 qc269, .string (escapeP p c).1.text, iX (escapeP p c).1.within] _ := Blk.to hB286 (by kernel_rfl)
  refine yp 7 [] .z <| ye <| x_ret (jump_ret (yR2 [.agg #[iX (escapeP p c).1.state, uX (escapeP p c).1.utf.b0, uX (escapeP p c).1.utf.b1, uX (escapeP p c).1.utf.b2, iX (escapeP p c).1.utf.n, .string (escapeP p c).1.marks, .slice (qo267.map at0) qn268 qc269, .string (escapeP p c).1.text, iX (escapeP p c).1.within], .slice (ao270.map at0) an271 ac272] (.a (hB286.cs 0 9) .z) ?_))
  have hpre := Ch.size hu27
  refine Fed.mk2 (p' := (escapeP p c).1) (l := (escapeP p c).2) qo267 qn268 qc269 ao270 an271 ac272 rfl (hq292.mono fun b hb => hb.imp id fun h => ⟨by omega, by omega⟩) (ha293.mono fun b h => ⟨⟨by omega, by omega⟩, h.2⟩) (Up.ch hu288) ?_
  simp only [feedP, feedP1, eq_false hpp0, eq_false hpp1, eq_false hpp2, eq_false hpp3, eq_false hpp4, eq_false hpp5, eq_false hpp6, eq_false hpp7, eq_false hpp8, eq_false hpp9, ↓reduceIte, Int.reduceEq, Int.reduceLE, Int.reduceLT, reduceCtorEq, and_true, and_self, true_and, or_true, true_or, or_false, false_or, and_false, false_and, ne_eq, not_true, not_false_iff]
 obtain ⟨hs7, hj295⟩ := hJ32
 obtain ⟨hB296, hB297, hu298⟩ := hj295
 have hpp0 : p.state = 7 := hs7.1
 have hpp1 : c ≠ 92 := hs7.2
 refine ys <| yk <| ys <| x_block <| ysr <| yp 4 [] (.l (hB296.c 0) .z) <| ye <| ycf <| ysr <| yp 4 [] (.l (hB296.c 0) .z) <| ye <| ycf <| ysr <| yp 4 [] (.l (hB296.c 0) .z) <| ye <| ycf <| ysr <| yp 3 [] .z <| yw [40] (rE c 24) (fun hC299 => ?_) fun hC299 => ?_
 ·have hpp2 := hC299
  refine yp 7 [] .z <| ye <| yct <| ysr <| yo (yQ (pat_any 0 _) fun w301 hc300 => ?_)
  have hu302 := Up.step hu298 hc300 iZ
  have hB304 := hB297.ch hc300 id
  refine yo (yS hB304 fun w305 hB306 hc307 => ?_)
  have hu308 := Up.step hu302 hc307 (fun i hi (h : i = b21) => by omega)
  replace hB306 : Blk w305 b21 [iX 0, uX 0, uX 0, uX 0, iX 0, .string ByteArray.empty, .slice none 0 0, .string ByteArray.empty, iX 0] _ := Blk.to hB306 (by kernel_rfl)
  refine yp 3 [] .z <| ye <| x_ret (rB (rS (jump_ret (yR2 [.agg #[iX 0, uX 0, uX 0, uX 0, iX 0, .string ByteArray.empty, .slice none 0 0, .string ByteArray.empty, iX 0], .slice none 0 0] (.a (hB306.cs 0 9) .z) ?_))))
  refine Fed.mk' (p' := (PS.mk 0 ⟨0, 0, 0, 0⟩ ByteArray.empty [] ByteArray.empty 0)) (l := []) none 0 0 none 0 0 (.inl ⟨rfl, rfl, rfl, rfl⟩) rfl (IntsAt.nil _ _ _) (ActsAt.nil _ _) (Up.ch hu308) ?_
  simp only [feedP, feedP1, atP, acX, hpp0, eq_false hpp1, hpp2, ↓reduceIte, Int.reduceEq, Int.reduceLE, Int.reduceLT, reduceCtorEq, and_true, and_self, true_and, or_true, true_or, or_false, false_or, and_false, false_and, ne_eq, not_true, not_false_iff]
 have hpp2 := hC299
 refine yp 7 [] .z <| ye <| yc (rE c 26) (fun hC310 => ?_) fun hC310 => ?_
 ·have hpp3 := hC310
  refine ysr <| yo (yQ (pat_any 0 _) fun w312 hc311 => ?_)
  have hu313 := Up.step hu298 hc311 iZ
  have hB315 := hB297.ch hc311 id
  refine yo (yS hB315 fun w316 hB317 hc318 => ?_)
  have hu319 := Up.step hu313 hc318 (fun i hi (h : i = b21) => by omega)
  replace hB317 : Blk w316 b21 [iX 0, uX 0, uX 0, uX 0, iX 0, .string ByteArray.empty, .slice none 0 0, .string ByteArray.empty, iX 0] _ := Blk.to hB317 (by kernel_rfl)
  refine yp 3 [] .z <| ye <| x_ret (rB (rS (jump_ret (yR2 [.agg #[iX 0, uX 0, uX 0, uX 0, iX 0, .string ByteArray.empty, .slice none 0 0, .string ByteArray.empty, iX 0], .slice none 0 0] (.a (hB317.cs 0 9) .z) ?_))))
  refine Fed.mk' (p' := (PS.mk 0 ⟨0, 0, 0, 0⟩ ByteArray.empty [] ByteArray.empty 0)) (l := []) none 0 0 none 0 0 (.inl ⟨rfl, rfl, rfl, rfl⟩) rfl (IntsAt.nil _ _ _) (ActsAt.nil _ _) (Up.ch hu319) ?_
  simp only [feedP, feedP1, atP, acX, hpp0, eq_false hpp1, eq_false hpp2, hpp3, ↓reduceIte, Int.reduceEq, Int.reduceLE, Int.reduceLT, reduceCtorEq, and_true, and_self, true_and, or_true, true_or, or_false, false_or, and_false, false_and, ne_eq, not_true, not_false_iff]
 have hpp3 := hC310
 refine ysr <| yp 3 [] .z <| ye <| yc (rE c 27) (fun hC321 => ?_) fun hC321 => ?_
 ·have hpp4 := hC321
  refine ysr <| yo (yQ (pat_any 1 _) fun w323 hc322 => ?_)
  have hu324 := Up.step hu298 hc322 iZ
  have hB326 := hB297.ch hc322 id
  refine yo (yS hB326 fun w327 hB328 hc329 => ?_)
  have hu330 := Up.step hu324 hc329 (fun i hi (h : i = b21) => by omega)
  replace hB328 : Blk w327 b21 [iX 1, uX 0, uX 0, uX 0, iX 0, .string ByteArray.empty, .slice none 0 0, .string ByteArray.empty, iX 0] _ := Blk.to hB328 (by kernel_rfl)
  refine yp 3 [] .z <| ye <| x_ret (rB (rS (jump_ret (yR2 [.agg #[iX 1, uX 0, uX 0, uX 0, iX 0, .string ByteArray.empty, .slice none 0 0, .string ByteArray.empty, iX 0], .slice none 0 0] (.a (hB328.cs 0 9) .z) ?_))))
  refine Fed.mk' (p' := (PS.mk 1 ⟨0, 0, 0, 0⟩ ByteArray.empty [] ByteArray.empty 0)) (l := []) none 0 0 none 0 0 (.inl ⟨rfl, rfl, rfl, rfl⟩) rfl (IntsAt.nil _ _ _) (ActsAt.nil _ _) (Up.ch hu330) ?_
  simp only [feedP, feedP1, atP, acX, hpp0, eq_false hpp1, eq_false hpp2, eq_false hpp3, hpp4, ↓reduceIte, Int.reduceEq, Int.reduceLE, Int.reduceLT, reduceCtorEq, and_true, and_self, true_and, or_true, true_or, or_false, false_or, and_false, false_and, ne_eq, not_true, not_false_iff]
 have hpp4 := hC321
 refine ysr <| yp 3 [] .z <| ye <| yc (rL c 32) (fun hC332 => ?_) fun hC332 => ?_
 ·have hpp5 := hC332
  refine ysr <| yp 3 [] (.a (hB296.cs 0 9) .z) <| yo (yB [iX 1, rX 0, uX c, .string ByteArray.empty, .slice none 0 0, .string ByteArray.empty] 73 1 fun w333 b334 hb335 hz336 hB337 hc338 => ?_)
  have hlo339 : w.heap.size ≤ b334 := by rw [hb335]; exact Ch.size hu298
  have hu340 := Up.step hu298 hc338 iZ
  have hB342 := hB297.ch hc338 id
  refine yo (yS hB342 fun w343 hB344 hc345 => ?_)
  have hu346 := Up.step hu340 hc345 (fun i hi (h : i = b21) => by omega)
  have hB348 := hB337.ch hc345 (fun (h : b334 = b21) => by have := hB297.lt; omega)
  replace hB344 : Blk w343 b21 [iX 1, uX 0, uX 0, uX 0, iX 0, .string ByteArray.empty, .slice none 0 0, .string ByteArray.empty, iX 0] _ := Blk.to hB344 (by kernel_rfl)
  refine yp 6 [] .z <| ye <| x_ret (rB (rS (jump_ret (yR2 [.agg #[iX 1, uX 0, uX 0, uX 0, iX 0, .string ByteArray.empty, .slice none 0 0, .string ByteArray.empty, iX 0], .slice (some ⟨b334, 0, none⟩) 1 1] (.a (hB344.cs 0 9) .z) ?_))))
  refine Fed.mk' (p' := (PS.mk 1 ⟨0, 0, 0, 0⟩ ByteArray.empty [] ByteArray.empty 0)) (l := [Ac.mk 1 0 c ByteArray.empty [] ByteArray.empty]) none 0 0 (some b334) 1 1 (.inr (fun b h => by cases h)) rfl (IntsAt.nil _ _ _) (ActsAt.one hB348 ⟨by have := Ch.size hu346; omega, hB348.lt⟩ ⟨none, 0, 0, rfl, IntsAt.nil _ _ _⟩) (Up.ch hu346) ?_
  simp only [feedP, feedP1, atP, acX, hpp0, eq_false hpp1, eq_false hpp2, eq_false hpp3, eq_false hpp4, eq_true hpp5, ↓reduceIte, Int.reduceEq, Int.reduceLE, Int.reduceLT, reduceCtorEq, and_true, and_self, true_and, or_true, true_or, or_false, false_or, and_false, false_and, ne_eq, not_true, not_false_iff]
 have hpp5 := hC332
 refine ysr <| yp 3 [] .z <| ye <| yc (rM 127 c) (fun hC349 => ?_) fun hC349 => ?_
 ·have hpp6 := hC349
  refine ysr <| yp 1 [] (.a (hB296.cs 0 9) .z) <| yo (yS hB297 fun w350 hB351 hc352 => ?_)
  have hu353 := Up.step hu298 hc352 (fun i hi (h : i = b21) => by omega)
  replace hB351 : Blk w350 b21 [iX 1, uX 0, uX 0, uX 0, iX 0, .string ByteArray.empty, .slice none 0 0, .string ByteArray.empty, iX 0] _ := Blk.to hB351 (by kernel_rfl)
  refine yp 3 [] .z <| ye <| x_ret (rB (rS (jump_ret (yR2 [.agg #[iX 1, uX 0, uX 0, uX 0, iX 0, .string ByteArray.empty, .slice none 0 0, .string ByteArray.empty, iX 0], .slice none 0 0] (.a (hB351.cs 0 9) .z) ?_))))
  refine Fed.mk' (p' := (PS.mk 1 ⟨0, 0, 0, 0⟩ ByteArray.empty [] ByteArray.empty 0)) (l := []) none 0 0 none 0 0 (.inl ⟨rfl, rfl, rfl, rfl⟩) rfl (IntsAt.nil _ _ _) (ActsAt.nil _ _) (Up.ch hu353) ?_
  simp only [feedP, feedP1, atP, acX, hpp0, eq_false hpp1, eq_false hpp2, eq_false hpp3, eq_false hpp4, eq_false hpp5, eq_true hpp6, ↓reduceIte, Int.reduceEq, Int.reduceLE, Int.reduceLT, reduceCtorEq, and_true, and_self, true_and, or_true, true_or, or_false, false_or, and_false, false_and, ne_eq, not_true, not_false_iff]
 have hpp6 := hC349
 refine ysr <| yp 9 [] (.l (hB296.c 0) (.l (hB296.c 0) .z)) <| ye <| ycf <| x_skip (nB (nS ?_))
 refine ysr <| yp 2 [] (.a (hB296.cs 0 9) .z) <| yo (yC (escape_any (p := (atP 1)) (IntsAt.nil u31 .i64 _) c ) ?_)
 rintro _ w364 ⟨qo355, qn356, qc357, ao358, an359, ac360, rfl, hq361, ha362, hc363⟩
 refine ⟨_, rfl, ?_⟩
 have hold365 : b11 < u31.heap.size := hB296.lt
 have hold366 : b21 < u31.heap.size := hB297.lt
 have hu367 := Up.step hu298 hc363 iZ
 have hB369 := hB297.ch hc363 id
 have hs370 : w364.heap.size ≤ w364.heap.size := Nat.le_refl _
 refine yp 5 [] .z <| yo (yS hB369 fun w371 hB372 hc373 => ?_)
 have hu374 := Up.step hu367 hc373 (fun i hi (h : i = b21) => by omega)
 have hq376 := hq361.ch hc373 (fun b hb (e : b = b21) => hb.elim (fun hb => by cases hb) (fun hb => by have := hold366; omega))
 have ha377 := ha362.ch hc373 (fun b hb (e : b = b21) => by have := hold366; omega)
 have hs378 := Nat.le_trans hs370 (Ch.size hc373)
 replace hB372 : Blk w371 b21 [iX (escapeP (atP 1) c).1.state, uX (escapeP (atP 1) c).1.utf.b0, uX (escapeP (atP 1) c).1.utf.b1, uX (escapeP (atP 1) c).1.utf.b2, iX (escapeP (atP 1) c).1.utf.n, .string (escapeP (atP 1) c).1.marks, .slice (qo355.map at0) qn356 qc357, .string (escapeP (atP 1) c).1.text, iX (escapeP (atP 1) c).1.within] _ := Blk.to hB372 (by kernel_rfl)
 refine yp 7 [] .z <| ye <| x_ret (jump_ret (yR2 [.agg #[iX (escapeP (atP 1) c).1.state, uX (escapeP (atP 1) c).1.utf.b0, uX (escapeP (atP 1) c).1.utf.b1, uX (escapeP (atP 1) c).1.utf.b2, iX (escapeP (atP 1) c).1.utf.n, .string (escapeP (atP 1) c).1.marks, .slice (qo355.map at0) qn356 qc357, .string (escapeP (atP 1) c).1.text, iX (escapeP (atP 1) c).1.within], .slice (ao358.map at0) an359 ac360] (.a (hB372.cs 0 9) .z) ?_))
 have hpre := Ch.size hu298
 refine Fed.mk2 (p' := (escapeP (atP 1) c).1) (l := (escapeP (atP 1) c).2) qo355 qn356 qc357 ao358 an359 ac360 rfl (hq376.mono fun b hb => hb.imp (fun h => by cases h) fun h => ⟨by omega, by omega⟩) (ha377.mono fun b h => ⟨⟨by omega, by omega⟩, h.2⟩) (Up.ch hu374) ?_
 simp only [feedP, feedP1, atP_state, hpp0, eq_false hpp1, eq_false hpp2, eq_false hpp3, eq_false hpp4, eq_false hpp5, eq_false hpp6, ↓reduceIte, Int.reduceEq, Int.reduceLE, Int.reduceLT, reduceCtorEq, and_true, and_self, true_and, or_true, true_or, or_false, false_or, and_false, false_and, ne_eq, not_true, not_false_iff]
end Go.Proofs.YteoejhjfbfacdaaDoor.X
namespace Go.Proofs.YteoejhjfbfacdaaDoor.X
open Go Go.RowKit Go.Proofs.YteoejhjfbfacdaaDoor
def len8S : ByteArray := ⟨#[0, 1, 2, 2, 3, 3, 3, 3, 4, 4, 4, 4, 4, 4, 4, 4, 5, 5, 5, 5, 5, 5, 5, 5, 5, 5, 5, 5, 5, 5, 5, 5, 6, 6, 6, 6, 6, 6, 6, 6, 6, 6, 6, 6, 6, 6, 6, 6, 6, 6, 6, 6, 6, 6, 6, 6, 6, 6, 6, 6, 6, 6, 6, 6, 7, 7, 7, 7, 7, 7, 7, 7, 7, 7, 7, 7, 7, 7, 7, 7, 7, 7, 7, 7, 7, 7, 7, 7, 7, 7, 7, 7, 7, 7, 7, 7, 7, 7, 7, 7, 7, 7, 7, 7, 7, 7, 7, 7, 7, 7, 7, 7, 7, 7, 7, 7, 7, 7, 7, 7, 7, 7, 7, 7, 7, 7, 7, 7, 8, 8, 8, 8, 8, 8, 8, 8, 8, 8, 8, 8, 8, 8, 8, 8, 8, 8, 8, 8, 8, 8, 8, 8, 8, 8, 8, 8, 8, 8, 8, 8, 8, 8, 8, 8, 8, 8, 8, 8, 8, 8, 8, 8, 8, 8, 8, 8, 8, 8, 8, 8, 8, 8, 8, 8, 8, 8, 8, 8, 8, 8, 8, 8, 8, 8, 8, 8, 8, 8, 8, 8, 8, 8, 8, 8, 8, 8, 8, 8, 8, 8, 8, 8, 8, 8, 8, 8, 8, 8, 8, 8, 8, 8, 8, 8, 8, 8, 8, 8, 8, 8, 8, 8, 8, 8, 8, 8, 8, 8, 8, 8, 8, 8, 8, 8, 8, 8, 8, 8, 8, 8, 8, 8, 8, 8, 8, 8]⟩
def smallsS : ByteArray := ⟨#[48, 48, 48, 49, 48, 50, 48, 51, 48, 52, 48, 53, 48, 54, 48, 55, 48, 56, 48, 57, 49, 48, 49, 49, 49, 50, 49, 51, 49, 52, 49, 53, 49, 54, 49, 55, 49, 56, 49, 57, 50, 48, 50, 49, 50, 50, 50, 51, 50, 52, 50, 53, 50, 54, 50, 55, 50, 56, 50, 57, 51, 48, 51, 49, 51, 50, 51, 51, 51, 52, 51, 53, 51, 54, 51, 55, 51, 56, 51, 57, 52, 48, 52, 49, 52, 50, 52, 51, 52, 52, 52, 53, 52, 54, 52, 55, 52, 56, 52, 57, 53, 48, 53, 49, 53, 50, 53, 51, 53, 52, 53, 53, 53, 54, 53, 55, 53, 56, 53, 57, 54, 48, 54, 49, 54, 50, 54, 51, 54, 52, 54, 53, 54, 54, 54, 55, 54, 56, 54, 57, 55, 48, 55, 49, 55, 50, 55, 51, 55, 52, 55, 53, 55, 54, 55, 55, 55, 56, 55, 57, 56, 48, 56, 49, 56, 50, 56, 51, 56, 52, 56, 53, 56, 54, 56, 55, 56, 56, 56, 57, 57, 48, 57, 49, 57, 50, 57, 51, 57, 52, 57, 53, 57, 54, 57, 55, 57, 56, 57, 57]⟩
def digS : ByteArray := ⟨#[48, 49, 50, 51, 52, 53, 54, 55, 56, 57, 97, 98, 99, 100, 101, 102, 103, 104, 105, 106, 107, 108, 109, 110, 111, 112, 113, 114, 115, 116, 117, 118, 119, 120, 121, 122]⟩
def smallB (u : Int) : ByteArray := if u < 10 then digS.extract u.toNat (u + 1).toNat else smallsS.extract (u * 2).toNat (u * 2 + 2).toNat
def p10 (i : Nat) : Int := if i = 0 then 1 else if i = 1 then 10 else 100
def PTab (w : World) : Prop := ∀ i, i < 3 → w.cell? ⟨0, i, none⟩ = some (.int .u64 (p10 i))
theorem p_cell {w : World} (h : PTab w) (x : Int) (h0 : 0 ≤ x) (h1 : x ≤ 2) : w.cell? ⟨0, 0 + x.toNat * 1, none⟩ = some (.int .u64 (p10 x.toNat)) := by
 rw [Nat.zero_add, Nat.mul_one]; exact h _ (by omega)
theorem ptab_ch {w w' : World} {B : Nat → Prop} (h : Ch B w w') (hT : PTab w) (h0 : ¬ B 0) : PTab w' := fun j hj => cell_ch h (hT j hj) h0
abbrev d10 (u : Int) : Int := Int.fdiv ((0 + bt len8S u) * 78913) (2 ^ min (18 : Int).toNat (IntKind.bits .i64))
theorem d10_bd : ∀ k, k < 100 → 1 ≤ k → (0 ≤ d10 (k : Nat) ∧ d10 (k : Nat) ≤ 2) ∧ d10 (k : Nat) + (if decide (p10 (d10 (k : Nat)).toNat ≤ ((k : Nat) : Int)) = true then 1 else 0) = (if k < 10 then 1 else 2) := by decide +kernel
set_option maxRecDepth 100000 in
set_option maxHeartbeats 4000000 in
theorem len64_any (u : Int) (w : World) (h0 : 0 ≤ u) (h1 : u ≤ 255) : Calls Tryd.prog 89 [.int .u64 u].toArray w fun e w' => e = .returned (.int .i64 (0 + bt len8S u)) ∧ Ch (fun _ => False) w w' := by
 have hbt := bt_range len8S u
 have hls : len8S.size = 256 := by kernel_rfl
 have hpp0 := h1
 have hpp1 := h0
 refine yA Tryd.func89 rfl <| ysr <| yp 1 [] .z <| ye <| ys <| ysr <| yp 2 [] .z <| ye <| yc (rM 4294967296 u) (fun hC10 => ?_) fun hC10 => ?_
 ·exfalso; omega
 have hpp2 := hC10
 refine yk <| ys <| ysr <| yp 2 [] .z <| ye <| yc (rM 65536 u) (fun hC11 => ?_) fun hC11 => ?_
 ·exfalso; omega
 have hpp3 := hC11
 refine yk <| ys <| ysr <| yp 2 [] .z <| ye <| yc (rM 256 u) (fun hC12 => ?_) fun hC12 => ?_
 ·exfalso; omega
 have hpp4 := hC12
 refine yk <| ysr <| yp 7 [2] (.p (q := InR .u8 u) (in8 (by omega) (by omega)) (.i u ((len8S).size) (.q6 (bt len8S u) (.q6 (0 + (bt len8S u)) .z)))) <| ye <| x_ret (yR1 (iX (0 + (bt len8S u))) ?_)
 exact ⟨rfl, Up.ch (Up.refl w.heap.size w)⟩
set_option maxHeartbeats 4000000 in
theorem log10p_any (u : Int) (w : World) (h0 : 0 ≤ u) (h1 : u ≤ 1000) : Calls Tryd.prog 88 [.int .i64 u].toArray w fun e w' => e = .returned (.int .i64 (Int.fdiv (u * 78913) (2 ^ min (18 : Int).toNat (IntKind.bits .i64)))) ∧ Ch (fun _ => False) w w' := by
 refine yA Tryd.func88 rfl <| ysr <| yp 1 [] .z <| ye <| ysr <| yp 4 [] (.q6 (u * 78913) (.p (q := 0 ≤ (18 : Int)) (by omega) .z)) <| ye <| x_ret (yR1 (iX (Int.fdiv (u * 78913) (2 ^ min (18 : Int).toNat (IntKind.bits .i64)))) ?_)
 exact ⟨rfl, Up.ch (Up.refl w.heap.size w)⟩
set_option maxHeartbeats 4000000 in
theorem bool2_any (b : Bool) (w : World) : Calls Tryd.prog 90 [.bool b].toArray w fun e w' => e = .returned (.int .i64 (if b = true then 1 else 0)) ∧ Ch (fun _ => False) w w' := by
 refine yA Tryd.func90 rfl <| ysr <| yp 1 [] .z <| ye <| ys <| ysr <| yp 1 [] .z <| ye <| yc (rY b) (fun hC10 => ?_) fun hC10 => ?_
 ·have hpp0 := hC10
  refine ysr <| yp 1 [] .z <| ye <| x_ret (rS (yR1 (iX 1) ?_))
  exact ⟨by rw [hpp0]; rfl, Up.ch (Up.refl w.heap.size w)⟩
 have hpp0 := hC10
 refine yk <| ysr <| yp 1 [] .z <| ye <| x_ret (yR1 (iX 0) ?_)
 exact ⟨by rw [hpp0]; rfl, Up.ch (Up.refl w.heap.size w)⟩
set_option maxRecDepth 100000 in
set_option maxHeartbeats 4000000 in
theorem nd_any (u : Int) (w : World) (hp : PTab w) (h0 : 1 ≤ u) (h1 : u ≤ 99) : Calls Tryd.prog 65 [.int .u64 u].toArray w fun e w' => e = .returned (.int .i64 (if u < 10 then 1 else 2)) ∧ Ch (fun _ => False) w w' := by
 have hbt := bt_range len8S u
 obtain ⟨k, hku, hk⟩ : ∃ k : Nat, u = (k : Int) ∧ k < 100 := ⟨u.toNat, by omega, by omega⟩
 have hkd := d10_bd k hk (by omega)
 rw [← hku] at hkd
 obtain ⟨⟨hd0, hd1⟩, hd2⟩ := hkd
 refine yA Tryd.func65 rfl <| ysr <| yp 1 [] .z <| ye <| ysr <| yp 1 [] .z <| yo (yQ (len64_any u _ (by omega) (by omega)) fun w11 hc10 => ?_)
 have hu12 := Up.step (Up.refl w.heap.size w) hc10 iZ
 have hP13 := ptab_ch hc10 hp id
 refine yo (yQ (log10p_any (0 + bt len8S u) _ (by omega) (by omega)) fun w15 hc14 => ?_)
 have hu16 := Up.step hu12 hc14 iZ
 have hP17 := ptab_ch hc14 hP13 id
 refine yp 4 [] .z <| ye <| ysr <| yp 6 [] (.i (d10 u) (20) (.l (o := (0 + ((d10 u)).toNat * 1)) (p_cell hP17 ((d10 u)) (by omega) (by omega)) .z)) <| yo (yQ (bool2_any (decide ((p10 ((d10 u) : Int).toNat) ≤ u)) _) fun w19 hc18 => ?_)
 have hu20 := Up.step hu16 hc18 iZ
 refine yp 9 [] (.q6 ((d10 u) + (if (decide ((p10 ((d10 u) : Int).toNat) ≤ u)) = true then 1 else 0)) .z) <| ye <| x_ret (yR1 (iX ((d10 u) + (if (decide ((p10 ((d10 u) : Int).toNat) ≤ u)) = true then 1 else 0))) ?_)
 refine ⟨congrArg Ending.returned (congrArg (Value.int .i64) ?_), Up.ch hu20⟩
 rw [show (if u < 10 then (1 : Int) else 2) = if k < 10 then 1 else 2 by by_cases h : k < 10 <;> simp [h] <;> omega]
 exact hd2
set_option maxRecDepth 100000 in
set_option maxHeartbeats 4000000 in
theorem small_any (u : Int) (w : World) (h0 : 0 ≤ u) (h1 : u ≤ 99) : Calls Tryd.prog 64 [.int .i64 u].toArray w fun e w' => e = .returned (.string (smallB u)) ∧ Ch (fun _ => False) w w' := by
 have hls : smallsS.size = 200 := by kernel_rfl
 have hld : digS.size = 36 := by kernel_rfl
 refine yA Tryd.func64 rfl <| ysr <| yp 1 [] .z <| ye <| ys <| ysr <| yp 2 [] .z <| ye <| yc (rL u 10) (fun hC10 => ?_) fun hC10 => ?_
 ·have hpp0 := hC10
  refine ysr <| yp 5 [] (.q6 (u + 1) (.j (u + 1) ((digS).size) (.j u (((u + 1) : Int).toNat) .z))) <| ye <| x_ret (rS (yR1 (.string ((digS).extract (u : Int).toNat ((u + 1) : Int).toNat)) ?_))
  refine ⟨congrArg Ending.returned (congrArg Value.string ?_), Up.ch (Up.refl w.heap.size w)⟩
  simp only [smallB, eq_true hpp0, ↓reduceIte]
 have hpp0 := hC10
 refine yk <| ysr <| yp 7 [] (.q6 (u * 2) (.q6 (u * 2) (.q6 ((u * 2) + 2) (.j ((u * 2) + 2) ((smallsS).size) (.j (u * 2) ((((u * 2) + 2) : Int).toNat) .z))))) <| ye <| x_ret (yR1 (.string ((smallsS).extract ((u * 2) : Int).toNat (((u * 2) + 2) : Int).toNat)) ?_)
 refine ⟨congrArg Ending.returned (congrArg Value.string ?_), Up.ch (Up.refl w.heap.size w)⟩
 simp only [smallB, eq_false hpp0, ↓reduceIte]
end Go.Proofs.YteoejhjfbfacdaaDoor.X
namespace Go.Proofs.YteoejhjfbfacdaaDoor.X
open Go Go.RowKit Go.Proofs.YteoejhjfbfacdaaDoor
theorem nd1_any (x : Int) (w : World) (hp : PTab w) (h0 : 1 ≤ x) (h1 : x ≤ 9) : Calls Tryd.prog 65 [.int .u64 x].toArray w fun e w' => e = .returned (.int .i64 1) ∧ Ch (fun _ => False) w w' :=
  (nd_any x w hp h0 (by omega)).mono fun e w' ⟨h, h2⟩ => ⟨h.trans (by rw [if_pos (by omega)]), h2⟩
theorem nd2_any (x : Int) (w : World) (hp : PTab w) (h0 : 10 ≤ x) (h1 : x ≤ 99) : Calls Tryd.prog 65 [.int .u64 x].toArray w fun e w' => e = .returned (.int .i64 2) ∧ Ch (fun _ => False) w w' :=
  (nd_any x w hp (by omega) h1).mono fun e w' ⟨h, h2⟩ => ⟨h.trans (by rw [if_neg (by omega)]), h2⟩
set_option maxRecDepth 100000 in
set_option maxHeartbeats 4000000 in
theorem fb1_any (b : Nat) (x : Int) (w : World) (h0 : 1 ≤ x) (h1 : x ≤ 9) (hb : Blk w b [.int .u8 0, .int .u8 0, .int .u8 0, .int .u8 0, .int .u8 0, .int .u8 0, .int .u8 0, .int .u8 0, .int .u8 0, .int .u8 0, .int .u8 0, .int .u8 0, .int .u8 0, .int .u8 0, .int .u8 0, .int .u8 0, .int .u8 0, .int .u8 0, .int .u8 0, .int .u8 0, .int .u8 0, .int .u8 0, .int .u8 0, .int .u8 0] 108) : Calls Tryd.prog 66 [.slice (some ⟨b, 1, none⟩) 1 23, .int .u64 x].toArray w fun e w' => e = .returned (.tuple #[]) ∧ Blk w' b [.int .u8 0, .int .u8 (48 + x), .int .u8 0, .int .u8 0, .int .u8 0, .int .u8 0, .int .u8 0, .int .u8 0, .int .u8 0, .int .u8 0, .int .u8 0, .int .u8 0, .int .u8 0, .int .u8 0, .int .u8 0, .int .u8 0, .int .u8 0, .int .u8 0, .int .u8 0, .int .u8 0, .int .u8 0, .int .u8 0, .int .u8 0, .int .u8 0] 108 ∧ Ch (fun j => j = b) w w' := by
 have hls : smallsS.size = 200 := by kernel_rfl
 refine yA Tryd.func66 rfl <| ysr <| yp 3 [] .z <| ye <| ys <| x_block <| ykeep [0, 1, 4] (f' := [(0, .slice (some ⟨b, 1, none⟩) 1 23), (1, .int .u64 x), (4, iX 1)]) <| x_loop (σ := Nat) (fun k => [(0, .slice (some ⟨b, 1, none⟩) 1 23), (1, .int .u64 x), (4, iX 1)]) (fun k v => Blk v b [uX 0, uX 0, uX 0, uX 0, uX 0, uX 0, uX 0, uX 0, uX 0, uX 0, uX 0, uX 0, uX 0, uX 0, uX 0, uX 0, uX 0, uX 0, uX 0, uX 0, uX 0, uX 0, uX 0, uX 0] 108 ∧ Ch (fun _ => False) w v) (fun k => k) 0 rfl ?_ ?_
 ·exact ⟨hb, Ch.refl _ _⟩
 intro k w10 hI11 K12 hL13
 obtain ⟨hB14, hc15⟩ := hI11
 have hS16 := Ch.trans (Ch.refl (fun j => j = b) w) hc15 eZ
 refine ys <| ysr <| yp 2 [] .z <| ye <| ycf <| x_exit (eS (then_exit (block_exit (nS ?_))))
 refine ysr <| yp 3 [1] (.p (q := InR .u32 x) (in_u32 (by omega) (by omega)) .z) <| ye <| ys <| ysr <| yp 2 [] .z <| ye <| ycf <| yk <| ys <| ysr <| yp 2 [] .z <| ye <| ycf <| yk <| ysr <| yp 2 [] .z <| ye <| yct <| x_region <| yp 5 [2, 3] (.p (q := InR .u32 (48 + x)) (in_u32 (by omega) (by omega)) (.p (q := InR .u8 (48 + x)) (in8 (by omega) (by omega)) (.i 0 (1) .z))) <| yo (yS hB14 fun w17 hB18 hc19 => ?_)
 have hS20 := Ch.trans hS16 hc19 iZ
 replace hB18 : Blk w17 b [uX 0, uX (48 + x), uX 0, uX 0, uX 0, uX 0, uX 0, uX 0, uX 0, uX 0, uX 0, uX 0, uX 0, uX 0, uX 0, uX 0, uX 0, uX 0, uX 0, uX 0, uX 0, uX 0, uX 0, uX 0] _ := Blk.to hB18 (by kernel_rfl)
 refine yE (yR0' ?_)
 exact ⟨rfl, hB18, hS20⟩
set_option maxRecDepth 100000 in
set_option maxHeartbeats 4000000 in
theorem fmt1_any (n : Int) (w : World) (hp : PTab w) (h0 : 1 ≤ -n) (h1 : -n ≤ 9) : Calls Tryd.prog 48 [.int .i64 n, .int .i64 10].toArray w fun e w' => e = .returned (.string (bytesOf [45, 48 + (-n)])) ∧ Ch (fun _ => False) w w' := by
 have hx : (IntKind.wrap .u64 (0 - (IntKind.wrap .u64 n))) = -n := by simp [IntKind.wrap, IntKind.bits, IntKind.signed]; omega
 refine yA Tryd.func48 rfl <| ysr <| yp 1 [] .z <| ye <| ys <| ysr <| yp 2 [] .z <| ye <| yct <| ys <| ysr <| yp 3 [] .z <| yw [14] (rM 0 n) (fun hC10 => ?_) fun hC10 => ?_
 ·exfalso; omega
 refine yp 6 [] .z <| ye <| ycf <| yk <| ysr <| yo (yN [uX 0, uX 0, uX 0, uX 0, uX 0, uX 0, uX 0, uX 0, uX 0, uX 0, uX 0, uX 0, uX 0, uX 0, uX 0, uX 0, uX 0, uX 0, uX 0, uX 0, uX 0, uX 0, uX 0, uX 0] 108 fun w11 b12 hb13 hz14 hB15 hc16 => ?_)
 have hlo17 : w.heap.size ≤ b12 := by rw [hb13]; exact Ch.size (Up.refl w.heap.size w)
 have hu18 := Up.step (Up.refl w.heap.size w) hc16 iZ
 have hP19 := ptab_ch hc16 hp id
 refine ye <| ysr <| yp 3 [] .z <| ye <| ys <| ysr <| yp 2 [] .z <| ye <| yc (rL n 0) (fun hC20 => ?_) fun hC20 => ?_
 ·refine x_region <| yp 3 [] .z <| ye <| ysr <| yp 1 [] .z <| yo (yQ (nd1_any (IntKind.wrap .u64 (0 - (IntKind.wrap .u64 n))) _ hP19 (by omega) (by omega)) fun w22 hc21 => ?_)
  have hu23 := Up.step hu18 hc21 iZ
  have hB25 := hB15.ch hc21 id
  refine yp 3 [] .z <| ye <| ysr <| yp 4 [2] (.q6 2 (.j 2 (24) (.j 1 (2) (.p (q := 1 < 24) (by omega) .z)))) <| yo (yQ (fb1_any b12 (IntKind.wrap .u64 (0 - (IntKind.wrap .u64 n))) _ (by omega) (by omega) hB25) ?_)
  rintro w28 ⟨hB26, hc27⟩
  have hu29 := Up.step hu23 hc27 (fun i hi (h : i = b12) => by omega)
  refine ye <| ys <| ysr <| yp 2 [] .z <| ye <| yc (rL n 0) (fun hC30 => ?_) fun hC30 => ?_
  ·refine ysr <| yp 1 [] (.i 0 (24) .z) <| yo (yS hB26 fun w31 hB32 hc33 => ?_)
   have hu34 := Up.step hu29 hc33 (fun i hi (h : i = b12) => by omega)
   replace hB32 : Blk w31 b12 [uX 45, uX (48 + (IntKind.wrap .u64 (0 - (IntKind.wrap .u64 n)))), uX 0, uX 0, uX 0, uX 0, uX 0, uX 0, uX 0, uX 0, uX 0, uX 0, uX 0, uX 0, uX 0, uX 0, uX 0, uX 0, uX 0, uX 0, uX 0, uX 0, uX 0, uX 0] _ := Blk.to hB32 (by kernel_rfl)
   refine ye <| ysr <| yp 3 [] (.q6 2 (.j 2 (24) .z)) <| yo (e_bytes (some ⟨b12, 0, none⟩) (2 : Int).toNat 24 [45, (48 + (IntKind.wrap .u64 (0 - (IntKind.wrap .u64 n))))] (some 39) (by kernel_rfl) (Rd.pre (ys := [uX 45, uX (48 + (IntKind.wrap .u64 (0 - (IntKind.wrap .u64 n))))]) (r := [uX 0, uX 0, uX 0, uX 0, uX 0, uX 0, uX 0, uX 0, uX 0, uX 0, uX 0, uX 0, uX 0, uX 0, uX 0, uX 0, uX 0, uX 0, uX 0, uX 0, uX 0, uX 0]) hB32) rfl ?_)
   refine yp 5 [] .z <| ye <| x_ret (rS (rS (yR1 (.string (bytesOf [45, (48 + (IntKind.wrap .u64 (0 - (IntKind.wrap .u64 n))))])) ?_)))
   refine ⟨?_, Up.ch hu34⟩
   rw [hx]
  exfalso; omega
 exfalso; omega
set_option maxRecDepth 100000 in
set_option maxHeartbeats 4000000 in
theorem fb2_any (b : Nat) (x : Int) (w : World) (h0 : 10 ≤ x) (h1 : x ≤ 99) (hb : Blk w b [.int .u8 0, .int .u8 0, .int .u8 0, .int .u8 0, .int .u8 0, .int .u8 0, .int .u8 0, .int .u8 0, .int .u8 0, .int .u8 0, .int .u8 0, .int .u8 0, .int .u8 0, .int .u8 0, .int .u8 0, .int .u8 0, .int .u8 0, .int .u8 0, .int .u8 0, .int .u8 0, .int .u8 0, .int .u8 0, .int .u8 0, .int .u8 0] 108) : Calls Tryd.prog 66 [.slice (some ⟨b, 1, none⟩) 2 23, .int .u64 x].toArray w fun e w' => e = .returned (.tuple #[]) ∧ Blk w' b [.int .u8 0, .int .u8 (bt smallsS ((x % 100) * 2)), .int .u8 (bt smallsS (((x % 100) * 2) + 1)), .int .u8 0, .int .u8 0, .int .u8 0, .int .u8 0, .int .u8 0, .int .u8 0, .int .u8 0, .int .u8 0, .int .u8 0, .int .u8 0, .int .u8 0, .int .u8 0, .int .u8 0, .int .u8 0, .int .u8 0, .int .u8 0, .int .u8 0, .int .u8 0, .int .u8 0, .int .u8 0, .int .u8 0] 108 ∧ Ch (fun j => j = b) w w' := by
 have hls : smallsS.size = 200 := by kernel_rfl
 refine yA Tryd.func66 rfl <| ysr <| yp 3 [] .z <| ye <| ys <| x_block <| ykeep [0, 1, 4] (f' := [(0, .slice (some ⟨b, 1, none⟩) 2 23), (1, .int .u64 x), (4, iX 2)]) <| x_loop (σ := Nat) (fun k => [(0, .slice (some ⟨b, 1, none⟩) 2 23), (1, .int .u64 x), (4, iX 2)]) (fun k v => Blk v b [uX 0, uX 0, uX 0, uX 0, uX 0, uX 0, uX 0, uX 0, uX 0, uX 0, uX 0, uX 0, uX 0, uX 0, uX 0, uX 0, uX 0, uX 0, uX 0, uX 0, uX 0, uX 0, uX 0, uX 0] 108 ∧ Ch (fun _ => False) w v) (fun k => k) 0 rfl ?_ ?_
 ·exact ⟨hb, Ch.refl _ _⟩
 intro k w10 hI11 K12 hL13
 obtain ⟨hB14, hc15⟩ := hI11
 have hS16 := Ch.trans (Ch.refl (fun j => j = b) w) hc15 eZ
 refine ys <| ysr <| yp 2 [] .z <| ye <| ycf <| x_exit (eS (then_exit (block_exit (nS ?_))))
 refine ysr <| yp 3 [1] (.p (q := InR .u32 x) (in_u32 (by omega) (by omega)) .z) <| ye <| ys <| ysr <| yp 2 [] .z <| ye <| ycf <| yk <| ys <| ysr <| yp 2 [] .z <| ye <| yct <| ysr ?_
 refine yp 4 [2] (.p (q := 0 ≤ (x : Int) ∧ 0 < (100 : Int)) (by constructor <;> omega) (.p (q := InR .u32 ((x % 100) * 2)) (in_u32 (by omega) (by omega)) .z)) ?_
 refine ye <| ysr ?_
 refine yp 3 [] (.p (q := 0 ≤ (x : Int) ∧ 0 < (100 : Int)) (by constructor <;> omega) (.p (q := InR .u32 (x / 100)) (in_u32 (by omega) (by omega)) .z)) ?_
 refine ye <| ys <| yD [12, 14] fun w17 hH18 hc19 => ?_
 have hS20 := Ch.trans hS16 hc19 eZ
 have hB21 := hB14.ch hc19 id
 refine ydT (uL 0 12) [7] rfl (fun _ => (.q6 1 (.q6 0 (.p (q := InR .u32 (((x % 100) * 2) + 1)) (in_u32 (by omega) (by omega)) (.i (((x % 100) * 2) + 1) ((smallsS).size) (.i ((x % 100) * 2) ((smallsS).size) (.i 1 (2) .z))))))) <| yK 12 (yS hB21 fun w22 hB23 hc24 => ?_)
 have hS25 := Ch.trans hS20 hc24 iZ
 replace hB23 : Blk w22 b [uX 0, uX 0, uX (bt smallsS (((x % 100) * 2) + 1)), uX 0, uX 0, uX 0, uX 0, uX 0, uX 0, uX 0, uX 0, uX 0, uX 0, uX 0, uX 0, uX 0, uX 0, uX 0, uX 0, uX 0, uX 0, uX 0, uX 0, uX 0] _ := Blk.to hB23 (by kernel_rfl)
 refine x_killed <| yd [13] [] (.i 0 (2) .z) <| yK 14 (yS hB23 fun w26 hB27 hc28 => ?_)
 have hS29 := Ch.trans hS25 hc28 iZ
 replace hB27 : Blk w26 b [uX 0, uX (bt smallsS ((x % 100) * 2)), uX (bt smallsS (((x % 100) * 2) + 1)), uX 0, uX 0, uX 0, uX 0, uX 0, uX 0, uX 0, uX 0, uX 0, uX 0, uX 0, uX 0, uX 0, uX 0, uX 0, uX 0, uX 0, uX 0, uX 0, uX 0, uX 0] _ := Blk.to hB27 (by kernel_rfl)
 refine x_killed <| yDe (nS ?_)
 refine x_region <| yp 3 [] (.q6 0 .z) <| ye <| ysr <| yp 2 [] .z <| ye <| ycf <| x_skip (yR0' ?_)
 exact ⟨rfl, hB27, hS29⟩
set_option maxRecDepth 100000 in
set_option maxHeartbeats 4000000 in
theorem fmt2_any (n : Int) (w : World) (hp : PTab w) (h0 : 10 ≤ -n) (h1 : -n ≤ 99) : Calls Tryd.prog 48 [.int .i64 n, .int .i64 10].toArray w fun e w' => e = .returned (.string (bytesOf [45, bt smallsS (((-n) % 100) * 2), bt smallsS ((((-n) % 100) * 2) + 1)])) ∧ Ch (fun _ => False) w w' := by
 have hx : (IntKind.wrap .u64 (0 - (IntKind.wrap .u64 n))) = -n := by simp [IntKind.wrap, IntKind.bits, IntKind.signed]; omega
 refine yA Tryd.func48 rfl <| ysr <| yp 1 [] .z <| ye <| ys <| ysr <| yp 2 [] .z <| ye <| yct <| ys <| ysr <| yp 3 [] .z <| yw [14] (rM 0 n) (fun hC10 => ?_) fun hC10 => ?_
 ·exfalso; omega
 refine yp 6 [] .z <| ye <| ycf <| yk <| ysr <| yo (yN [uX 0, uX 0, uX 0, uX 0, uX 0, uX 0, uX 0, uX 0, uX 0, uX 0, uX 0, uX 0, uX 0, uX 0, uX 0, uX 0, uX 0, uX 0, uX 0, uX 0, uX 0, uX 0, uX 0, uX 0] 108 fun w11 b12 hb13 hz14 hB15 hc16 => ?_)
 have hlo17 : w.heap.size ≤ b12 := by rw [hb13]; exact Ch.size (Up.refl w.heap.size w)
 have hu18 := Up.step (Up.refl w.heap.size w) hc16 iZ
 have hP19 := ptab_ch hc16 hp id
 refine ye <| ysr <| yp 3 [] .z <| ye <| ys <| ysr <| yp 2 [] .z <| ye <| yc (rL n 0) (fun hC20 => ?_) fun hC20 => ?_
 ·refine x_region <| yp 3 [] .z <| ye <| ysr <| yp 1 [] .z <| yo (yQ (nd2_any (IntKind.wrap .u64 (0 - (IntKind.wrap .u64 n))) _ hP19 (by omega) (by omega)) fun w22 hc21 => ?_)
  have hu23 := Up.step hu18 hc21 iZ
  have hB25 := hB15.ch hc21 id
  refine yp 3 [] .z <| ye <| ysr <| yp 4 [2] (.q6 3 (.j 3 (24) (.j 1 (3) (.p (q := 1 < 24) (by omega) .z)))) <| yo (yQ (fb2_any b12 (IntKind.wrap .u64 (0 - (IntKind.wrap .u64 n))) _ (by omega) (by omega) hB25) ?_)
  rintro w28 ⟨hB26, hc27⟩
  have hu29 := Up.step hu23 hc27 (fun i hi (h : i = b12) => by omega)
  refine ye <| ys <| ysr <| yp 2 [] .z <| ye <| yc (rL n 0) (fun hC30 => ?_) fun hC30 => ?_
  ·refine ysr <| yp 1 [] (.i 0 (24) .z) <| yo (yS hB26 fun w31 hB32 hc33 => ?_)
   have hu34 := Up.step hu29 hc33 (fun i hi (h : i = b12) => by omega)
   replace hB32 : Blk w31 b12 [uX 45, uX (bt smallsS (((IntKind.wrap .u64 (0 - (IntKind.wrap .u64 n))) % 100) * 2)), uX (bt smallsS ((((IntKind.wrap .u64 (0 - (IntKind.wrap .u64 n))) % 100) * 2) + 1)), uX 0, uX 0, uX 0, uX 0, uX 0, uX 0, uX 0, uX 0, uX 0, uX 0, uX 0, uX 0, uX 0, uX 0, uX 0, uX 0, uX 0, uX 0, uX 0, uX 0, uX 0] _ := Blk.to hB32 (by kernel_rfl)
   refine ye <| ysr <| yp 3 [] (.q6 3 (.j 3 (24) .z)) <| yo (e_bytes (some ⟨b12, 0, none⟩) (3 : Int).toNat 24 [45, (bt smallsS (((IntKind.wrap .u64 (0 - (IntKind.wrap .u64 n))) % 100) * 2)), (bt smallsS ((((IntKind.wrap .u64 (0 - (IntKind.wrap .u64 n))) % 100) * 2) + 1))] (some 39) (by kernel_rfl) (Rd.pre (ys := [uX 45, uX (bt smallsS (((IntKind.wrap .u64 (0 - (IntKind.wrap .u64 n))) % 100) * 2)), uX (bt smallsS ((((IntKind.wrap .u64 (0 - (IntKind.wrap .u64 n))) % 100) * 2) + 1))]) (r := [uX 0, uX 0, uX 0, uX 0, uX 0, uX 0, uX 0, uX 0, uX 0, uX 0, uX 0, uX 0, uX 0, uX 0, uX 0, uX 0, uX 0, uX 0, uX 0, uX 0, uX 0]) hB32) rfl ?_)
   refine yp 5 [] .z <| ye <| x_ret (rS (rS (yR1 (.string (bytesOf [45, (bt smallsS (((IntKind.wrap .u64 (0 - (IntKind.wrap .u64 n))) % 100) * 2)), (bt smallsS ((((IntKind.wrap .u64 (0 - (IntKind.wrap .u64 n))) % 100) * 2) + 1))])) ?_)))
   refine ⟨?_, Up.ch hu34⟩
   rw [hx]
  exfalso; omega
 exfalso; omega
set_option maxRecDepth 100000 in
set_option maxHeartbeats 4000000 in
theorem fmt0_any (n : Int) (w : World) (h0 : 0 ≤ n) (h1 : n ≤ 99) : Calls Tryd.prog 48 [.int .i64 n, .int .i64 10].toArray w fun e w' => e = .returned (.string (smallB n)) ∧ Ch (fun _ => False) w w' := by
 refine yA Tryd.func48 rfl <| ysr <| yp 1 [] .z <| ye <| ys <| ysr <| yp 2 [] .z <| ye <| yct <| ys <| ysr <| yp 3 [] .z <| yw [14] (rM 0 n) (fun hC10 => ?_) fun hC10 => ?_
 ·refine yp 6 [] .z <| ye <| yc (rL n 100) (fun hC11 => ?_) fun hC11 => ?_
  ·refine ysr <| yp 1 [] .z <| yo (yQ (small_any n _ h0 h1) fun w13 hc12 => ?_)
   have hu14 := Up.step (Up.refl w.heap.size w) hc12 iZ
   refine yp 3 [] .z <| ye <| x_ret (rS (rS (yR1 (.string (smallB n)) ?_)))
   exact ⟨rfl, Up.ch hu14⟩
  exfalso; omega
 exfalso; omega
def itoaB (n : Int) : ByteArray := if 0 ≤ n then smallB n else if -9 ≤ n then bytesOf [45, 48 + (-n)] else bytesOf [45, bt smallsS (((-n) % 100) * 2), bt smallsS ((((-n) % 100) * 2) + 1)]
theorem fmt_any (n : Int) (w : World) (hp : PTab w) (h0 : -99 ≤ n) (h1 : n ≤ 99) : Calls Tryd.prog 48 [.int .i64 n, .int .i64 10].toArray w fun e w' => e = .returned (.string (itoaB n)) ∧ Ch (fun _ => False) w w' := by
 unfold itoaB
 by_cases h : 0 ≤ n
 ·rw [if_pos h]; exact fmt0_any n w h h1
 rw [if_neg h]
 by_cases h2 : -9 ≤ n
 ·rw [if_pos h2]; exact fmt1_any n w hp (by omega) (by omega)
 rw [if_neg h2]; exact fmt2_any n w hp (by omega) (by omega)
set_option maxHeartbeats 4000000 in
theorem itoai_any (n : Int) (w : World) (hp : PTab w) (h0 : -99 ≤ n) (h1 : n ≤ 99) : Calls Tryd.prog 34 [.int .i64 n].toArray w fun e w' => e = .returned (.string (itoaB n)) ∧ Ch (fun _ => False) w w' := by
 refine yA Tryd.func34 rfl <| ysr <| yp 1 [] .z <| ye <| ysr <| yp 1 [] .z <| yo (yQ (fmt_any n _ hp h0 h1) fun w11 hc10 => ?_)
 have hu12 := Up.step (Up.refl w.heap.size w) hc10 iZ
 refine yp 3 [] .z <| ye <| x_ret (yR1 (.string (itoaB n)) ?_)
 exact ⟨rfl, Up.ch hu12⟩
set_option maxHeartbeats 4000000 in
theorem itoa_any (n : Int) (w : World) (hp : PTab w) (h0 : -99 ≤ n) (h1 : n ≤ 99) : Calls Tryd.prog 21 [.int .i64 n].toArray w fun e w' => e = .returned (.string (itoaB n)) ∧ Ch (fun _ => False) w w' := by
 refine yA Tryd.func21 rfl <| ysr <| yp 1 [] .z <| ye <| ysr <| yp 1 [] .z <| yo (yQ (itoai_any n _ hp h0 h1) fun w11 hc10 => ?_)
 have hu12 := Up.step (Up.refl w.heap.size w) hc10 iZ
 refine yp 3 [] .z <| ye <| x_ret (yR1 (.string (itoaB n)) ?_)
 exact ⟨rfl, Up.ch hu12⟩
end Go.Proofs.YteoejhjfbfacdaaDoor.X
namespace Go.Proofs.YteoejhjfbfacdaaDoor.X
open Go Go.RowKit Go.Proofs.YteoejhjfbfacdaaDoor
structure LT (w : World) : Prop where
 tb : Tables w
 ut : UTabs w
 pt : PTab w
theorem lt_ch {w w' : World} {B : Nat → Prop} (h : Ch B w w') (hT : LT w) (hB : ∀ b, B b → gTop ≤ b) : LT w' :=
 have k : ∀ b, b < gTop → ¬ B b := fun b hb h => by have := hB b h; omega
 ⟨tables_ch h hT.tb (k _ g_lt.1) (k _ g_lt.2), utabs_ch h hT.ut (k _ u_lt.1) (k _ u_lt.2), ptab_ch h hT.pt (k _ (by decide))⟩
def replyT (T : TS) (s : ByteArray) : TS := if ((T.reply.size : Nat) : Int) + ((s.size : Nat) : Int) ≤ 400 then { T with reply := T.reply ++ s } else T
def placeS (T : TS) : ByteArray := (itoaB ((if T.origin = true then T.cursor.y - T.top else T.cursor.y) + 1) ++ ⟨#[59]⟩) ++ itoaB (T.cursor.x + 1)
def tellT (T : TS) (c k : Int) : TS :=
 if c = 103 ∧ k = 0 then { T with tabs := fun i => if i = T.cursor.x.toNat then false else T.tabs i }
 else if c = 103 ∧ k = 3 then { T with tabs := fun _ => false }
 else if (c = 104 ∨ c = 108) ∧ k = 4 then { T with insert := ((c : Int) == 104) }
 else if c = 110 ∧ k = 5 then replyT T ⟨#[27, 91, 48, 110]⟩
 else if c = 110 ∧ k = 6 then replyT T ((⟨#[27, 91]⟩ ++ placeS T) ++ ⟨#[82]⟩)
 else if c = 99 ∧ k = 0 then replyT T ⟨#[27, 91, 63, 54, 99]⟩
 else T
def clearT (T : TS) (y a b : Int) (s : Sty) : TS := { T with grid := clearG T.grid y a b s }
def erase1 (T : TS) (k x y : Int) (s : Sty) (i : Int) : TS :=
 if k = 2 ∨ (k = 0 ∧ y < i) ∨ (k = 1 ∧ i < y) then clearT T i 0 T.grid.w s
 else if k = 0 ∧ i = y then clearT T i x T.grid.w s
 else if k = 1 ∧ i = y then clearT T i 0 (x + 1) s
 else T
def eraseN (T : TS) (k x y : Int) (s : Sty) (a : Int) : Nat → TS
 | 0 => T
 | j + 1 => erase1 (eraseN T k x y s a j) k x y s (a + (j : Int))
def eraseT (T : TS) (k a b : Int) : TS := eraseN T k T.cursor.x T.cursor.y T.cursor.sty a (b - a).toNat
def editT (T : TS) (c n : Int) (l : List Int) : TS :=
 if c = 64 then { T with grid := openG T.grid T.cursor.x T.cursor.y n T.cursor.sty }
 else if c = 80 then { T with grid := shutG T.grid T.cursor.x T.cursor.y n T.cursor.sty }
 else if c = 88 then { T with grid := clearG T.grid T.cursor.y T.cursor.x (T.cursor.x + n) T.cursor.sty }
 else if c = 75 then eraseT T (firstI l) T.cursor.y (T.cursor.y + 1)
 else if c = 74 then (if firstI l = 3 then eraseT { T with back := [] } (firstI l) 0 T.grid.h else eraseT T (firstI l) 0 T.grid.h)
 else if c = 76 then (if T.top ≤ T.cursor.y ∧ T.cursor.y < T.bot then { T with grid := downG T.grid T.cursor.y T.bot n T.cursor.sty } else T)
 else if c = 77 then (if T.top ≤ T.cursor.y ∧ T.cursor.y < T.bot then { T with grid := upG T.grid T.cursor.y T.bot n T.cursor.sty } else T)
 else if c = 83 then scrollT T n
 else if c = 84 then { T with grid := downG T.grid T.top T.bot n T.cursor.sty }
 else tellT T c (firstI l)
def plainT (T : TS) (c : Int) (l : List Int) : TS :=
 if c = 65 then moveT T T.cursor.x (max (T.cursor.y - paramI l 0) (if T.top ≤ T.cursor.y then T.top else 0))
 else if c = 66 ∨ c = 101 then moveT T T.cursor.x (min (T.cursor.y + paramI l 0) ((if T.cursor.y < T.bot then T.bot else T.grid.h) - 1))
 else if c = 67 ∨ c = 97 then moveT T (T.cursor.x + paramI l 0) T.cursor.y
 else if c = 68 then moveT T (T.cursor.x - paramI l 0) T.cursor.y
 else if c = 71 ∨ c = 96 then moveT T (paramI l 0 - 1) T.cursor.y
 else if c = 100 then homeT T (T.cursor.x + 1) (paramI l 0)
 else if c = 72 ∨ c = 102 then homeT T (paramI l 1) (paramI l 0)
 else if c = 109 then { T with cursor := ⟨T.cursor.x, T.cursor.y, T.cursor.late, changesS T.cursor.sty l⟩ }
 else if c = 114 then
  (if paramI l 0 < (if 1 < ((l.length : Nat) : Int) ∧ 0 < l.getD 1 0 then min (l.getD 1 0) T.grid.h else T.grid.h) then
   homeT { T with top := paramI l 0 - 1, bot := (if 1 < ((l.length : Nat) : Int) ∧ 0 < l.getD 1 0 then min (l.getD 1 0) T.grid.h else T.grid.h) } 1 1 else T)
 else editT T c (paramI l 0) l
def clearsG (G : Gr) : Nat → Gr
 | 0 => G
 | k + 1 => clearG (clearsG G k) (k : Int) 0 (clearsG G k).w sty0
def turnT (T : TS) (b : Bool) : TS :=
 if (b == T.alt) = true then T
 else if b = true then { T with alt := b, grid := clearsG T.other T.other.h.toNat, other := T.grid, cursor := T.cursor, away := T.cursor }
 else { T with alt := b, grid := T.other, other := T.grid, cursor := T.away, away := T.cursor }
def modeT (T : TS) (n : Int) (b : Bool) : TS :=
 if n = 6 then homeT { T with origin := b } 1 1
 else if n = 7 then { T with wrap := b, cursor := ⟨T.cursor.x, T.cursor.y, T.cursor.late && b, T.cursor.sty⟩ }
 else if n = 25 then { T with hidden := !b }
 else if n = 1049 then turnT T b
 else T
def csiT (T : TS) (a : Ac) : TS :=
 if (a.marks.toList == ByteArray.empty.toList) = true then plainT T a.last a.params
 else if (a.marks.toList == (⟨#[63]⟩ : ByteArray).toList) = true ∧ (a.last = 104 ∨ a.last = 108) then a.params.foldl (fun T n => modeT T n ((a.last : Int) == 104)) T
 else T
def tabs0 (k : Nat) (i : Nat) : Bool := decide (i % 8 = 0 ∧ 8 ≤ i ∧ i < 8 + 8 * k)
def startT (T : TS) (w h : Int) : TS :=
 {grid := newG w h, other := newG w h, cursor := cur0, saved := cur0, away := cur0, top := 0, bot := sideI h, tabs := tabs0 7, wrap := true, origin := false, insert := false, hidden := false, draw0 := false, draw1 := false, shift := false, alt := false, title := ByteArray.empty, back := [], parser := T.parser, reply := T.reply }
def escT (T : TS) (a : Ac) : TS :=
 if (a.marks.toList == (⟨#[40]⟩ : ByteArray).toList) = true then
  (if a.last = 48 ∨ a.last = 66 then { T with draw0 := ((a.last : Int) == 48) } else T)
 else if (a.marks.toList == (⟨#[41]⟩ : ByteArray).toList) = true then
  (if a.last = 48 ∨ a.last = 66 then { T with draw1 := ((a.last : Int) == 48) } else T)
 else if (a.marks.toList == ByteArray.empty.toList) = false then T
 else if a.last = 55 then { T with saved := T.cursor }
 else if a.last = 56 then { T with cursor := T.saved }
 else if a.last = 68 then lateT (downT T) false
 else if a.last = 69 then moveT (downT T) 0 (downT T).cursor.y
 else if a.last = 77 then lateT (upT T) false
 else if a.last = 72 then { T with tabs := fun i => if i = T.cursor.x.toNat then true else T.tabs i }
 else if a.last = 99 then startT T T.grid.w T.grid.h
 else T
def oscT (T : TS) (a : Ac) : TS :=
 if 2 ≤ ((a.text.size : Nat) : Int) ∧ ((((a.text).extract 0 (2 : Int).toNat).toList == (⟨#[48, 59]⟩ : ByteArray).toList) = true ∨ (((a.text).extract 0 (2 : Int).toNat).toList == (⟨#[50, 59]⟩ : ByteArray).toList) = true) then { T with title := (a.text).extract (2 : Int).toNat (a.text).size } else T
def actT (T : TS) (a : Ac) : TS :=
 if a.kind = 0 then printT T a.rune
 else if a.kind = 1 then execT T a.last
 else if a.kind = 2 then escT T a
 else if a.kind = 3 then csiT T a
 else if a.kind = 4 then oscT T a
 else T
section
variable {W H : Int} {T : TS}
theorem Lim.flags (h : Lim W H T) {T' : TS} (e1 : T'.grid = T.grid) (e2 : T'.other = T.other) (e3 : T'.cursor = T.cursor) (e4 : T'.saved = T.saved) (e5 : T'.away = T.away) (e6 : T'.top = T.top) (e7 : T'.bot = T.bot) (e8 : T'.back = T.back) (e9 : T'.reply = T.reply) : Lim W H T' :=
 ⟨h.wb, h.hb, by rw [e1]; exact h.g1, by rw [e2]; exact h.g2, by rw [e3]; exact h.cu, by rw [e4]; exact h.sa, by rw [e5]; exact h.aw, by rw [e6, e7]; exact h.tb, by rw [e8]; exact h.bk, by rw [e9]; exact h.rp⟩
theorem TermIn.swap {w w' : World} {t g o : Nat} {ba : Option Addr} {bn bc : Nat} {pa : Option Addr} {pn pc : Nat} {T T' : TS} {F F1 F2 FB FP : Nat → Prop} (h : TermIn w t g o ba bn bc pa pn pc T F F1 F2 FB FP) (hc : Ch (fun j => j = t) w w')
  (hb : Blk w' t (T'.vals o g (.slice ba bn bc) (.slice pa pn pc)) tTerm) (hg : T'.grid = T.other) (ho : T'.other = T.grid) (hk : T'.back = T.back) (hp : T'.parser.params = T.parser.params) : TermIn w' t o g ba bn bc pa pn pc T' F F2 F1 FB FP := by
 obtain ⟨rows, hL, hl⟩ := h.bk
 exact
 {blk := hb
  g1 := by rw [hg]; exact h.g2.ch hc fun b hb e => h.t2 (e ▸ hb)
  g2 := by rw [ho]; exact h.g1.ch hc fun b hb e => h.t1 (e ▸ hb)
  bk := ⟨rows, hL.ch hc fun b hb e => h.tB (e ▸ hb), by rw [hk]; exact hl⟩
  bcap := h.bcap
  ps := by rw [hp]; exact ⟨h.ps.1.ch hc fun ad e e2 => h.tP (e2 ▸ h.ps.2.2.2 ad e), h.ps.2⟩
  pz := h.pz
  bz := h.bz
  t1 := h.t2, t2 := h.t1, tB := h.tB, tP := h.tP
  a12 := fun b h1 h2 => h.a12 b h2 h1
  a1B := h.a2B, a2B := h.a1B, a1P := h.a2P, a2P := h.a1P
  inF := ⟨h.inF.1, h.inF.2.2.1, h.inF.2.1, h.inF.2.2.2.1, h.inF.2.2.2.2⟩
  lt := fun b hb => Nat.lt_of_lt_of_le (h.lt b hb) hc.size
  hi := h.hi }
def clearsT (T : TS) (k : Nat) : TS := { T with grid := clearsG T.grid k }
theorem TermIn.nilBack {w w' : World} {t g o : Nat} {ba : Option Addr} {bn bc : Nat} {pa : Option Addr} {pn pc : Nat} {T : TS} {F F1 F2 FB FP : Nat → Prop} (h : TermIn w t g o ba bn bc pa pn pc T F F1 F2 FB FP) (hc : Ch (fun j => j = t) w w')
  (hb : Blk w' t (({ T with back := [] } : TS).vals g o (.slice none 0 0) (.slice pa pn pc)) tTerm) : TermIn w' t g o none 0 0 pa pn pc ({ T with back := [] } : TS) F F1 F2 FB FP :=
 {h with
  blk := hb
  g1 := h.g1.ch hc fun b hb e => h.t1 (e ▸ hb)
  g2 := h.g2.ch hc fun b hb e => h.t2 (e ▸ hb)
  bk := ⟨[], ⟨Rd.nil _ _, rfl, (fun x hx => by cases hx), (fun x hx => by cases hx), (fun ad e => by cases e), fun b hb => Nat.lt_of_lt_of_le (h.lt b (h.inF.2.2.2.1 b hb)) hc.size, fun b hb => h.hi b (h.inF.2.2.2.1 b hb)⟩, rfl⟩
  bcap := ⟨Nat.le_refl _, fun _ => rfl⟩
  bz := .inl rfl
  ps := ⟨h.ps.1.ch hc fun ad e e2 => h.tP (e2 ▸ h.ps.2.2.2 ad e), h.ps.2⟩
  lt := fun b hb => Nat.lt_of_lt_of_le (h.lt b hb) hc.size }
theorem ite_lim {P : TS → Prop} {c : Prop} [Decidable c] {a b : TS} (h1 : c → P a) (h2 : ¬ c → P b) : P (if c then a else b) := by
 by_cases h : c
 ·rw [if_pos h]; exact h1 h
 ·rw [if_neg h]; exact h2 h
theorem lim_reply (h : Lim W H T) (s : ByteArray) : Lim W H (replyT T s) := by
 unfold replyT
 split
 ·exact { h with rp := by show (T.reply ++ s).size ≤ 400; rw [ByteArray.size_append]; omega }
 ·exact h
theorem lim_tell (h : Lim W H T) (c k : Int) : Lim W H (tellT T c k) := by
 unfold tellT
 refine ite_lim (fun _ => h.flags rfl rfl rfl rfl rfl rfl rfl rfl rfl) fun _ => ?_
 refine ite_lim (fun _ => h.flags rfl rfl rfl rfl rfl rfl rfl rfl rfl) fun _ => ?_
 refine ite_lim (fun _ => h.flags rfl rfl rfl rfl rfl rfl rfl rfl rfl) fun _ => ?_
 refine ite_lim (fun _ => lim_reply h _) fun _ => ?_
 refine ite_lim (fun _ => lim_reply h _) fun _ => ?_
 refine ite_lim (fun _ => lim_reply h _) fun _ => h
theorem lim_clear (h : Lim W H T) (y a b : Int) (s : Sty) : Lim W H (clearT T y a b s) := h.grid (clearG_w _ _ _ _ _)
theorem lim_erase1 (h : Lim W H T) (k x y : Int) (s : Sty) (i : Int) : Lim W H (erase1 T k x y s i) := by
 unfold erase1
 repeat' split
 all_goals first | exact lim_clear h _ _ _ _ | exact h
theorem lim_eraseN (h : Lim W H T) (k x y : Int) (s : Sty) (a : Int) (j : Nat) : Lim W H (eraseN T k x y s a j) := by
 induction j with
 | zero => exact h
 | succ j ih => exact lim_erase1 ih _ _ _ _ _
theorem lim_erase (h : Lim W H T) (k a b : Int) : Lim W H (eraseT T k a b) := lim_eraseN h _ _ _ _ _ _
theorem lim_edit (h : Lim W H T) (c n : Int) (l : List Int) : Lim W H (editT T c n l) := by
 have hd : ∀ a b n s, Lim W H { T with grid := downG T.grid a b n s } := fun a b n s => h.grid (G := downG T.grid a b n s) ⟨rfl, rfl⟩
 have hu : ∀ a b n s, Lim W H { T with grid := upG T.grid a b n s } := fun a b n s => h.grid (G := upG T.grid a b n s) ⟨rfl, rfl⟩
 unfold editT
 refine ite_lim (fun _ => h.grid (openG_w _ _ _ _ _)) fun _ => ?_
 refine ite_lim (fun _ => h.grid (shutG_w _ _ _ _ _)) fun _ => ?_
 refine ite_lim (fun _ => h.grid (clearG_w _ _ _ _ _)) fun _ => ?_
 refine ite_lim (fun _ => lim_erase h _ _ _) fun _ => ?_
 refine ite_lim (fun _ => ite_lim (fun _ => lim_erase (T := { T with back := [] }) { h with bk := by simp } _ _ _) fun _ => lim_erase h _ _ _) fun _ => ?_
 refine ite_lim (fun _ => ite_lim (fun _ => hd _ _ _ _) fun _ => h) fun _ => ?_
 refine ite_lim (fun _ => ite_lim (fun _ => hu _ _ _ _) fun _ => h) fun _ => ?_
 refine ite_lim (fun _ => lim_scroll h _) fun _ => ?_
 refine ite_lim (fun _ => hd _ _ _ _) fun _ => ?_
 exact lim_tell h _ _
theorem paramI_pos (l : List Int) (i : Nat) : 1 ≤ paramI l i := by unfold paramI; split <;> omega
theorem paramI_hi {l : List Int} (h : ∀ x ∈ l, 0 ≤ x ∧ x ≤ 9999) (i : Nat) : paramI l i ≤ 9999 := by
 unfold paramI
 have := getD_bd h (by decide) i
 split <;> omega
theorem lim_region (h : Lim W H T) {n e : Int} (hn : 1 ≤ n ∧ n < e ∧ e ≤ H) : Lim W H { T with top := n - 1, bot := e } :=
 {h with tb := ⟨by show (0 : Int) ≤ n - 1; omega, by show n - 1 < e; omega, hn.2.2⟩ }
theorem lim_plain (h : Lim W H T) (c : Int) (l : List Int) : Lim W H (plainT T c l) := by
 have h1 := h.g1
 have hp := paramI_pos l 0
 unfold plainT
 refine ite_lim (fun _ => lim_move h _ _) fun _ => ?_
 refine ite_lim (fun _ => lim_move h _ _) fun _ => ?_
 refine ite_lim (fun _ => lim_move h _ _) fun _ => ?_
 refine ite_lim (fun _ => lim_move h _ _) fun _ => ?_
 refine ite_lim (fun _ => lim_move h _ _) fun _ => ?_
 refine ite_lim (fun _ => lim_home h _ _) fun _ => ?_
 refine ite_lim (fun _ => lim_home h _ _) fun _ => ?_
 refine ite_lim (fun _ => h.cursor h.cu) fun _ => ?_
 refine ite_lim (fun _ => ite_lim (fun h5 => lim_home (lim_region h ⟨hp, h5, ?_⟩) _ _) fun _ => h) fun _ => lim_edit h _ _ _
 split <;> omega
theorem clearsG_w (G : Gr) (k : Nat) : (clearsG G k).w = G.w ∧ (clearsG G k).h = G.h := by
 induction k with
 | zero => exact ⟨rfl, rfl⟩
 | succ k ih => exact ⟨(clearG_w _ _ _ _ _).1.trans ih.1, (clearG_w _ _ _ _ _).2.trans ih.2⟩
theorem lim_clears (h : Lim W H T) (k : Nat) : Lim W H (clearsT T k) := h.grid (clearsG_w _ _)
theorem lim_turn (h : Lim W H T) (b : Bool) : Lim W H (turnT T b) := by
 have h1 := h.g1
 have h2 := h.g2
 unfold turnT
 split
 ·exact h
 ·split
  ·exact ⟨h.wb, h.hb, ⟨(clearsG_w _ _).1.trans h2.1, (clearsG_w _ _).2.trans h2.2⟩, h1, h.cu, h.sa, h.cu, h.tb, h.bk, h.rp⟩
  ·exact ⟨h.wb, h.hb, h2, h1, h.aw, h.sa, h.cu, h.tb, h.bk, h.rp⟩
theorem lim_mode (h : Lim W H T) (n : Int) (b : Bool) : Lim W H (modeT T n b) := by
 unfold modeT
 split
 ·exact lim_home (T := { T with origin := b }) (h.flags rfl rfl rfl rfl rfl rfl rfl rfl rfl) _ _
 split
 ·exact { h.cursor (c := ⟨T.cursor.x, T.cursor.y, T.cursor.late && b, T.cursor.sty⟩) h.cu with }
 split
 ·exact h.flags rfl rfl rfl rfl rfl rfl rfl rfl rfl
 split
 ·exact lim_turn h b
 ·exact h
theorem lim_modes (h : Lim W H T) (l : List Int) (b : Bool) : Lim W H (l.foldl (fun T n => modeT T n b) T) := by
 induction l generalizing T with
 | nil => exact h
 | cons n l ih => exact ih (lim_mode h n b)
theorem lim_csi (h : Lim W H T) (a : Ac) : Lim W H (csiT T a) := by
 unfold csiT
 split
 ·exact lim_plain h _ _
 split
 ·exact lim_modes h _ _
 ·exact h
theorem sideI_id {n : Int} (h : 1 ≤ n ∧ n ≤ 60) : sideI n = n := by unfold sideI; omega
theorem lim_start (T : TS) (w h : Int) (hr : T.reply.size ≤ 400) : Lim (sideI w) (sideI h) (startT T w h) := by
 have h1 : 1 ≤ sideI w ∧ sideI w ≤ 60 := by unfold sideI; omega
 have h2 : 1 ≤ sideI h ∧ sideI h ≤ 60 := by unfold sideI; omega
 have hc : (0 ≤ cur0.x ∧ cur0.x < sideI w) ∧ 0 ≤ cur0.y ∧ cur0.y < sideI h := ⟨⟨by decide, by show (0 : Int) < _; omega⟩, by decide, by show (0 : Int) < _; omega⟩
 exact ⟨h1, h2, ⟨rfl, rfl⟩, ⟨rfl, rfl⟩, hc, hc, hc, ⟨by show (0 : Int) ≤ 0; omega, by show (0 : Int) < sideI h; omega, by show sideI h ≤ sideI h; omega⟩, by show ([] : List (List Cel)).length ≤ 20; simp, hr⟩
theorem lim_esc (h : Lim W H T) (a : Ac) : Lim W H (escT T a) := by
 unfold escT
 refine ite_lim (fun _ => ite_lim (fun _ => h.flags rfl rfl rfl rfl rfl rfl rfl rfl rfl) fun _ => h) fun _ => ?_
 refine ite_lim (fun _ => ite_lim (fun _ => h.flags rfl rfl rfl rfl rfl rfl rfl rfl rfl) fun _ => h) fun _ => ?_
 refine ite_lim (fun _ => h) fun _ => ?_
 refine ite_lim (fun _ => { h with sa := h.cu }) fun _ => ?_
 refine ite_lim (fun _ => { h with cu := h.sa }) fun _ => ?_
 refine ite_lim (fun _ => lim_late (lim_down h) _) fun _ => ?_
 refine ite_lim (fun _ => lim_move (lim_down h) _ _) fun _ => ?_
 refine ite_lim (fun _ => lim_late (lim_up h) _) fun _ => ?_
 refine ite_lim (fun _ => h.flags rfl rfl rfl rfl rfl rfl rfl rfl rfl) fun _ => ?_
 refine ite_lim (fun _ => ?_) fun _ => h
 have := lim_start T T.grid.w T.grid.h h.rp
 rw [h.g1.1, h.g1.2, sideI_id h.wb, sideI_id h.hb] at this
 rw [h.g1.1, h.g1.2]; exact this
theorem lim_osc (h : Lim W H T) (a : Ac) : Lim W H (oscT T a) := by
 unfold oscT
 split
 ·exact h.flags rfl rfl rfl rfl rfl rfl rfl rfl rfl
 ·exact h
theorem lim_act (h : Lim W H T) (a : Ac) : Lim W H (actT T a) := by
 unfold actT
 split
 ·exact lim_print h _
 split
 ·exact lim_exec h _
 split
 ·exact lim_esc h a
 split
 ·exact lim_csi h a
 split
 ·exact lim_osc h a
 ·exact h
end
end Go.Proofs.YteoejhjfbfacdaaDoor.X
namespace Go.Proofs.YteoejhjfbfacdaaDoor.X
open Go Go.RowKit Go.Proofs.YteoejhjfbfacdaaDoor
set_option maxHeartbeats 4000000 in
theorem reply_at {w : World} {t : Nat} {W H : Int} {T : TS} {F : Nat → Prop} (hA0 : TermAt w t T F) (hT : LT w) (hL : Lim W H T) (x : ByteArray) (hx : x.size ≤ 1000) : Calls Tryd.prog 106 [.pointer (some ⟨t, 0, none⟩), .string x].toArray w fun e w' => e = .returned (.tuple #[]) ∧ TermAt w' t (replyT T x) (more F w w') ∧ Ch F w w' := by
 obtain ⟨g, o, ba, bn, bc, pa, pn, pc, F1, F2, FB, FP, hI⟩ := hA0
 have hA0 : TermAt w t T F := ⟨g, o, ba, bn, bc, pa, pn, pc, F1, F2, FB, FP, hI⟩
 have hFt := hI.inF.1
 obtain ⟨gv, hgd⟩ := hI.g1.head
 have htg : Df t g := fun e => hI.t1 (e ▸ hI.g1.inF)
 obtain ⟨⟨hw1, hw2⟩, ⟨hh1, hh2⟩, hll, hall⟩ := hI.g1.ok
 have hL0 := hL
 obtain ⟨⟨hwa, hwb⟩, ⟨hha, hhb⟩, ⟨hgw, hgh⟩, ⟨how, hoh⟩, ⟨⟨hcx, hcX⟩, hcy, hcY⟩, ⟨⟨hsx, hsX⟩, hsy, hsY⟩, ⟨⟨hax, haX⟩, hay, haY⟩, ⟨htp, htb, hbh⟩, hbk, hrp⟩ := hL0
 refine yA Tryd.func106 rfl <| ysr <| yp 9 [] (.l (hI.blk.c 107) (.q6 (((T.reply).size : Int) + ((x).size : Int)) .z)) <| ye <| yc (rM (((T.reply).size : Int) + ((x).size : Int)) 400) (fun hC10 => ?_) fun hC10 => ?_
 ·have hpp0 := hC10
  refine x_region <| yp 8 [] (.l (hI.blk.c 107) (.p (q := (T.reply).size + (x).size ≤ 9223372036854775807) (by omega) .z)) <| yo (e_store 107 [.string (T.reply ++ x)] none (by kernel_rfl) hI.blk (of_ble (by kernel_rfl)) ?_)
  intro w11 hB12 hc13
  replace hB12 : Blk w11 t (TS.vals ({ T with reply := (T.reply ++ x) } : TS) g o (.slice ba bn bc) (.slice pa pn pc)) tTerm := Blk.to hB12 (by kernel_rfl)
  have hS15 := Ch.trans (Ch.refl (fun j => j = t) w) hc13 (fun i hi (h : i = t) => h)
  refine yE (yR0' ?_)
  have hI18 := hI.scalar (T' := ({ T with reply := (T.reply ++ x) } : TS)) hS15 hB12 rfl rfl rfl rfl
  have hX19 : Ch F w w11 := Ch.trans (Ch.refl F w) hS15 (fun i _ h => h ▸ hFt)
  have hA20 : TermAt w11 t ({ T with reply := (T.reply ++ x) } : TS) (more F w w11) := ⟨_, _, _, _, _, _, _, _, _, _, _, _, hI18.mono (fun _ h => .inl h) (hI.moreOk hX19.size)⟩
  refine ⟨rfl, TermAt.eq' hA20 ?_, hX19⟩
  simp only [replyT, eq_true hpp0, ↓reduceIte, Int.reduceEq, Int.reduceLT, Int.reduceLE, Bool.and_true, Bool.true_and, Bool.and_false, Bool.false_and, Bool.false_eq_true, Bool.true_eq_false, and_true, true_and, and_false, false_and, or_true, true_or, or_false, false_or]
 have hpp0 := hC10
 refine x_skip (yR0' ?_)
 have hX21 : Ch F w w := Ch.trans (Ch.refl F w) (Ch.refl (fun j => j = t) w) (fun i _ h => h ▸ hFt)
 have hA22 : TermAt w t T (more F w w) := ⟨_, _, _, _, _, _, _, _, _, _, _, _, hI.mono (fun _ h => .inl h) (hI.moreOk hX21.size)⟩
 refine ⟨rfl, TermAt.eq' hA22 ?_, hX21⟩
 simp only [replyT, eq_false hpp0, ↓reduceIte, Int.reduceEq, Int.reduceLT, Int.reduceLE, Bool.and_true, Bool.true_and, Bool.and_false, Bool.false_and, Bool.false_eq_true, Bool.true_eq_false, and_true, true_and, and_false, false_and, or_true, true_or, or_false, false_or]
theorem size59 : (⟨#[59]⟩ : ByteArray).size = 1 := rfl
theorem smallB_len (n : Int) : (smallB n).size ≤ 2 := by
 unfold smallB
 split
 ·rw [ByteArray.size_extract]; omega
 rw [ByteArray.size_extract]; omega
theorem itoaB_len (n : Int) : (itoaB n).size ≤ 3 := by
 have h2 : ∀ a b : Int, (bytesOf [a, b]).size = 2 := fun _ _ => rfl
 have h3 : ∀ a b c : Int, (bytesOf [a, b, c]).size = 3 := fun _ _ _ => rfl
 have := smallB_len n
 unfold itoaB
 split
 ·omega
 split
 ·rw [h2]; omega
 rw [h3]; omega
set_option maxHeartbeats 4000000 in
theorem place_any {w : World} {t g o : Nat} {ba : Option Addr} {bn bc : Nat} {pa : Option Addr} {pn pc : Nat} {T : TS} {F F1 F2 FB FP : Nat → Prop} (hI : TermIn w t g o ba bn bc pa pn pc T F F1 F2 FB FP) {W H : Int} (hT : LT w) (hL : Lim W H T) : Calls Tryd.prog 107 [.pointer (some ⟨t, 0, none⟩)].toArray w fun e w' => e = .returned (.string (placeS T)) ∧ Ch (fun _ => False) w w' := by
 have hgd := hI.g1.head
 obtain ⟨gv, hgd⟩ := hgd
 obtain ⟨⟨hw1, hw2⟩, ⟨hh1, hh2⟩, hll, hall⟩ := hI.g1.ok
 have htg : Df t g := fun e => hI.t1 (e ▸ hI.g1.inF)
 have hFt := hI.inF.1
 have hL0 := hL
 obtain ⟨⟨hwa, hwb⟩, ⟨hha, hhb⟩, ⟨hgw, hgh⟩, ⟨how, hoh⟩, ⟨⟨hcx, hcX⟩, hcy, hcY⟩, ⟨⟨hsx, hsX⟩, hsy, hsY⟩, ⟨⟨hax, haX⟩, hay, haY⟩, ⟨htp, htb, hbh⟩, hbk, hrp⟩ := hL0
 have hi1 := itoaB_len (T.cursor.y + 1)
 have hi2 := itoaB_len (T.cursor.y - T.top + 1)
 have hi3 := itoaB_len (T.cursor.x + 1)
 refine yA Tryd.func107 rfl <| ysr <| yp 1 [] .z <| ye <| ysr <| yp 6 [] (.l (hI.blk.c 3) .z) <| ye <| ys <| ysr <| yp 4 [] (.l (hI.blk.c 89) .z) <| ye <| yc (rY T.origin) (fun hC10 => ?_) fun hC10 => ?_
 ·have hpp0 := hC10
  refine x_region <| yp 7 [] (.l (hI.blk.c 26) (.q6 (T.cursor.y - T.top) .z)) <| ye <| ys <| yDC [10] fun w11 hH12 hc13 => ?_
  have hu15 := Up.step (Up.refl w.heap.size w) hc13 iZ
  have ht16 := hI.blk.ch hc13 id
  have hT18 := lt_ch hc13 hT (fun _ h => h.elim)
  refine ydC [0, 1, 4, 5, 6, 7, 8, 9] [] (fun u hu => (.q6 ((T.cursor.y - T.top) + 1) (.l (cell_ch hu (ht16.c 2) id) (.q6 (T.cursor.x + 1) .z)))) <| yH 2 (yQ (itoa_any ((T.cursor.y - T.top) + 1) _ hT18.pt (by omega) (by omega)) fun w20 hc19 => ?_)
  have hu22 := Up.step hu15 hc19 iZ
  have hT25 := lt_ch hc19 hT18 (fun _ h => h.elim)
  refine x_heldC hc19 <| ydT [3] [] (Ch.refl _ _) (fun _ => (.p (q := ((itoaB ((T.cursor.y - T.top) + 1))).size + ((⟨#[59]⟩ : ByteArray)).size ≤ 9223372036854775807) (by simp only [ByteArray.size_append, size59]; omega) .z)) <| yK 10 (yQ (itoa_any (T.cursor.x + 1) _ hT25.pt (by omega) (by omega)) fun w27 hc26 => ?_)
  have hu29 := Up.step hu22 hc26 iZ
  refine x_killed <| yd [11, 12] [] (.p (q := (((itoaB ((T.cursor.y - T.top) + 1)) ++ (⟨#[59]⟩ : ByteArray))).size + ((itoaB (T.cursor.x + 1))).size ≤ 9223372036854775807) (by simp only [ByteArray.size_append, size59]; omega) .z) <| yDe (nS ?_)
  refine x_ret (yR1 (.string (((itoaB ((T.cursor.y - T.top) + 1)) ++ (⟨#[59]⟩ : ByteArray)) ++ (itoaB (T.cursor.x + 1)))) ?_)
  refine ⟨congrArg Ending.returned (congrArg Value.string ?_), Up.ch hu29⟩
  simp only [placeS, hpp0, ↓reduceIte, Bool.false_eq_true]
 have hpp0 := hC10
 refine yk <| ys <| yDC [10] fun w33 hH34 hc35 => ?_
 have hu37 := Up.step (Up.refl w.heap.size w) hc35 iZ
 have ht38 := hI.blk.ch hc35 id
 have hT40 := lt_ch hc35 hT (fun _ h => h.elim)
 refine ydC [0, 1, 4, 5, 6, 7, 8, 9] [] (fun u hu => (.q6 (T.cursor.y + 1) (.l (cell_ch hu (ht38.c 2) id) (.q6 (T.cursor.x + 1) .z)))) <| yH 2 (yQ (itoa_any (T.cursor.y + 1) _ hT40.pt (by omega) (by omega)) fun w42 hc41 => ?_)
 have hu44 := Up.step hu37 hc41 iZ
 have hT47 := lt_ch hc41 hT40 (fun _ h => h.elim)
 refine x_heldC hc41 <| ydT [3] [] (Ch.refl _ _) (fun _ => (.p (q := ((itoaB (T.cursor.y + 1))).size + ((⟨#[59]⟩ : ByteArray)).size ≤ 9223372036854775807) (by simp only [ByteArray.size_append, size59]; omega) .z)) <| yK 10 (yQ (itoa_any (T.cursor.x + 1) _ hT47.pt (by omega) (by omega)) fun w49 hc48 => ?_)
 have hu51 := Up.step hu44 hc48 iZ
 refine x_killed <| yd [11, 12] [] (.p (q := (((itoaB (T.cursor.y + 1)) ++ (⟨#[59]⟩ : ByteArray))).size + ((itoaB (T.cursor.x + 1))).size ≤ 9223372036854775807) (by simp only [ByteArray.size_append, size59]; omega) .z) <| yDe (nS ?_)
 refine x_ret (yR1 (.string (((itoaB (T.cursor.y + 1)) ++ (⟨#[59]⟩ : ByteArray)) ++ (itoaB (T.cursor.x + 1)))) ?_)
 refine ⟨congrArg Ending.returned (congrArg Value.string ?_), Up.ch hu51⟩
 simp only [placeS, hpp0, ↓reduceIte, Bool.false_eq_true]
set_option maxHeartbeats 4000000 in
theorem erase_at {w : World} {t : Nat} {W H : Int} {T : TS} {F : Nat → Prop} (hA0 : TermAt w t T F) (hT : LT w) (hL : Lim W H T) (kk fa fb : Int) (hab : (0 ≤ fa ∧ fa ≤ 60) ∧ 0 ≤ fb ∧ fb ≤ 60) : Calls Tryd.prog 101 [.pointer (some ⟨t, 0, none⟩), .int .i64 kk, .int .i64 fa, .int .i64 fb].toArray w fun e w' => e = .returned (.tuple #[]) ∧ TermAt w' t (eraseT T kk fa fb) (more F w w') ∧ Ch F w w' := by
 obtain ⟨g, o, ba, bn, bc, pa, pn, pc, F1, F2, FB, FP, hI⟩ := hA0
 have hA0 : TermAt w t T F := ⟨g, o, ba, bn, bc, pa, pn, pc, F1, F2, FB, FP, hI⟩
 have hFt := hI.inF.1
 obtain ⟨gv, hgd⟩ := hI.g1.head
 have htg : Df t g := fun e => hI.t1 (e ▸ hI.g1.inF)
 obtain ⟨⟨hw1, hw2⟩, ⟨hh1, hh2⟩, hll, hall⟩ := hI.g1.ok
 have hL0 := hL
 obtain ⟨⟨hwa, hwb⟩, ⟨hha, hhb⟩, ⟨hgw, hgh⟩, ⟨how, hoh⟩, ⟨⟨hcx, hcX⟩, hcy, hcY⟩, ⟨⟨hsx, hsX⟩, hsy, hsY⟩, ⟨⟨hax, haX⟩, hay, haY⟩, ⟨htp, htb, hbh⟩, hbk, hrp⟩ := hL0
 refine yA Tryd.func101 rfl <| ys <| yDC [18] fun w10 hH11 hc12 => ?_
 have hS13 := Ch.trans (Ch.refl (fun j => j = t) w) hc12 eZ
 have ht15 := hI.blk.ch hc12 id
 have hT17 := lt_ch hc12 hT (fun _ h => h.elim)
 refine ydC (uL 0 15) [] (fun u hu => (.l (cell_ch hu (ht15.c 2) id) (.l (cell_ch hu (ht15.c 3) id) (.a (cellsC_ch hu (ht15.cs 5 5) id) .z)))) <| yH 15 (yN [.bool false, .bool false, .bool false, iX 0, iX 0] 28 fun w18 b19 hb20 hz21 hB22 hc23 => ?_)
 have hlo24 : w.heap.size ≤ b19 := by rw [hb20]; exact Ch.size hS13
 have hS25 := Ch.trans hS13 hc23 eZ
 have ht27 := ht15.ch hc23 id
 have hT29 := lt_ch hc23 hT17 (fun _ h => h.elim)
 refine x_heldC hc23 <| ydC [16, 17] [] (fun u hu => .z) <| yK 18 (yS hB22 fun w30 hB31 hc32 => ?_)
 have hS33 := Ch.trans hS25 hc32 (fun i hi (h : i = b19) => by omega)
 have ht35 := ht27.ch hc32 (fun (h : t = b19) => by have := ht15.lt; omega)
 have hT37 := lt_ch hc32 hT29 (fun b (h : b = b19) => by have := hI.hi t hFt; have := hI.blk.lt; omega)
 replace hB31 : Blk w30 b19 [.bool T.cursor.sty.bold, .bool T.cursor.sty.under, .bool T.cursor.sty.turned, iX T.cursor.sty.fore, iX T.cursor.sty.back] _ := Blk.to hB31 (by kernel_rfl)
 refine x_killed <| yDe (nS ?_)
 refine ysr <| yp 2 [] .z <| ye <| x_block ?_
 have hI38 := hI.scalar (T' := T) hS33 ht35 rfl rfl rfl rfl
 have hA39 : TermAt w30 t T F := ⟨_, _, _, _, _, _, _, _, _, _, _, _, hI38⟩
 have hpre40 : Ch F w w30 := hS33.mono (fun i _ h => h ▸ hFt)
 have hly41 := hB31.lt
 have hX42 : Ch F w30 w30 := Ch.trans (Ch.refl F w30) (Ch.refl (fun j => j = t) w30) (fun i _ h => h ▸ hFt)
 have hA43 : TermAt w30 t T (more F w30 w30) := ⟨_, _, _, _, _, _, _, _, _, _, _, _, hI38.mono (fun _ h => .inl h) (hI38.moreOk hX42.size)⟩
 refine ykeep [0, 1, 3, 8, 9, 10, 11] (f' := [(0, pX t), (1, iX kk), (3, iX fb), (8, iX T.cursor.x), (9, iX T.cursor.y), (10, pX b19), (11, iX fa)]) <| x_loop (σ := Nat) (fun j => [(0, pX t), (1, iX kk), (3, iX fb), (8, iX T.cursor.x), (9, iX T.cursor.y), (10, pX b19), (11, iX (fa + ((j : Nat) : Int)))]) (fun j u => j ≤ (fb - fa).toNat ∧ (TermAt u t (eraseN T kk T.cursor.x T.cursor.y T.cursor.sty fa j) (more F w30 u) ∧ Ch F w30 u)) (fun j => (fb - fa).toNat - j) 0 (by simp) ?_ ?_
 ·exact ⟨Nat.zero_le _, (TermAt.eq' hA43 rfl), hX42⟩
 intro j w44 hI45 K46 hL47
 obtain ⟨hj, hN48, hX49⟩ := hI45
 have hT51 := lt_ch hX49 hT37 (fun b hb => hI38.hi b hb)
 have hB52 := hB31.ch hX49 (fun h => by have := hI.lt _ h; omega)
 have hL54 : Lim W H (eraseN T kk T.cursor.x T.cursor.y T.cursor.sty fa j) := (lim_eraseN hL _ _ _ _ _ _)
 generalize hE54 : (eraseN T kk T.cursor.x T.cursor.y T.cursor.sty fa j) = T54 at hN48 hL54
 have hM54 := hL54
 obtain ⟨⟨hwa54, hwb54⟩, ⟨hha54, hhb54⟩, ⟨hgw54, hgh54⟩, ⟨how54, hoh54⟩, ⟨⟨hcx54, hcX54⟩, hcy54, hcY54⟩, ⟨⟨hsx54, hsX54⟩, hsy54, hsY54⟩, ⟨⟨hax54, haX54⟩, hay54, haY54⟩, ⟨htp54, htb54, hbh54⟩, hbk54, hrp54⟩ := hM54
 obtain ⟨g54, o54, ba54, bn54, bc54, pa54, pn54, pc54, F154, F254, FB54, FP54, hI53⟩ := hN48
 obtain ⟨gv54, hgd55⟩ := hI53.g1.head
 have htg56 : Df t g54 := fun e => hI53.t1 (e ▸ hI53.g1.inF)
 refine ys <| ysr <| yp 3 [] .z <| ye <| yc (rL (fa + ((j : Nat) : Int)) fb) (fun hC57 => ?_) fun hC57 => ?_
 ·refine yk <| ys <| x_block <| x_block <| ysr <| yp 3 [] .z <| yw [36] (rE kk 2) (fun hC58 => ?_) fun hC58 => ?_
  ·have hpp0 := hC58
   refine yp 21 [] .z <| ye <| yct <| yD [13] fun w59 hH60 hc61 => ?_
   have hS62 := Ch.trans (Ch.refl (fun j => j = t) w44) hc61 eZ
   have hT63 := lt_ch hc61 hT51 (fun _ h => h.elim)
   have hB64 := hB52.ch hc61 id
   have ht65 := hI53.blk.ch hc61 id
   have hg66 := hgd55.ch hc61 id
   refine yd (uL 0 13) [] (.l (ht65.c 0) (.l (ht65.c 0) (.l (hg66.c 0) (.a (hB64.cs 0 5) .z)))) ?_
   have hI67 := hI53.scalar (T' := T54) hS62 ht65 rfl rfl rfl rfl
   have hX68 : Ch F w30 w59 := Ch.trans hX49 hS62 (fun i _ h => h ▸ hFt)
   have hA69 : TermAt w59 t T54 (more F w30 w59) := ⟨_, _, _, _, _, _, _, _, _, _, _, _, hI67.mono (fun b hb => hb.elim .inl (fun h2 => .inr ⟨h2.1, by have := Ch.size hS62; omega⟩)) (hI38.moreOk hX68.size)⟩
   have hI70 := hI67.mono (F' := more F w30 w59) (fun b hb => hb.elim .inl (fun h2 => .inr ⟨h2.1, by have := Ch.size hS62; omega⟩)) (hI38.moreOk hX68.size)
   refine yK 13 (yQ (clear_any _ _ _ ((fa + ((j : Nat) : Int))) (0) (T54.grid.w) T.cursor.sty _ hT63.tb hI70.g1) ?_)
   rintro w76 ⟨hG71, hc72⟩
   obtain ⟨hN73, hX74⟩ := TermAt.next hA39 hX68 (hI70.chF hc72) ⟨_, _, _, _, _, _, _, _, _, _, _, _, hI70.grid1 hc72 hG71 (fun _ h => h)⟩
   have hc72m := hI70.chF hc72
   have hL79 : Lim W H ({ T54 with grid := (clearG T54.grid ((fa + ((j : Nat) : Int))) (0) (T54.grid.w) T.cursor.sty) } : TS) := hL54.grid (clearG_w _ _ _ _ _)
   generalize hE79 : ({ T54 with grid := (clearG T54.grid ((fa + ((j : Nat) : Int))) (0) (T54.grid.w) T.cursor.sty) } : TS) = T79 at hN73 hL79
   have hM79 := hL79
   obtain ⟨⟨hwa79, hwb79⟩, ⟨hha79, hhb79⟩, ⟨hgw79, hgh79⟩, ⟨how79, hoh79⟩, ⟨⟨hcx79, hcX79⟩, hcy79, hcY79⟩, ⟨⟨hsx79, hsX79⟩, hsy79, hsY79⟩, ⟨⟨hax79, haX79⟩, hay79, haY79⟩, ⟨htp79, htb79, hbh79⟩, hbk79, hrp79⟩ := hM79
   obtain ⟨g79, o79, ba79, bn79, bc79, pa79, pn79, pc79, F179, F279, FB79, FP79, hI75⟩ := hN73
   obtain ⟨gv79, hgd80⟩ := hI75.g1.head
   have htg81 : Df t g79 := fun e => hI75.t1 (e ▸ hI75.g1.inF)
   refine x_killed <| yDe (nB (nB (nS ?_)))
   refine x_region <| yp 3 [] (.q6 ((fa + ((j : Nat) : Int)) + 1) .z) ?_
   have hX82 : Ch F w30 w76 := Ch.trans hX74 (Ch.refl (fun j => j = t) w76) (fun i _ h => h ▸ hFt)
   have hA83 : TermAt w76 t T79 (more F w30 w76) := ⟨_, _, _, _, _, _, _, _, _, _, _, _, hI75.mono (fun b hb => hb.elim .inl (fun h2 => .inr ⟨h2.1, by have := Ch.size (Ch.refl (fun j => j = t) w76); omega⟩)) (hI38.moreOk hX82.size)⟩
   refine yE (fun a ha => hL47 (j + 1) _ ⟨(by omega), (TermAt.eq' hA83 (by subst hE79; rw [← hE54]; show erase1 _ _ _ _ _ _ = _; rw [hE54]; simp only [erase1, clearT, hpp0, ↓reduceIte, Int.reduceEq, and_true, true_and, and_false, false_and, or_true, true_or, or_false, false_or])), hX82⟩ (by show (fb - fa).toNat - (j + 1) < (fb - fa).toNat - j; omega) a (by rw [show (fa + ((j + 1 : Nat) : Int)) = (fa + ((j : Nat) : Int)) + 1 by omega]; exact ha.kp [0, 1, 3, 8, 9, 10, 11]))
  have hpp0 := hC58
  refine yp 6 [] .z <| yw [39] (rE kk 0) (fun hC84 => ?_) fun hC84 => ?_
  ·have hpp1 := hC84
   refine yp 12 [] .z <| yw [45] (rL T.cursor.y (fa + ((j : Nat) : Int))) (fun hC85 => ?_) fun hC85 => ?_
   ·have hpp2 := hC85
    refine yp 21 [] .z <| ye <| yct <| yD [13] fun w86 hH87 hc88 => ?_
    have hS89 := Ch.trans (Ch.refl (fun j => j = t) w44) hc88 eZ
    have hT90 := lt_ch hc88 hT51 (fun _ h => h.elim)
    have hB91 := hB52.ch hc88 id
    have ht92 := hI53.blk.ch hc88 id
    have hg93 := hgd55.ch hc88 id
    refine yd (uL 0 13) [] (.l (ht92.c 0) (.l (ht92.c 0) (.l (hg93.c 0) (.a (hB91.cs 0 5) .z)))) ?_
    have hI94 := hI53.scalar (T' := T54) hS89 ht92 rfl rfl rfl rfl
    have hX95 : Ch F w30 w86 := Ch.trans hX49 hS89 (fun i _ h => h ▸ hFt)
    have hA96 : TermAt w86 t T54 (more F w30 w86) := ⟨_, _, _, _, _, _, _, _, _, _, _, _, hI94.mono (fun b hb => hb.elim .inl (fun h2 => .inr ⟨h2.1, by have := Ch.size hS89; omega⟩)) (hI38.moreOk hX95.size)⟩
    have hI97 := hI94.mono (F' := more F w30 w86) (fun b hb => hb.elim .inl (fun h2 => .inr ⟨h2.1, by have := Ch.size hS89; omega⟩)) (hI38.moreOk hX95.size)
    refine yK 13 (yQ (clear_any _ _ _ ((fa + ((j : Nat) : Int))) (0) (T54.grid.w) T.cursor.sty _ hT90.tb hI97.g1) ?_)
    rintro w103 ⟨hG98, hc99⟩
    obtain ⟨hN100, hX101⟩ := TermAt.next hA39 hX95 (hI97.chF hc99) ⟨_, _, _, _, _, _, _, _, _, _, _, _, hI97.grid1 hc99 hG98 (fun _ h => h)⟩
    have hc99m := hI97.chF hc99
    have hL106 : Lim W H ({ T54 with grid := (clearG T54.grid ((fa + ((j : Nat) : Int))) (0) (T54.grid.w) T.cursor.sty) } : TS) := hL54.grid (clearG_w _ _ _ _ _)
    generalize hE106 : ({ T54 with grid := (clearG T54.grid ((fa + ((j : Nat) : Int))) (0) (T54.grid.w) T.cursor.sty) } : TS) = T106 at hN100 hL106
    have hM106 := hL106
    obtain ⟨⟨hwa106, hwb106⟩, ⟨hha106, hhb106⟩, ⟨hgw106, hgh106⟩, ⟨how106, hoh106⟩, ⟨⟨hcx106, hcX106⟩, hcy106, hcY106⟩, ⟨⟨hsx106, hsX106⟩, hsy106, hsY106⟩, ⟨⟨hax106, haX106⟩, hay106, haY106⟩, ⟨htp106, htb106, hbh106⟩, hbk106, hrp106⟩ := hM106
    obtain ⟨g106, o106, ba106, bn106, bc106, pa106, pn106, pc106, F1106, F2106, FB106, FP106, hI102⟩ := hN100
    obtain ⟨gv106, hgd107⟩ := hI102.g1.head
    have htg108 : Df t g106 := fun e => hI102.t1 (e ▸ hI102.g1.inF)
    refine x_killed <| yDe (nB (nB (nS ?_)))
    refine x_region <| yp 3 [] (.q6 ((fa + ((j : Nat) : Int)) + 1) .z) ?_
    have hX109 : Ch F w30 w103 := Ch.trans hX101 (Ch.refl (fun j => j = t) w103) (fun i _ h => h ▸ hFt)
    have hA110 : TermAt w103 t T106 (more F w30 w103) := ⟨_, _, _, _, _, _, _, _, _, _, _, _, hI102.mono (fun b hb => hb.elim .inl (fun h2 => .inr ⟨h2.1, by have := Ch.size (Ch.refl (fun j => j = t) w103); omega⟩)) (hI38.moreOk hX109.size)⟩
    refine yE (fun a ha => hL47 (j + 1) _ ⟨(by omega), (TermAt.eq' hA110 (by subst hE106; rw [← hE54]; show erase1 _ _ _ _ _ _ = _; rw [hE54]; simp only [erase1, clearT, eq_false hpp0, hpp1, eq_true hpp2, ↓reduceIte, Int.reduceEq, and_true, true_and, and_false, false_and, or_true, true_or, or_false, false_or])), hX109⟩ (by show (fb - fa).toNat - (j + 1) < (fb - fa).toNat - j; omega) a (by rw [show (fa + ((j + 1 : Nat) : Int)) = (fa + ((j : Nat) : Int)) + 1 by omega]; exact ha.kp [0, 1, 3, 8, 9, 10, 11]))
   have hpp2 := hC85
   refine yp 15 [] .z <| yw [48] (rE kk 1) (fun hC111 => ?_) fun hC111 => ?_
   ·exfalso; omega
   have hpp3 := hC111
   refine yp 21 [] .z <| ye <| ycf <| ysr <| yp 3 [] .z <| yw [71] (rE kk 0) (fun hC112 => ?_) fun hC112 => ?_
   ·have hpp4 := hC112
    refine yp 8 [] .z <| ye <| yc (rE (fa + ((j : Nat) : Int)) T.cursor.y) (fun hC113 => ?_) fun hC113 => ?_
    ·have hpp5 := hC113
     refine yD [14] fun w114 hH115 hc116 => ?_
     have hS117 := Ch.trans (Ch.refl (fun j => j = t) w44) hc116 eZ
     have hT118 := lt_ch hc116 hT51 (fun _ h => h.elim)
     have hB119 := hB52.ch hc116 id
     have ht120 := hI53.blk.ch hc116 id
     have hg121 := hgd55.ch hc116 id
     refine yd (uL 0 14) [] (.l (ht120.c 0) (.l (ht120.c 0) (.l (hg121.c 0) (.a (hB119.cs 0 5) .z)))) ?_
     have hI122 := hI53.scalar (T' := T54) hS117 ht120 rfl rfl rfl rfl
     have hX123 : Ch F w30 w114 := Ch.trans hX49 hS117 (fun i _ h => h ▸ hFt)
     have hA124 : TermAt w114 t T54 (more F w30 w114) := ⟨_, _, _, _, _, _, _, _, _, _, _, _, hI122.mono (fun b hb => hb.elim .inl (fun h2 => .inr ⟨h2.1, by have := Ch.size hS117; omega⟩)) (hI38.moreOk hX123.size)⟩
     have hI125 := hI122.mono (F' := more F w30 w114) (fun b hb => hb.elim .inl (fun h2 => .inr ⟨h2.1, by have := Ch.size hS117; omega⟩)) (hI38.moreOk hX123.size)
     refine yK 14 (yQ (clear_any _ _ _ ((fa + ((j : Nat) : Int))) (T.cursor.x) (T54.grid.w) T.cursor.sty _ hT118.tb hI125.g1) ?_)
     rintro w131 ⟨hG126, hc127⟩
     obtain ⟨hN128, hX129⟩ := TermAt.next hA39 hX123 (hI125.chF hc127) ⟨_, _, _, _, _, _, _, _, _, _, _, _, hI125.grid1 hc127 hG126 (fun _ h => h)⟩
     have hc127m := hI125.chF hc127
     have hL134 : Lim W H ({ T54 with grid := (clearG T54.grid ((fa + ((j : Nat) : Int))) (T.cursor.x) (T54.grid.w) T.cursor.sty) } : TS) := hL54.grid (clearG_w _ _ _ _ _)
     generalize hE134 : ({ T54 with grid := (clearG T54.grid ((fa + ((j : Nat) : Int))) (T.cursor.x) (T54.grid.w) T.cursor.sty) } : TS) = T134 at hN128 hL134
     have hM134 := hL134
     obtain ⟨⟨hwa134, hwb134⟩, ⟨hha134, hhb134⟩, ⟨hgw134, hgh134⟩, ⟨how134, hoh134⟩, ⟨⟨hcx134, hcX134⟩, hcy134, hcY134⟩, ⟨⟨hsx134, hsX134⟩, hsy134, hsY134⟩, ⟨⟨hax134, haX134⟩, hay134, haY134⟩, ⟨htp134, htb134, hbh134⟩, hbk134, hrp134⟩ := hM134
     obtain ⟨g134, o134, ba134, bn134, bc134, pa134, pn134, pc134, F1134, F2134, FB134, FP134, hI130⟩ := hN128
     obtain ⟨gv134, hgd135⟩ := hI130.g1.head
     have htg136 : Df t g134 := fun e => hI130.t1 (e ▸ hI130.g1.inF)
     refine x_killed <| yDe (nB (nB (nS ?_)))
     refine x_region <| yp 3 [] (.q6 ((fa + ((j : Nat) : Int)) + 1) .z) ?_
     have hX137 : Ch F w30 w131 := Ch.trans hX129 (Ch.refl (fun j => j = t) w131) (fun i _ h => h ▸ hFt)
     have hA138 : TermAt w131 t T134 (more F w30 w131) := ⟨_, _, _, _, _, _, _, _, _, _, _, _, hI130.mono (fun b hb => hb.elim .inl (fun h2 => .inr ⟨h2.1, by have := Ch.size (Ch.refl (fun j => j = t) w131); omega⟩)) (hI38.moreOk hX137.size)⟩
     refine yE (fun a ha => hL47 (j + 1) _ ⟨(by omega), (TermAt.eq' hA138 (by subst hE134; rw [← hE54]; show erase1 _ _ _ _ _ _ = _; rw [hE54]; simp only [erase1, clearT, eq_false hpp0, hpp1, eq_false hpp2, eq_false hpp3, hpp4, eq_true hpp5, ↓reduceIte, Int.reduceEq, and_true, true_and, and_false, false_and, or_true, true_or, or_false, false_or])), hX137⟩ (by show (fb - fa).toNat - (j + 1) < (fb - fa).toNat - j; omega) a (by rw [show (fa + ((j + 1 : Nat) : Int)) = (fa + ((j : Nat) : Int)) + 1 by omega]; exact ha.kp [0, 1, 3, 8, 9, 10, 11]))
    have hpp5 := hC113
    refine ysr <| yp 3 [] .z <| yw [94] (rE kk 1) (fun hC139 => ?_) fun hC139 => ?_
    ·exfalso; omega
    have hpp6 := hC139
    refine yp 8 [] .z <| ye <| ycf <| x_skip (nB (nB (nS ?_)))
    refine x_region <| yp 3 [] (.q6 ((fa + ((j : Nat) : Int)) + 1) .z) ?_
    have hX140 : Ch F w30 w44 := Ch.trans hX49 (Ch.refl (fun j => j = t) w44) (fun i _ h => h ▸ hFt)
    have hA141 : TermAt w44 t T54 (more F w30 w44) := ⟨_, _, _, _, _, _, _, _, _, _, _, _, hI53.mono (fun b hb => hb.elim .inl (fun h2 => .inr ⟨h2.1, by have := Ch.size (Ch.refl (fun j => j = t) w44); omega⟩)) (hI38.moreOk hX140.size)⟩
    refine yE (fun a ha => hL47 (j + 1) _ ⟨(by omega), (TermAt.eq' hA141 (by rw [← hE54]; show erase1 _ _ _ _ _ _ = _; rw [hE54]; simp only [erase1, clearT, eq_false hpp0, hpp1, eq_false hpp2, eq_false hpp3, hpp4, eq_false hpp5, eq_false hpp6, ↓reduceIte, Int.reduceEq, and_true, true_and, and_false, false_and, or_true, true_or, or_false, false_or])), hX140⟩ (by show (fb - fa).toNat - (j + 1) < (fb - fa).toNat - j; omega) a (by rw [show (fa + ((j + 1 : Nat) : Int)) = (fa + ((j : Nat) : Int)) + 1 by omega]; exact ha.kp [0, 1, 3, 8, 9, 10, 11]))
   exfalso; omega
  have hpp1 := hC84
  refine yp 15 [] .z <| yw [48] (rE kk 1) (fun hC142 => ?_) fun hC142 => ?_
  ·have hpp2 := hC142
   refine yp 21 [] .z <| ye <| yc (rL (fa + ((j : Nat) : Int)) T.cursor.y) (fun hC143 => ?_) fun hC143 => ?_
   ·have hpp3 := hC143
    refine yD [13] fun w144 hH145 hc146 => ?_
    have hS147 := Ch.trans (Ch.refl (fun j => j = t) w44) hc146 eZ
    have hT148 := lt_ch hc146 hT51 (fun _ h => h.elim)
    have hB149 := hB52.ch hc146 id
    have ht150 := hI53.blk.ch hc146 id
    have hg151 := hgd55.ch hc146 id
    refine yd (uL 0 13) [] (.l (ht150.c 0) (.l (ht150.c 0) (.l (hg151.c 0) (.a (hB149.cs 0 5) .z)))) ?_
    have hI152 := hI53.scalar (T' := T54) hS147 ht150 rfl rfl rfl rfl
    have hX153 : Ch F w30 w144 := Ch.trans hX49 hS147 (fun i _ h => h ▸ hFt)
    have hA154 : TermAt w144 t T54 (more F w30 w144) := ⟨_, _, _, _, _, _, _, _, _, _, _, _, hI152.mono (fun b hb => hb.elim .inl (fun h2 => .inr ⟨h2.1, by have := Ch.size hS147; omega⟩)) (hI38.moreOk hX153.size)⟩
    have hI155 := hI152.mono (F' := more F w30 w144) (fun b hb => hb.elim .inl (fun h2 => .inr ⟨h2.1, by have := Ch.size hS147; omega⟩)) (hI38.moreOk hX153.size)
    refine yK 13 (yQ (clear_any _ _ _ ((fa + ((j : Nat) : Int))) (0) (T54.grid.w) T.cursor.sty _ hT148.tb hI155.g1) ?_)
    rintro w161 ⟨hG156, hc157⟩
    obtain ⟨hN158, hX159⟩ := TermAt.next hA39 hX153 (hI155.chF hc157) ⟨_, _, _, _, _, _, _, _, _, _, _, _, hI155.grid1 hc157 hG156 (fun _ h => h)⟩
    have hc157m := hI155.chF hc157
    have hL164 : Lim W H ({ T54 with grid := (clearG T54.grid ((fa + ((j : Nat) : Int))) (0) (T54.grid.w) T.cursor.sty) } : TS) := hL54.grid (clearG_w _ _ _ _ _)
    generalize hE164 : ({ T54 with grid := (clearG T54.grid ((fa + ((j : Nat) : Int))) (0) (T54.grid.w) T.cursor.sty) } : TS) = T164 at hN158 hL164
    have hM164 := hL164
    obtain ⟨⟨hwa164, hwb164⟩, ⟨hha164, hhb164⟩, ⟨hgw164, hgh164⟩, ⟨how164, hoh164⟩, ⟨⟨hcx164, hcX164⟩, hcy164, hcY164⟩, ⟨⟨hsx164, hsX164⟩, hsy164, hsY164⟩, ⟨⟨hax164, haX164⟩, hay164, haY164⟩, ⟨htp164, htb164, hbh164⟩, hbk164, hrp164⟩ := hM164
    obtain ⟨g164, o164, ba164, bn164, bc164, pa164, pn164, pc164, F1164, F2164, FB164, FP164, hI160⟩ := hN158
    obtain ⟨gv164, hgd165⟩ := hI160.g1.head
    have htg166 : Df t g164 := fun e => hI160.t1 (e ▸ hI160.g1.inF)
    refine x_killed <| yDe (nB (nB (nS ?_)))
    refine x_region <| yp 3 [] (.q6 ((fa + ((j : Nat) : Int)) + 1) .z) ?_
    have hX167 : Ch F w30 w161 := Ch.trans hX159 (Ch.refl (fun j => j = t) w161) (fun i _ h => h ▸ hFt)
    have hA168 : TermAt w161 t T164 (more F w30 w161) := ⟨_, _, _, _, _, _, _, _, _, _, _, _, hI160.mono (fun b hb => hb.elim .inl (fun h2 => .inr ⟨h2.1, by have := Ch.size (Ch.refl (fun j => j = t) w161); omega⟩)) (hI38.moreOk hX167.size)⟩
    refine yE (fun a ha => hL47 (j + 1) _ ⟨(by omega), (TermAt.eq' hA168 (by subst hE164; rw [← hE54]; show erase1 _ _ _ _ _ _ = _; rw [hE54]; simp only [erase1, clearT, eq_false hpp0, eq_false hpp1, hpp2, eq_true hpp3, ↓reduceIte, Int.reduceEq, and_true, true_and, and_false, false_and, or_true, true_or, or_false, false_or])), hX167⟩ (by show (fb - fa).toNat - (j + 1) < (fb - fa).toNat - j; omega) a (by rw [show (fa + ((j + 1 : Nat) : Int)) = (fa + ((j : Nat) : Int)) + 1 by omega]; exact ha.kp [0, 1, 3, 8, 9, 10, 11]))
   have hpp3 := hC143
   refine ysr <| yp 3 [] .z <| yw [71] (rE kk 0) (fun hC169 => ?_) fun hC169 => ?_
   ·exfalso; omega
   have hpp4 := hC169
   refine yp 8 [] .z <| ye <| ycf <| ysr <| yp 3 [] .z <| yw [94] (rE kk 1) (fun hC170 => ?_) fun hC170 => ?_
   ·have hpp5 := hC170
    refine yp 8 [] .z <| ye <| yc (rE (fa + ((j : Nat) : Int)) T.cursor.y) (fun hC171 => ?_) fun hC171 => ?_
    ·have hpp6 := hC171
     refine yD [8] fun w172 hH173 hc174 => ?_
     have hS175 := Ch.trans (Ch.refl (fun j => j = t) w44) hc174 eZ
     have hT176 := lt_ch hc174 hT51 (fun _ h => h.elim)
     have hB177 := hB52.ch hc174 id
     have ht178 := hI53.blk.ch hc174 id
     refine yd (uL 0 8) [] (.l (ht178.c 0) (.q6 (T.cursor.x + 1) (.a (hB177.cs 0 5) .z))) ?_
     have hI180 := hI53.scalar (T' := T54) hS175 ht178 rfl rfl rfl rfl
     have hX181 : Ch F w30 w172 := Ch.trans hX49 hS175 (fun i _ h => h ▸ hFt)
     have hA182 : TermAt w172 t T54 (more F w30 w172) := ⟨_, _, _, _, _, _, _, _, _, _, _, _, hI180.mono (fun b hb => hb.elim .inl (fun h2 => .inr ⟨h2.1, by have := Ch.size hS175; omega⟩)) (hI38.moreOk hX181.size)⟩
     have hI183 := hI180.mono (F' := more F w30 w172) (fun b hb => hb.elim .inl (fun h2 => .inr ⟨h2.1, by have := Ch.size hS175; omega⟩)) (hI38.moreOk hX181.size)
     refine yK 8 (yQ (clear_any _ _ _ ((fa + ((j : Nat) : Int))) (0) ((T.cursor.x + 1)) T.cursor.sty _ hT176.tb hI183.g1) ?_)
     rintro w189 ⟨hG184, hc185⟩
     obtain ⟨hN186, hX187⟩ := TermAt.next hA39 hX181 (hI183.chF hc185) ⟨_, _, _, _, _, _, _, _, _, _, _, _, hI183.grid1 hc185 hG184 (fun _ h => h)⟩
     have hc185m := hI183.chF hc185
     have hL192 : Lim W H ({ T54 with grid := (clearG T54.grid ((fa + ((j : Nat) : Int))) (0) ((T.cursor.x + 1)) T.cursor.sty) } : TS) := hL54.grid (clearG_w _ _ _ _ _)
     generalize hE192 : ({ T54 with grid := (clearG T54.grid ((fa + ((j : Nat) : Int))) (0) ((T.cursor.x + 1)) T.cursor.sty) } : TS) = T192 at hN186 hL192
     have hM192 := hL192
     obtain ⟨⟨hwa192, hwb192⟩, ⟨hha192, hhb192⟩, ⟨hgw192, hgh192⟩, ⟨how192, hoh192⟩, ⟨⟨hcx192, hcX192⟩, hcy192, hcY192⟩, ⟨⟨hsx192, hsX192⟩, hsy192, hsY192⟩, ⟨⟨hax192, haX192⟩, hay192, haY192⟩, ⟨htp192, htb192, hbh192⟩, hbk192, hrp192⟩ := hM192
     obtain ⟨g192, o192, ba192, bn192, bc192, pa192, pn192, pc192, F1192, F2192, FB192, FP192, hI188⟩ := hN186
     obtain ⟨gv192, hgd193⟩ := hI188.g1.head
     have htg194 : Df t g192 := fun e => hI188.t1 (e ▸ hI188.g1.inF)
     refine x_killed <| yDe (nB (nB (nS ?_)))
     refine x_region <| yp 3 [] (.q6 ((fa + ((j : Nat) : Int)) + 1) .z) ?_
     have hX195 : Ch F w30 w189 := Ch.trans hX187 (Ch.refl (fun j => j = t) w189) (fun i _ h => h ▸ hFt)
     have hA196 : TermAt w189 t T192 (more F w30 w189) := ⟨_, _, _, _, _, _, _, _, _, _, _, _, hI188.mono (fun b hb => hb.elim .inl (fun h2 => .inr ⟨h2.1, by have := Ch.size (Ch.refl (fun j => j = t) w189); omega⟩)) (hI38.moreOk hX195.size)⟩
     refine yE (fun a ha => hL47 (j + 1) _ ⟨(by omega), (TermAt.eq' hA196 (by subst hE192; rw [← hE54]; show erase1 _ _ _ _ _ _ = _; rw [hE54]; simp only [erase1, clearT, eq_false hpp0, eq_false hpp1, hpp2, eq_false hpp3, eq_false hpp4, hpp5, eq_true hpp6, ↓reduceIte, Int.reduceEq, and_true, true_and, and_false, false_and, or_true, true_or, or_false, false_or])), hX195⟩ (by show (fb - fa).toNat - (j + 1) < (fb - fa).toNat - j; omega) a (by rw [show (fa + ((j + 1 : Nat) : Int)) = (fa + ((j : Nat) : Int)) + 1 by omega]; exact ha.kp [0, 1, 3, 8, 9, 10, 11]))
    have hpp6 := hC171
    refine x_skip (nB (nB (nS ?_)))
    refine x_region <| yp 3 [] (.q6 ((fa + ((j : Nat) : Int)) + 1) .z) ?_
    have hX197 : Ch F w30 w44 := Ch.trans hX49 (Ch.refl (fun j => j = t) w44) (fun i _ h => h ▸ hFt)
    have hA198 : TermAt w44 t T54 (more F w30 w44) := ⟨_, _, _, _, _, _, _, _, _, _, _, _, hI53.mono (fun b hb => hb.elim .inl (fun h2 => .inr ⟨h2.1, by have := Ch.size (Ch.refl (fun j => j = t) w44); omega⟩)) (hI38.moreOk hX197.size)⟩
    refine yE (fun a ha => hL47 (j + 1) _ ⟨(by omega), (TermAt.eq' hA198 (by rw [← hE54]; show erase1 _ _ _ _ _ _ = _; rw [hE54]; simp only [erase1, clearT, eq_false hpp0, eq_false hpp1, hpp2, eq_false hpp3, eq_false hpp4, hpp5, eq_false hpp6, ↓reduceIte, Int.reduceEq, and_true, true_and, and_false, false_and, or_true, true_or, or_false, false_or])), hX197⟩ (by show (fb - fa).toNat - (j + 1) < (fb - fa).toNat - j; omega) a (by rw [show (fa + ((j + 1 : Nat) : Int)) = (fa + ((j : Nat) : Int)) + 1 by omega]; exact ha.kp [0, 1, 3, 8, 9, 10, 11]))
   exfalso; omega
  have hpp2 := hC142
  refine yp 21 [] .z <| ye <| ycf <| ysr <| yp 3 [] .z <| yw [71] (rE kk 0) (fun hC199 => ?_) fun hC199 => ?_
  ·exfalso; omega
  have hpp3 := hC199
  refine yp 8 [] .z <| ye <| ycf <| ysr <| yp 3 [] .z <| yw [94] (rE kk 1) (fun hC200 => ?_) fun hC200 => ?_
  ·exfalso; omega
  have hpp4 := hC200
  refine yp 8 [] .z <| ye <| ycf <| x_skip (nB (nB (nS ?_)))
  refine x_region <| yp 3 [] (.q6 ((fa + ((j : Nat) : Int)) + 1) .z) ?_
  have hX201 : Ch F w30 w44 := Ch.trans hX49 (Ch.refl (fun j => j = t) w44) (fun i _ h => h ▸ hFt)
  have hA202 : TermAt w44 t T54 (more F w30 w44) := ⟨_, _, _, _, _, _, _, _, _, _, _, _, hI53.mono (fun b hb => hb.elim .inl (fun h2 => .inr ⟨h2.1, by have := Ch.size (Ch.refl (fun j => j = t) w44); omega⟩)) (hI38.moreOk hX201.size)⟩
  refine yE (fun a ha => hL47 (j + 1) _ ⟨(by omega), (TermAt.eq' hA202 (by rw [← hE54]; show erase1 _ _ _ _ _ _ = _; rw [hE54]; simp only [erase1, clearT, eq_false hpp0, eq_false hpp1, eq_false hpp2, eq_false hpp3, eq_false hpp4, ↓reduceIte, Int.reduceEq, and_true, true_and, and_false, false_and, or_true, true_or, or_false, false_or])), hX201⟩ (by show (fb - fa).toNat - (j + 1) < (fb - fa).toNat - j; omega) a (by rw [show (fa + ((j + 1 : Nat) : Int)) = (fa + ((j : Nat) : Int)) + 1 by omega]; exact ha.kp [0, 1, 3, 8, 9, 10, 11]))
 have hjn : j = (fb - fa).toNat := by omega
 refine x_exit (eS (then_exit (block_exit (yR0' ?_))))
 have hX203 : Ch F w30 w44 := Ch.trans hX49 (Ch.refl (fun j => j = t) w44) (fun i _ h => h ▸ hFt)
 have hA204 : TermAt w44 t T54 (more F w30 w44) := ⟨_, _, _, _, _, _, _, _, _, _, _, _, hI53.mono (fun b hb => hb.elim .inl (fun h2 => .inr ⟨h2.1, by have := Ch.size (Ch.refl (fun j => j = t) w44); omega⟩)) (hI38.moreOk hX203.size)⟩
 subst hE54
 subst hjn
 refine ⟨rfl, TermAt.eq' (hA204.mono (more_le hpre40.size) (hI.moreOk (Nat.le_trans hpre40.size hX203.size))) rfl, Ch.trans hpre40 hX203 iZ⟩
end Go.Proofs.YteoejhjfbfacdaaDoor.X
namespace Go.Proofs.YteoejhjfbfacdaaDoor.X
open Go Go.RowKit Go.Proofs.YteoejhjfbfacdaaDoor
theorem param_act {w : World} {ao : Option Nat} {an cc : Nat} {l : List Int} {K : Nat → Prop} (h : IntsAt w .i64 ao an cc l K) (a : Ac) (ha : a.params = l) (i : Nat) : Calls Tryd.prog 81 [.agg #[.int .i64 a.kind, .int .i32 a.rune, .int .u8 a.last, .string a.marks, .slice (ao.map at0) an cc, .string a.text], .int .i64 ((i : Nat) : Int)].toArray w fun e w' => e = .returned (.int .i64 (paramI a.params i)) ∧ Ch (fun _ => False) w w' := by
 subst ha
 obtain ⟨h1, h2, h3, h4⟩ := h
 cases ao with
 | none =>
  have e : a.params = [] := by have := h1.1 rfl; simpa using this
  rw [e] at h2
  subst h2
  rw [e]
  exact param_none i _ _ _ _ _ _ _ w
 | some b => exact param_some b i _ _ _ _ _ an cc _ w h1 (h4 b rfl).2 h2
theorem first_act {w : World} {ao : Option Nat} {an cc : Nat} {l : List Int} {K : Nat → Prop} (h : IntsAt w .i64 ao an cc l K) (a : Ac) (ha : a.params = l) : Calls Tryd.prog 102 [.agg #[.int .i64 a.kind, .int .i32 a.rune, .int .u8 a.last, .string a.marks, .slice (ao.map at0) an cc, .string a.text]].toArray w fun e w' => e = .returned (.int .i64 (firstI a.params)) ∧ Ch (fun _ => False) w w' := by
 subst ha
 obtain ⟨h1, h2, h3, h4⟩ := h
 by_cases h0 : an = 0
 ·subst h0
  have e : a.params = [] := List.eq_nil_of_length_eq_zero h2
  rw [e]
  exact first_none _ _ _ _ _ _ _ w
 cases ao with
 | none =>
  have e : a.params = [] := by have := h1.1 rfl; simpa using this
  rw [e] at h2
  exact absurd h2.symm h0
 | some b => exact first_some b _ _ _ _ _ an cc _ w h1 (h4 b rfl).2 h2 (by omega)
theorem changes_act {w : World} {ao : Option Nat} {an cc : Nat} {l : List Int} {K : Nat → Prop} (h : IntsAt w .i64 ao an cc l K) (s : Sty) (hn : an ≤ 1000) : Calls Tryd.prog 83 [.agg #[.bool s.bold, .bool s.under, .bool s.turned, .int .i64 s.fore, .int .i64 s.back], .slice (ao.map at0) an cc].toArray w fun e w' => e = .returned (.agg (changesS s l).vals.toArray) ∧ Ch (fun _ => False) w w' := by
 obtain ⟨h1, h2, h3, h4⟩ := h
 by_cases h0 : an = 0
 ·subst h0
  have e : l = [] := List.eq_nil_of_length_eq_zero h2
  rw [e]
  exact changes_none _ _ s w
 cases ao with
 | none =>
  have e : l = [] := by have := h1.1 rfl; simpa using this
  rw [e] at h2
  exact absurd h2.symm h0
 | some b => exact changes_some b an cc l s w h1 (h4 b rfl).2 h2 (by omega) hn
theorem placeS_len (T : TS) : (placeS T).size ≤ 7 := by
 have h1 := itoaB_len ((if T.origin = true then T.cursor.y - T.top else T.cursor.y) + 1)
 have h2 := itoaB_len (T.cursor.x + 1)
 unfold placeS
 rw [ByteArray.size_append, ByteArray.size_append, size59]
 omega
theorem scroll_lim {w : World} {t : Nat} {W H : Int} {T : TS} {F : Nat → Prop} (hA : TermAt w t T F) (hT : Tables w) (hL : Lim W H T) (n : Int) : Calls Tryd.prog 76 [.pointer (some ⟨t, 0, none⟩), .int .i64 n].toArray w fun e w' => e = .returned (.tuple #[]) ∧ TermAt w' t (scrollT T n) (more F w w') ∧ Ch F w w' := scroll_at hA hT (by have := hL.bk; omega) n
theorem up_any2 (g : Nat) (G : Gr) (F : Nat → Prop) (p1 p2 n : Int) (s : Sty) (w : World) (hT : Tables w) (hG : GridAt w g G F) : Calls Tryd.prog 95 [.pointer (some ⟨g, 0, none⟩), .int .i64 p1, .int .i64 p2, .int .i64 n, .agg #[.bool s.bold, .bool s.under, .bool s.turned, .int .i64 s.fore, .int .i64 s.back]].toArray w fun e w' => ∃ v, e = .returned v ∧ GridAt w' g (upG G p1 p2 n s) (more F w w') ∧ Ch F w w' :=
  (up_any g G F p1 p2 n s w hT hG).mono fun _ w' ⟨_, _, _, _, F', _, he, _, _, h, hF, _, _, hc⟩ => ⟨_, he, h.mono hF (more_ok hG hc.size), hc⟩
set_option maxHeartbeats 4000000 in
theorem tell_at {w : World} {t : Nat} {W H : Int} {T : TS} {F : Nat → Prop} (hA0 : TermAt w t T F) (hT : LT w) (hL : Lim W H T) {ao : Option Nat} {an cc : Nat} {ac : Ac} (hV : IntsAt w .i64 ao an cc ac.params (fun b => ¬ F b ∧ b < w.heap.size)) (hV8 : an ≤ 8) (hVb : ∀ x ∈ ac.params, 0 ≤ x ∧ x ≤ 9999) : Calls Tryd.prog 103 [.pointer (some ⟨t, 0, none⟩), .agg #[.int .i64 ac.kind, .int .i32 ac.rune, .int .u8 ac.last, .string ac.marks, .slice (ao.map at0) an cc, .string ac.text]].toArray w fun e w' => e = .returned (.tuple #[]) ∧ TermAt w' t (tellT T ac.last (firstI ac.params)) (more F w w') ∧ Ch F w w' := by
 obtain ⟨g, o, ba, bn, bc, pa, pn, pc, F1, F2, FB, FP, hI⟩ := hA0
 have hA0 : TermAt w t T F := ⟨g, o, ba, bn, bc, pa, pn, pc, F1, F2, FB, FP, hI⟩
 have hFt := hI.inF.1
 obtain ⟨gv, hgd⟩ := hI.g1.head
 have htg : Df t g := fun e => hI.t1 (e ▸ hI.g1.inF)
 obtain ⟨⟨hw1, hw2⟩, ⟨hh1, hh2⟩, hll, hall⟩ := hI.g1.ok
 have hL0 := hL
 obtain ⟨⟨hwa, hwb⟩, ⟨hha, hhb⟩, ⟨hgw, hgh⟩, ⟨how, hoh⟩, ⟨⟨hcx, hcX⟩, hcy, hcY⟩, ⟨⟨hsx, hsX⟩, hsy, hsY⟩, ⟨⟨hax, haX⟩, hay, haY⟩, ⟨htp, htb, hbh⟩, hbk, hrp⟩ := hL0
 refine yA Tryd.func103 rfl <| ysr <| yo (yN [iX ac.kind, rX ac.rune, uX ac.last, .string ac.marks, .slice (ao.map at0) an cc, .string ac.text] 73 fun w10 b11 hb12 hz13 hB14 hc15 => ?_)
 have hlo16 : w.heap.size ≤ b11 := by rw [hb12]; exact Ch.size (Ch.refl (fun j => j = t) w)
 have hS17 := Ch.trans (Ch.refl (fun j => j = t) w) hc15 eZ
 have ht19 := hI.blk.ch hc15 id
 have hT21 := lt_ch hc15 hT (fun _ h => h.elim)
 have hV22 := hV.ch hc15 iZ
 refine ye <| ysr <| yp 1 [] (.a (hB14.cs 0 6) .z) <| yo (yQ (first_act hV22 ac rfl) fun w24 hc23 => ?_)
 have hS25 := Ch.trans hS17 hc23 eZ
 have ht27 := ht19.ch hc23 id
 have hT29 := lt_ch hc23 hT21 (fun _ h => h.elim)
 have hB31 := hB14.ch hc23 id
 refine yp 3 [] .z <| ye <| x_block <| ysr <| yp 4 [] (.l (hB31.c 2) .z) <| yw [11] (rE ac.last 103) (fun hC32 => ?_) fun hC32 => ?_
 ·have hpp0 := hC32
  refine yp 8 [] .z <| ye <| yc (rE (firstI ac.params) 0) (fun hC33 => ?_) fun hC33 => ?_
  ·have hpp1 := hC33
   refine yD [9] fun w34 hH35 hc36 => ?_
   have hS37 := Ch.trans hS25 hc36 eZ
   have ht39 := ht27.ch hc36 id
   refine yd (uL 0 9) [] (.l (ht39.c 2) (.i T.cursor.x (60) .z)) <| yK 9 (e_store (28 + (T.cursor.x : Int).toNat * 1) [.bool false] none (by kernel_rfl) ht39 (by rw [tvals_len]; simp only [List.length_cons, List.length_nil]; omega) ?_)
   intro w44 hB45 hc46
   replace hB45 : Blk w44 t (TS.vals ({ T with tabs := (fun i => if i = (T.cursor.x : Int).toNat then false else T.tabs i) } : TS) g o (.slice ba bn bc) (.slice pa pn pc)) tTerm := Blk.to hB45 (tabs_put T _ _ _ _ _ (by omega) _)
   have hS47 := Ch.trans hS37 hc46 (fun i hi (h : i = t) => h)
   refine x_killed <| yDe (nB (yR0' ?_))
   have hI52 := hI.scalar (T' := ({ T with tabs := (fun i => if i = (T.cursor.x : Int).toNat then false else T.tabs i) } : TS)) hS47 hB45 rfl rfl rfl rfl
   have hX53 : Ch F w w44 := Ch.trans (Ch.refl F w) hS47 (fun i _ h => h ▸ hFt)
   have hA54 : TermAt w44 t ({ T with tabs := (fun i => if i = (T.cursor.x : Int).toNat then false else T.tabs i) } : TS) (more F w w44) := ⟨_, _, _, _, _, _, _, _, _, _, _, _, hI52.mono (fun _ h => .inl h) (hI.moreOk hX53.size)⟩
   refine ⟨rfl, TermAt.eq' hA54 ?_, hX53⟩
   simp only [tellT, hpp0, hpp1, ↓reduceIte, Int.reduceEq, Int.reduceLT, Int.reduceLE, Bool.and_true, Bool.true_and, Bool.and_false, Bool.false_and, Bool.false_eq_true, Bool.true_eq_false, and_true, true_and, and_false, false_and, or_true, true_or, or_false, false_or]
  have hpp1 := hC33
  refine ysr <| yp 4 [] (.l (hB31.c 2) .z) <| yw [28] (rE ac.last 103) (fun hC55 => ?_) fun hC55 => ?_
  ·have hpp2 := hC55
   refine yp 8 [] .z <| ye <| yc (rE (firstI ac.params) 3) (fun hC56 => ?_) fun hC56 => ?_
   ·have hpp3 := hC56
    refine x_region <| yp 4 [] .z <| yo (e_store 28 [.bool false, .bool false, .bool false, .bool false, .bool false, .bool false, .bool false, .bool false, .bool false, .bool false, .bool false, .bool false, .bool false, .bool false, .bool false, .bool false, .bool false, .bool false, .bool false, .bool false, .bool false, .bool false, .bool false, .bool false, .bool false, .bool false, .bool false, .bool false, .bool false, .bool false, .bool false, .bool false, .bool false, .bool false, .bool false, .bool false, .bool false, .bool false, .bool false, .bool false, .bool false, .bool false, .bool false, .bool false, .bool false, .bool false, .bool false, .bool false, .bool false, .bool false, .bool false, .bool false, .bool false, .bool false, .bool false, .bool false, .bool false, .bool false, .bool false, .bool false] none (by kernel_rfl) ht27 (of_ble (by kernel_rfl)) ?_)
    intro w57 hB58 hc59
    replace hB58 : Blk w57 t (TS.vals ({ T with tabs := (fun _ => false) } : TS) g o (.slice ba bn bc) (.slice pa pn pc)) tTerm := Blk.to hB58 (by kernel_rfl)
    have hS61 := Ch.trans hS25 hc59 (fun i hi (h : i = t) => h)
    refine yE (nB (yR0' ?_))
    have hI66 := hI.scalar (T' := ({ T with tabs := (fun _ => false) } : TS)) hS61 hB58 rfl rfl rfl rfl
    have hX67 : Ch F w w57 := Ch.trans (Ch.refl F w) hS61 (fun i _ h => h ▸ hFt)
    have hA68 : TermAt w57 t ({ T with tabs := (fun _ => false) } : TS) (more F w w57) := ⟨_, _, _, _, _, _, _, _, _, _, _, _, hI66.mono (fun _ h => .inl h) (hI.moreOk hX67.size)⟩
    refine ⟨rfl, TermAt.eq' hA68 ?_, hX67⟩
    simp only [tellT, hpp0, eq_false hpp1, hpp2, hpp3, ↓reduceIte, Int.reduceEq, Int.reduceLT, Int.reduceLE, Bool.and_true, Bool.true_and, Bool.and_false, Bool.false_and, Bool.false_eq_true, Bool.true_eq_false, and_true, true_and, and_false, false_and, or_true, true_or, or_false, false_or]
   have hpp3 := hC56
   refine ysr <| yp 4 [] (.l (hB31.c 2) .z) <| yw [40] (rE ac.last 104) (fun hC69 => ?_) fun hC69 => ?_
   ·exfalso; omega
   have hpp4 := hC69
   refine yp 9 [] (.l (hB31.c 2) .z) <| yw [45] (rE ac.last 108) (fun hC70 => ?_) fun hC70 => ?_
   ·exfalso; omega
   have hpp5 := hC70
   refine yp 13 [] .z <| ye <| ycf <| ysr <| yp 4 [] (.l (hB31.c 2) .z) <| yw [59] (rE ac.last 110) (fun hC71 => ?_) fun hC71 => ?_
   ·exfalso; omega
   have hpp6 := hC71
   refine yp 8 [] .z <| ye <| ycf <| ysr <| yp 4 [] (.l (hB31.c 2) .z) <| yw [69] (rE ac.last 110) (fun hC72 => ?_) fun hC72 => ?_
   ·exfalso; omega
   have hpp7 := hC72
   refine yp 8 [] .z <| ye <| ycf <| ysr <| yp 4 [] (.l (hB31.c 2) .z) <| yw [83] (rE ac.last 99) (fun hC73 => ?_) fun hC73 => ?_
   ·exfalso; omega
   have hpp8 := hC73
   refine yp 8 [] .z <| ye <| ycf <| x_skip (nB (yR0' ?_))
   have hI74 := hI.scalar (T' := T) hS25 ht27 rfl rfl rfl rfl
   have hX75 : Ch F w w24 := Ch.trans (Ch.refl F w) hS25 (fun i _ h => h ▸ hFt)
   have hA76 : TermAt w24 t T (more F w w24) := ⟨_, _, _, _, _, _, _, _, _, _, _, _, hI74.mono (fun _ h => .inl h) (hI.moreOk hX75.size)⟩
   refine ⟨rfl, TermAt.eq' hA76 ?_, hX75⟩
   simp only [tellT, hpp0, eq_false hpp1, hpp2, eq_false hpp3, eq_false hpp4, eq_false hpp5, eq_false hpp6, eq_false hpp7, eq_false hpp8, ↓reduceIte, Int.reduceEq, Int.reduceLT, Int.reduceLE, Bool.and_true, Bool.true_and, Bool.and_false, Bool.false_and, Bool.false_eq_true, Bool.true_eq_false, and_true, true_and, and_false, false_and, or_true, true_or, or_false, false_or]
  exfalso; omega
 have hpp0 := hC32
 refine yp 8 [] .z <| ye <| ycf <| ysr <| yp 4 [] (.l (hB31.c 2) .z) <| yw [28] (rE ac.last 103) (fun hC77 => ?_) fun hC77 => ?_
 ·exfalso; omega
 have hpp1 := hC77
 refine yp 8 [] .z <| ye <| ycf <| ysr <| yp 4 [] (.l (hB31.c 2) .z) <| yw [40] (rE ac.last 104) (fun hC78 => ?_) fun hC78 => ?_
 ·have hpp2 := hC78
  refine yp 13 [] .z <| ye <| yc (rE (firstI ac.params) 4) (fun hC79 => ?_) fun hC79 => ?_
  ·have hpp3 := hC79
   refine x_region <| yp 6 [] (.l (hB31.c 2) .z) <| yo (e_store 90 [.bool ((ac.last : Int) == 104)] none (by kernel_rfl) ht27 (of_ble (by kernel_rfl)) ?_)
   intro w80 hB81 hc82
   replace hB81 : Blk w80 t (TS.vals ({ T with insert := ((ac.last : Int) == 104) } : TS) g o (.slice ba bn bc) (.slice pa pn pc)) tTerm := Blk.to hB81 (by kernel_rfl)
   have hS84 := Ch.trans hS25 hc82 (fun i hi (h : i = t) => h)
   refine yE (nB (yR0' ?_))
   have hI89 := hI.scalar (T' := ({ T with insert := ((ac.last : Int) == 104) } : TS)) hS84 hB81 rfl rfl rfl rfl
   have hX90 : Ch F w w80 := Ch.trans (Ch.refl F w) hS84 (fun i _ h => h ▸ hFt)
   have hA91 : TermAt w80 t ({ T with insert := ((ac.last : Int) == 104) } : TS) (more F w w80) := ⟨_, _, _, _, _, _, _, _, _, _, _, _, hI89.mono (fun _ h => .inl h) (hI.moreOk hX90.size)⟩
   refine ⟨rfl, TermAt.eq' hA91 ?_, hX90⟩
   simp only [tellT, eq_false hpp0, eq_false hpp1, hpp2, hpp3, ↓reduceIte, Int.reduceEq, Int.reduceLT, Int.reduceLE, Bool.and_true, Bool.true_and, Bool.and_false, Bool.false_and, Bool.false_eq_true, Bool.true_eq_false, and_true, true_and, and_false, false_and, or_true, true_or, or_false, false_or]
  have hpp3 := hC79
  refine ysr <| yp 4 [] (.l (hB31.c 2) .z) <| yw [59] (rE ac.last 110) (fun hC92 => ?_) fun hC92 => ?_
  ·exfalso; omega
  have hpp4 := hC92
  refine yp 8 [] .z <| ye <| ycf <| ysr <| yp 4 [] (.l (hB31.c 2) .z) <| yw [69] (rE ac.last 110) (fun hC93 => ?_) fun hC93 => ?_
  ·exfalso; omega
  have hpp5 := hC93
  refine yp 8 [] .z <| ye <| ycf <| ysr <| yp 4 [] (.l (hB31.c 2) .z) <| yw [83] (rE ac.last 99) (fun hC94 => ?_) fun hC94 => ?_
  ·exfalso; omega
  have hpp6 := hC94
  refine yp 8 [] .z <| ye <| ycf <| x_skip (nB (yR0' ?_))
  have hI95 := hI.scalar (T' := T) hS25 ht27 rfl rfl rfl rfl
  have hX96 : Ch F w w24 := Ch.trans (Ch.refl F w) hS25 (fun i _ h => h ▸ hFt)
  have hA97 : TermAt w24 t T (more F w w24) := ⟨_, _, _, _, _, _, _, _, _, _, _, _, hI95.mono (fun _ h => .inl h) (hI.moreOk hX96.size)⟩
  refine ⟨rfl, TermAt.eq' hA97 ?_, hX96⟩
  simp only [tellT, eq_false hpp0, eq_false hpp1, hpp2, eq_false hpp3, eq_false hpp4, eq_false hpp5, eq_false hpp6, ↓reduceIte, Int.reduceEq, Int.reduceLT, Int.reduceLE, Bool.and_true, Bool.true_and, Bool.and_false, Bool.false_and, Bool.false_eq_true, Bool.true_eq_false, and_true, true_and, and_false, false_and, or_true, true_or, or_false, false_or]
 have hpp2 := hC78
 refine yp 9 [] (.l (hB31.c 2) .z) <| yw [45] (rE ac.last 108) (fun hC98 => ?_) fun hC98 => ?_
 ·have hpp3 := hC98
  refine yp 13 [] .z <| ye <| yc (rE (firstI ac.params) 4) (fun hC99 => ?_) fun hC99 => ?_
  ·have hpp4 := hC99
   refine x_region <| yp 6 [] (.l (hB31.c 2) .z) <| yo (e_store 90 [.bool ((ac.last : Int) == 104)] none (by kernel_rfl) ht27 (of_ble (by kernel_rfl)) ?_)
   intro w100 hB101 hc102
   replace hB101 : Blk w100 t (TS.vals ({ T with insert := ((ac.last : Int) == 104) } : TS) g o (.slice ba bn bc) (.slice pa pn pc)) tTerm := Blk.to hB101 (by kernel_rfl)
   have hS104 := Ch.trans hS25 hc102 (fun i hi (h : i = t) => h)
   refine yE (nB (yR0' ?_))
   have hI109 := hI.scalar (T' := ({ T with insert := ((ac.last : Int) == 104) } : TS)) hS104 hB101 rfl rfl rfl rfl
   have hX110 : Ch F w w100 := Ch.trans (Ch.refl F w) hS104 (fun i _ h => h ▸ hFt)
   have hA111 : TermAt w100 t ({ T with insert := ((ac.last : Int) == 104) } : TS) (more F w w100) := ⟨_, _, _, _, _, _, _, _, _, _, _, _, hI109.mono (fun _ h => .inl h) (hI.moreOk hX110.size)⟩
   refine ⟨rfl, TermAt.eq' hA111 ?_, hX110⟩
   simp only [tellT, eq_false hpp0, eq_false hpp1, eq_false hpp2, hpp3, hpp4, ↓reduceIte, Int.reduceEq, Int.reduceLT, Int.reduceLE, Bool.and_true, Bool.true_and, Bool.and_false, Bool.false_and, Bool.false_eq_true, Bool.true_eq_false, and_true, true_and, and_false, false_and, or_true, true_or, or_false, false_or]
  have hpp4 := hC99
  refine ysr <| yp 4 [] (.l (hB31.c 2) .z) <| yw [59] (rE ac.last 110) (fun hC112 => ?_) fun hC112 => ?_
  ·exfalso; omega
  have hpp5 := hC112
  refine yp 8 [] .z <| ye <| ycf <| ysr <| yp 4 [] (.l (hB31.c 2) .z) <| yw [69] (rE ac.last 110) (fun hC113 => ?_) fun hC113 => ?_
  ·exfalso; omega
  have hpp6 := hC113
  refine yp 8 [] .z <| ye <| ycf <| ysr <| yp 4 [] (.l (hB31.c 2) .z) <| yw [83] (rE ac.last 99) (fun hC114 => ?_) fun hC114 => ?_
  ·exfalso; omega
  have hpp7 := hC114
  refine yp 8 [] .z <| ye <| ycf <| x_skip (nB (yR0' ?_))
  have hI115 := hI.scalar (T' := T) hS25 ht27 rfl rfl rfl rfl
  have hX116 : Ch F w w24 := Ch.trans (Ch.refl F w) hS25 (fun i _ h => h ▸ hFt)
  have hA117 : TermAt w24 t T (more F w w24) := ⟨_, _, _, _, _, _, _, _, _, _, _, _, hI115.mono (fun _ h => .inl h) (hI.moreOk hX116.size)⟩
  refine ⟨rfl, TermAt.eq' hA117 ?_, hX116⟩
  simp only [tellT, eq_false hpp0, eq_false hpp1, eq_false hpp2, hpp3, eq_false hpp4, eq_false hpp5, eq_false hpp6, eq_false hpp7, ↓reduceIte, Int.reduceEq, Int.reduceLT, Int.reduceLE, Bool.and_true, Bool.true_and, Bool.and_false, Bool.false_and, Bool.false_eq_true, Bool.true_eq_false, and_true, true_and, and_false, false_and, or_true, true_or, or_false, false_or]
 have hpp3 := hC98
 refine yp 13 [] .z <| ye <| ycf <| ysr <| yp 4 [] (.l (hB31.c 2) .z) <| yw [59] (rE ac.last 110) (fun hC118 => ?_) fun hC118 => ?_
 ·have hpp4 := hC118
  refine yp 8 [] .z <| ye <| yc (rE (firstI ac.params) 5) (fun hC119 => ?_) fun hC119 => ?_
  ·have hpp5 := hC119
   refine x_region <| yp 1 [] .z ?_
   have hI120 := hI.scalar (T' := T) hS25 ht27 rfl rfl rfl rfl
   have hA121 : TermAt w24 t T F := ⟨_, _, _, _, _, _, _, _, _, _, _, _, hI120⟩
   have hpre122 : Ch F w w24 := hS25.mono (fun i _ h => h ▸ hFt)
   have hly123 := hB31.lt
   have hX124 : Ch F w24 w24 := Ch.trans (Ch.refl F w24) (Ch.refl (fun j => j = t) w24) (fun i _ h => h ▸ hFt)
   have hA125 : TermAt w24 t T (more F w24 w24) := ⟨_, _, _, _, _, _, _, _, _, _, _, _, hI120.mono (fun _ h => .inl h) (hI120.moreOk hX124.size)⟩
   refine yo (yQ (reply_at hA125 hT29 hL  (⟨#[27, 91, 48, 110]⟩ : ByteArray) (by first | decide | (simp only [ByteArray.size_append]; have e1 : (⟨#[27, 91]⟩ : ByteArray).size = 2 := rfl; have e2 : (⟨#[82]⟩ : ByteArray).size = 1 := rfl; omega))) ?_)
   rintro w131 ⟨hB126, hc127⟩
   obtain ⟨hN128, hX129⟩ := TermAt.next hA121 hX124 hc127 hB126
   have hL135 : Lim W H (replyT T (⟨#[27, 91, 48, 110]⟩ : ByteArray)) := (lim_reply hL (⟨#[27, 91, 48, 110]⟩ : ByteArray))
   generalize hE135 : (replyT T (⟨#[27, 91, 48, 110]⟩ : ByteArray)) = T135 at hN128 hL135
   have hM135 := hL135
   obtain ⟨⟨hwa135, hwb135⟩, ⟨hha135, hhb135⟩, ⟨hgw135, hgh135⟩, ⟨how135, hoh135⟩, ⟨⟨hcx135, hcX135⟩, hcy135, hcY135⟩, ⟨⟨hsx135, hsX135⟩, hsy135, hsY135⟩, ⟨⟨hax135, haX135⟩, hay135, haY135⟩, ⟨htp135, htb135, hbh135⟩, hbk135, hrp135⟩ := hM135
   obtain ⟨g135, o135, ba135, bn135, bc135, pa135, pn135, pc135, F1135, F2135, FB135, FP135, hI130⟩ := hN128
   obtain ⟨gv135, hgd136⟩ := hI130.g1.head
   have htg137 : Df t g135 := fun e => hI130.t1 (e ▸ hI130.g1.inF)
   refine yE (nB (yR0' ?_))
   have hX138 : Ch F w24 w131 := Ch.trans hX129 (Ch.refl (fun j => j = t) w131) (fun i _ h => h ▸ hFt)
   have hA139 : TermAt w131 t T135 (more F w24 w131) := ⟨_, _, _, _, _, _, _, _, _, _, _, _, hI130.mono (fun b hb => hb.elim .inl (fun h2 => .inr ⟨h2.1, by have := Ch.size (Ch.refl (fun j => j = t) w131); omega⟩)) (hI120.moreOk hX138.size)⟩
   subst hE135
   refine ⟨rfl, TermAt.eq' (hA139.mono (more_le hpre122.size) (hI.moreOk (Nat.le_trans hpre122.size hX138.size))) ?_, Ch.trans hpre122 hX138 iZ⟩
   simp only [tellT, eq_false hpp0, eq_false hpp1, eq_false hpp2, eq_false hpp3, hpp4, hpp5, ↓reduceIte, Int.reduceEq, Int.reduceLT, Int.reduceLE, Bool.and_true, Bool.true_and, Bool.and_false, Bool.false_and, Bool.false_eq_true, Bool.true_eq_false, and_true, true_and, and_false, false_and, or_true, true_or, or_false, false_or]
  have hpp5 := hC119
  refine ysr <| yp 4 [] (.l (hB31.c 2) .z) <| yw [69] (rE ac.last 110) (fun hC140 => ?_) fun hC140 => ?_
  ·have hpp6 := hC140
   refine yp 8 [] .z <| ye <| yc (rE (firstI ac.params) 6) (fun hC141 => ?_) fun hC141 => ?_
   ·have hpp7 := hC141
    refine x_region <| yp 2 [] .z ?_
    have hI142 := hI.scalar (T' := T) hS25 ht27 rfl rfl rfl rfl
    refine yo (yQ (place_any hI142 hT29 hL) fun w144 hc143 => ?_)
    have hS145 := Ch.trans hS25 hc143 eZ
    have ht147 := ht27.ch hc143 id
    have hT149 := lt_ch hc143 hT29 (fun _ h => h.elim)
    have hB151 := hB31.ch hc143 id
    have hpl := placeS_len T
    refine yp 5 [] (.p (q := ((⟨#[27, 91]⟩ : ByteArray)).size + ((placeS T)).size ≤ 9223372036854775807) (by have e1 : (⟨#[27, 91]⟩ : ByteArray).size = 2 := rfl; have e2 : (⟨#[82]⟩ : ByteArray).size = 1 := rfl; first | omega | (rw [ByteArray.size_append]; omega)) (.p (q := (((⟨#[27, 91]⟩ : ByteArray) ++ (placeS T))).size + ((⟨#[82]⟩ : ByteArray)).size ≤ 9223372036854775807) (by have e1 : (⟨#[27, 91]⟩ : ByteArray).size = 2 := rfl; have e2 : (⟨#[82]⟩ : ByteArray).size = 1 := rfl; first | omega | (rw [ByteArray.size_append]; omega)) .z)) ?_
    have hI152 := hI.scalar (T' := T) hS145 ht147 rfl rfl rfl rfl
    have hA153 : TermAt w144 t T F := ⟨_, _, _, _, _, _, _, _, _, _, _, _, hI152⟩
    have hpre154 : Ch F w w144 := hS145.mono (fun i _ h => h ▸ hFt)
    have hly155 := hB151.lt
    have hX156 : Ch F w144 w144 := Ch.trans (Ch.refl F w144) (Ch.refl (fun j => j = t) w144) (fun i _ h => h ▸ hFt)
    have hA157 : TermAt w144 t T (more F w144 w144) := ⟨_, _, _, _, _, _, _, _, _, _, _, _, hI152.mono (fun _ h => .inl h) (hI152.moreOk hX156.size)⟩
    refine yo (yQ (reply_at hA157 hT149 hL  (((⟨#[27, 91]⟩ : ByteArray) ++ (placeS T)) ++ (⟨#[82]⟩ : ByteArray)) (by first | decide | (simp only [ByteArray.size_append]; have e1 : (⟨#[27, 91]⟩ : ByteArray).size = 2 := rfl; have e2 : (⟨#[82]⟩ : ByteArray).size = 1 := rfl; omega))) ?_)
    rintro w163 ⟨hB158, hc159⟩
    obtain ⟨hN160, hX161⟩ := TermAt.next hA153 hX156 hc159 hB158
    have hL167 : Lim W H (replyT T (((⟨#[27, 91]⟩ : ByteArray) ++ (placeS T)) ++ (⟨#[82]⟩ : ByteArray))) := (lim_reply hL (((⟨#[27, 91]⟩ : ByteArray) ++ (placeS T)) ++ (⟨#[82]⟩ : ByteArray)))
    generalize hE167 : (replyT T (((⟨#[27, 91]⟩ : ByteArray) ++ (placeS T)) ++ (⟨#[82]⟩ : ByteArray))) = T167 at hN160 hL167
    have hM167 := hL167
    obtain ⟨⟨hwa167, hwb167⟩, ⟨hha167, hhb167⟩, ⟨hgw167, hgh167⟩, ⟨how167, hoh167⟩, ⟨⟨hcx167, hcX167⟩, hcy167, hcY167⟩, ⟨⟨hsx167, hsX167⟩, hsy167, hsY167⟩, ⟨⟨hax167, haX167⟩, hay167, haY167⟩, ⟨htp167, htb167, hbh167⟩, hbk167, hrp167⟩ := hM167
    obtain ⟨g167, o167, ba167, bn167, bc167, pa167, pn167, pc167, F1167, F2167, FB167, FP167, hI162⟩ := hN160
    obtain ⟨gv167, hgd168⟩ := hI162.g1.head
    have htg169 : Df t g167 := fun e => hI162.t1 (e ▸ hI162.g1.inF)
    refine yE (nB (yR0' ?_))
    have hX170 : Ch F w144 w163 := Ch.trans hX161 (Ch.refl (fun j => j = t) w163) (fun i _ h => h ▸ hFt)
    have hA171 : TermAt w163 t T167 (more F w144 w163) := ⟨_, _, _, _, _, _, _, _, _, _, _, _, hI162.mono (fun b hb => hb.elim .inl (fun h2 => .inr ⟨h2.1, by have := Ch.size (Ch.refl (fun j => j = t) w163); omega⟩)) (hI152.moreOk hX170.size)⟩
    subst hE167
    refine ⟨rfl, TermAt.eq' (hA171.mono (more_le hpre154.size) (hI.moreOk (Nat.le_trans hpre154.size hX170.size))) ?_, Ch.trans hpre154 hX170 iZ⟩
    simp only [tellT, eq_false hpp0, eq_false hpp1, eq_false hpp2, eq_false hpp3, hpp4, eq_false hpp5, hpp6, hpp7, ↓reduceIte, Int.reduceEq, Int.reduceLT, Int.reduceLE, Bool.and_true, Bool.true_and, Bool.and_false, Bool.false_and, Bool.false_eq_true, Bool.true_eq_false, and_true, true_and, and_false, false_and, or_true, true_or, or_false, false_or]
   have hpp7 := hC141
   refine ysr <| yp 4 [] (.l (hB31.c 2) .z) <| yw [83] (rE ac.last 99) (fun hC172 => ?_) fun hC172 => ?_
   ·exfalso; omega
   have hpp8 := hC172
   refine yp 8 [] .z <| ye <| ycf <| x_skip (nB (yR0' ?_))
   have hI173 := hI.scalar (T' := T) hS25 ht27 rfl rfl rfl rfl
   have hX174 : Ch F w w24 := Ch.trans (Ch.refl F w) hS25 (fun i _ h => h ▸ hFt)
   have hA175 : TermAt w24 t T (more F w w24) := ⟨_, _, _, _, _, _, _, _, _, _, _, _, hI173.mono (fun _ h => .inl h) (hI.moreOk hX174.size)⟩
   refine ⟨rfl, TermAt.eq' hA175 ?_, hX174⟩
   simp only [tellT, eq_false hpp0, eq_false hpp1, eq_false hpp2, eq_false hpp3, hpp4, eq_false hpp5, hpp6, eq_false hpp7, eq_false hpp8, ↓reduceIte, Int.reduceEq, Int.reduceLT, Int.reduceLE, Bool.and_true, Bool.true_and, Bool.and_false, Bool.false_and, Bool.false_eq_true, Bool.true_eq_false, and_true, true_and, and_false, false_and, or_true, true_or, or_false, false_or]
  exfalso; omega
 have hpp4 := hC118
 refine yp 8 [] .z <| ye <| ycf <| ysr <| yp 4 [] (.l (hB31.c 2) .z) <| yw [69] (rE ac.last 110) (fun hC176 => ?_) fun hC176 => ?_
 ·exfalso; omega
 have hpp5 := hC176
 refine yp 8 [] .z <| ye <| ycf <| ysr <| yp 4 [] (.l (hB31.c 2) .z) <| yw [83] (rE ac.last 99) (fun hC177 => ?_) fun hC177 => ?_
 ·have hpp6 := hC177
  refine yp 8 [] .z <| ye <| yc (rE (firstI ac.params) 0) (fun hC178 => ?_) fun hC178 => ?_
  ·have hpp7 := hC178
   refine x_region <| yp 1 [] .z ?_
   have hI179 := hI.scalar (T' := T) hS25 ht27 rfl rfl rfl rfl
   have hA180 : TermAt w24 t T F := ⟨_, _, _, _, _, _, _, _, _, _, _, _, hI179⟩
   have hpre181 : Ch F w w24 := hS25.mono (fun i _ h => h ▸ hFt)
   have hly182 := hB31.lt
   have hX183 : Ch F w24 w24 := Ch.trans (Ch.refl F w24) (Ch.refl (fun j => j = t) w24) (fun i _ h => h ▸ hFt)
   have hA184 : TermAt w24 t T (more F w24 w24) := ⟨_, _, _, _, _, _, _, _, _, _, _, _, hI179.mono (fun _ h => .inl h) (hI179.moreOk hX183.size)⟩
   refine yo (yQ (reply_at hA184 hT29 hL  (⟨#[27, 91, 63, 54, 99]⟩ : ByteArray) (by first | decide | (simp only [ByteArray.size_append]; have e1 : (⟨#[27, 91]⟩ : ByteArray).size = 2 := rfl; have e2 : (⟨#[82]⟩ : ByteArray).size = 1 := rfl; omega))) ?_)
   rintro w190 ⟨hB185, hc186⟩
   obtain ⟨hN187, hX188⟩ := TermAt.next hA180 hX183 hc186 hB185
   have hL194 : Lim W H (replyT T (⟨#[27, 91, 63, 54, 99]⟩ : ByteArray)) := (lim_reply hL (⟨#[27, 91, 63, 54, 99]⟩ : ByteArray))
   generalize hE194 : (replyT T (⟨#[27, 91, 63, 54, 99]⟩ : ByteArray)) = T194 at hN187 hL194
   have hM194 := hL194
   obtain ⟨⟨hwa194, hwb194⟩, ⟨hha194, hhb194⟩, ⟨hgw194, hgh194⟩, ⟨how194, hoh194⟩, ⟨⟨hcx194, hcX194⟩, hcy194, hcY194⟩, ⟨⟨hsx194, hsX194⟩, hsy194, hsY194⟩, ⟨⟨hax194, haX194⟩, hay194, haY194⟩, ⟨htp194, htb194, hbh194⟩, hbk194, hrp194⟩ := hM194
   obtain ⟨g194, o194, ba194, bn194, bc194, pa194, pn194, pc194, F1194, F2194, FB194, FP194, hI189⟩ := hN187
   obtain ⟨gv194, hgd195⟩ := hI189.g1.head
   have htg196 : Df t g194 := fun e => hI189.t1 (e ▸ hI189.g1.inF)
   refine yE (nB (yR0' ?_))
   have hX197 : Ch F w24 w190 := Ch.trans hX188 (Ch.refl (fun j => j = t) w190) (fun i _ h => h ▸ hFt)
   have hA198 : TermAt w190 t T194 (more F w24 w190) := ⟨_, _, _, _, _, _, _, _, _, _, _, _, hI189.mono (fun b hb => hb.elim .inl (fun h2 => .inr ⟨h2.1, by have := Ch.size (Ch.refl (fun j => j = t) w190); omega⟩)) (hI179.moreOk hX197.size)⟩
   subst hE194
   refine ⟨rfl, TermAt.eq' (hA198.mono (more_le hpre181.size) (hI.moreOk (Nat.le_trans hpre181.size hX197.size))) ?_, Ch.trans hpre181 hX197 iZ⟩
   simp only [tellT, eq_false hpp0, eq_false hpp1, eq_false hpp2, eq_false hpp3, eq_false hpp4, eq_false hpp5, hpp6, hpp7, ↓reduceIte, Int.reduceEq, Int.reduceLT, Int.reduceLE, Bool.and_true, Bool.true_and, Bool.and_false, Bool.false_and, Bool.false_eq_true, Bool.true_eq_false, and_true, true_and, and_false, false_and, or_true, true_or, or_false, false_or]
  have hpp7 := hC178
  refine x_skip (nB (yR0' ?_))
  have hI199 := hI.scalar (T' := T) hS25 ht27 rfl rfl rfl rfl
  have hX200 : Ch F w w24 := Ch.trans (Ch.refl F w) hS25 (fun i _ h => h ▸ hFt)
  have hA201 : TermAt w24 t T (more F w w24) := ⟨_, _, _, _, _, _, _, _, _, _, _, _, hI199.mono (fun _ h => .inl h) (hI.moreOk hX200.size)⟩
  refine ⟨rfl, TermAt.eq' hA201 ?_, hX200⟩
  simp only [tellT, eq_false hpp0, eq_false hpp1, eq_false hpp2, eq_false hpp3, eq_false hpp4, eq_false hpp5, hpp6, eq_false hpp7, ↓reduceIte, Int.reduceEq, Int.reduceLT, Int.reduceLE, Bool.and_true, Bool.true_and, Bool.and_false, Bool.false_and, Bool.false_eq_true, Bool.true_eq_false, and_true, true_and, and_false, false_and, or_true, true_or, or_false, false_or]
 have hpp6 := hC177
 refine yp 8 [] .z <| ye <| ycf <| x_skip (nB (yR0' ?_))
 have hI202 := hI.scalar (T' := T) hS25 ht27 rfl rfl rfl rfl
 have hX203 : Ch F w w24 := Ch.trans (Ch.refl F w) hS25 (fun i _ h => h ▸ hFt)
 have hA204 : TermAt w24 t T (more F w w24) := ⟨_, _, _, _, _, _, _, _, _, _, _, _, hI202.mono (fun _ h => .inl h) (hI.moreOk hX203.size)⟩
 refine ⟨rfl, TermAt.eq' hA204 ?_, hX203⟩
 simp only [tellT, eq_false hpp0, eq_false hpp1, eq_false hpp2, eq_false hpp3, eq_false hpp4, eq_false hpp5, eq_false hpp6, ↓reduceIte, Int.reduceEq, Int.reduceLT, Int.reduceLE, Bool.and_true, Bool.true_and, Bool.and_false, Bool.false_and, Bool.false_eq_true, Bool.true_eq_false, and_true, true_and, and_false, false_and, or_true, true_or, or_false, false_or]
set_option maxHeartbeats 4000000 in
theorem edit_at {w : World} {t : Nat} {W H : Int} {T : TS} {F : Nat → Prop} (hA0 : TermAt w t T F) (hT : LT w) (hL : Lim W H T) {ao : Option Nat} {an cc : Nat} {ac : Ac} (hV : IntsAt w .i64 ao an cc ac.params (fun b => ¬ F b ∧ b < w.heap.size)) (hV8 : an ≤ 8) (hVb : ∀ x ∈ ac.params, 0 ≤ x ∧ x ≤ 9999) (n : Int) (hn : 0 ≤ n ∧ n ≤ 100000) : Calls Tryd.prog 84 [.pointer (some ⟨t, 0, none⟩), .agg #[.int .i64 ac.kind, .int .i32 ac.rune, .int .u8 ac.last, .string ac.marks, .slice (ao.map at0) an cc, .string ac.text], .int .i64 n].toArray w fun e w' => e = .returned (.tuple #[]) ∧ TermAt w' t (editT T ac.last n ac.params) (more F w w') ∧ Ch F w w' := by
 obtain ⟨g, o, ba, bn, bc, pa, pn, pc, F1, F2, FB, FP, hI⟩ := hA0
 have hA0 : TermAt w t T F := ⟨g, o, ba, bn, bc, pa, pn, pc, F1, F2, FB, FP, hI⟩
 have hFt := hI.inF.1
 obtain ⟨gv, hgd⟩ := hI.g1.head
 have htg : Df t g := fun e => hI.t1 (e ▸ hI.g1.inF)
 obtain ⟨⟨hw1, hw2⟩, ⟨hh1, hh2⟩, hll, hall⟩ := hI.g1.ok
 have hL0 := hL
 obtain ⟨⟨hwa, hwb⟩, ⟨hha, hhb⟩, ⟨hgw, hgh⟩, ⟨how, hoh⟩, ⟨⟨hcx, hcX⟩, hcy, hcY⟩, ⟨⟨hsx, hsX⟩, hsy, hsY⟩, ⟨⟨hax, haX⟩, hay, haY⟩, ⟨htp, htb, hbh⟩, hbk, hrp⟩ := hL0
 refine yA Tryd.func84 rfl <| ysr <| yo (yN [iX ac.kind, rX ac.rune, uX ac.last, .string ac.marks, .slice (ao.map at0) an cc, .string ac.text] 73 fun w10 b11 hb12 hz13 hB14 hc15 => ?_)
 have hlo16 : w.heap.size ≤ b11 := by rw [hb12]; exact Ch.size (Ch.refl (fun j => j = t) w)
 have hS17 := Ch.trans (Ch.refl (fun j => j = t) w) hc15 eZ
 have ht19 := hI.blk.ch hc15 id
 have hg20 := hgd.ch hc15 id
 have hT21 := lt_ch hc15 hT (fun _ h => h.elim)
 have hV22 := hV.ch hc15 iZ
 refine ye <| ys <| yDC [18] fun w23 hH24 hc25 => ?_
 have hS26 := Ch.trans hS17 hc25 eZ
 have ht28 := ht19.ch hc25 id
 have hg29 := hg20.ch hc25 id
 have hT30 := lt_ch hc25 hT21 (fun _ h => h.elim)
 have hV31 := hV22.ch hc25 iZ
 have hB32 := hB14.ch hc25 id
 refine ydC (uL 0 15) [] (fun u hu => (.l (cell_ch hu (ht28.c 2) id) (.l (cell_ch hu (ht28.c 3) id) (.a (cellsC_ch hu (ht28.cs 5 5) id) .z)))) <| yH 15 (yN [.bool false, .bool false, .bool false, iX 0, iX 0] 28 fun w33 b34 hb35 hz36 hB37 hc38 => ?_)
 have hlo39 : w.heap.size ≤ b34 := by rw [hb35]; exact Ch.size hS26
 have hS40 := Ch.trans hS26 hc38 eZ
 have ht42 := ht28.ch hc38 id
 have hg43 := hg29.ch hc38 id
 have hT44 := lt_ch hc38 hT30 (fun _ h => h.elim)
 have hV45 := hV31.ch hc38 iZ
 have hB46 := hB32.ch hc38 id
 refine x_heldC hc38 <| ydC [16, 17] [] (fun u hu => .z) <| yK 18 (yS hB37 fun w47 hB48 hc49 => ?_)
 have hS50 := Ch.trans hS40 hc49 (fun i hi (h : i = b34) => by omega)
 have ht52 := ht42.ch hc49 (fun (h : t = b34) => by have := ht28.lt; omega)
 have hg53 := hg43.ch hc49 (fun (h : g = b34) => by have := hg29.lt; omega)
 have hT54 := lt_ch hc49 hT44 (fun b (h : b = b34) => by have := hI.hi t hFt; have := hI.blk.lt; omega)
 have hV55 := hV45.ch hc49 (fun b hb (h : b = b34) => by have := hb.2; omega)
 have hB56 := hB46.ch hc49 (fun (h : b11 = b34) => by have := hB32.lt; omega)
 replace hB48 : Blk w47 b34 [.bool T.cursor.sty.bold, .bool T.cursor.sty.under, .bool T.cursor.sty.turned, iX T.cursor.sty.fore, iX T.cursor.sty.back] _ := Blk.to hB48 (by kernel_rfl)
 refine x_killed <| yDe (nS ?_)
 refine ysr <| yp 7 [] (.l (ht52.c 26) .z) <| yw [31] (rM T.top T.cursor.y) (fun hC57 => ?_) fun hC57 => ?_
 ·have hpp0 := hC57
  refine yp 15 [] (.l (ht52.c 27) .z) <| ye <| ysr <| yp 2 [] (.l (hB56.c 2) .z) <| ye <| x_block <| ysr <| yp 2 [] .z <| ye <| yc (rE ac.last 64) (fun hC58 => ?_) fun hC58 => ?_
  ·have hpp1 := hC58
   refine yD [8] fun w59 hH60 hc61 => ?_
   have hS62 := Ch.trans hS50 hc61 eZ
   have ht64 := ht52.ch hc61 id
   have hT66 := lt_ch hc61 hT54 (fun _ h => h.elim)
   have hB68 := hB56.ch hc61 id
   have hB69 := hB48.ch hc61 id
   refine yd (uL 0 8) [] (.l (ht64.c 0) (.a (hB69.cs 0 5) .z)) ?_
   have hI70 := hI.scalar (T' := T) hS62 ht64 rfl rfl rfl rfl
   have hA71 : TermAt w59 t T F := ⟨_, _, _, _, _, _, _, _, _, _, _, _, hI70⟩
   have hpre72 : Ch F w w59 := hS62.mono (fun i _ h => h ▸ hFt)
   have hly73 := hB68.lt
   have hly74 := hB69.lt
   have hX75 : Ch F w59 w59 := Ch.trans (Ch.refl F w59) (Ch.refl (fun j => j = t) w59) (fun i _ h => h ▸ hFt)
   have hA76 : TermAt w59 t T (more F w59 w59) := ⟨_, _, _, _, _, _, _, _, _, _, _, _, hI70.mono (fun _ h => .inl h) (hI70.moreOk hX75.size)⟩
   have hI77 := hI70.mono (F' := more F w59 w59) (fun _ h => .inl h) (hI70.moreOk hX75.size)
   refine yK 8 (yQ (open_any _ _ _ (T.cursor.x) (T.cursor.y) (n) T.cursor.sty _ hT66.tb hI77.g1) ?_)
   rintro w83 ⟨hG78, hc79⟩
   obtain ⟨hN80, hX81⟩ := TermAt.next hA71 hX75 (hI77.chF hc79) ⟨_, _, _, _, _, _, _, _, _, _, _, _, hI77.grid1 hc79 hG78 (fun _ h => h)⟩
   have hc79m := hI77.chF hc79
   have hL88 : Lim W H ({ T with grid := (openG T.grid (T.cursor.x) (T.cursor.y) (n) T.cursor.sty) } : TS) := hL.grid (openG_w _ _ _ _ _)
   generalize hE88 : ({ T with grid := (openG T.grid (T.cursor.x) (T.cursor.y) (n) T.cursor.sty) } : TS) = T88 at hN80 hL88
   have hM88 := hL88
   obtain ⟨⟨hwa88, hwb88⟩, ⟨hha88, hhb88⟩, ⟨hgw88, hgh88⟩, ⟨how88, hoh88⟩, ⟨⟨hcx88, hcX88⟩, hcy88, hcY88⟩, ⟨⟨hsx88, hsX88⟩, hsy88, hsY88⟩, ⟨⟨hax88, haX88⟩, hay88, haY88⟩, ⟨htp88, htb88, hbh88⟩, hbk88, hrp88⟩ := hM88
   obtain ⟨g88, o88, ba88, bn88, bc88, pa88, pn88, pc88, F188, F288, FB88, FP88, hI82⟩ := hN80
   obtain ⟨gv88, hgd89⟩ := hI82.g1.head
   have htg90 : Df t g88 := fun e => hI82.t1 (e ▸ hI82.g1.inF)
   refine x_killed <| yDe (nB (yR0' ?_))
   have hX91 : Ch F w59 w83 := Ch.trans hX81 (Ch.refl (fun j => j = t) w83) (fun i _ h => h ▸ hFt)
   have hA92 : TermAt w83 t T88 (more F w59 w83) := ⟨_, _, _, _, _, _, _, _, _, _, _, _, hI82.mono (fun b hb => hb.elim .inl (fun h2 => .inr ⟨h2.1, by have := Ch.size (Ch.refl (fun j => j = t) w83); omega⟩)) (hI70.moreOk hX91.size)⟩
   subst hE88
   refine ⟨rfl, TermAt.eq' (hA92.mono (more_le hpre72.size) (hI.moreOk (Nat.le_trans hpre72.size hX91.size))) ?_, Ch.trans hpre72 hX91 iZ⟩
   simp only [editT, eq_true hpp0, hpp1, ↓reduceIte, Int.reduceEq, Int.reduceLT, Int.reduceLE, Bool.and_true, Bool.true_and, Bool.and_false, Bool.false_and, Bool.false_eq_true, Bool.true_eq_false, and_true, true_and, and_false, false_and, or_true, true_or, or_false, false_or]
  have hpp1 := hC58
  refine ysr <| yp 2 [] .z <| ye <| yc (rE ac.last 80) (fun hC93 => ?_) fun hC93 => ?_
  ·have hpp2 := hC93
   refine yD [8] fun w94 hH95 hc96 => ?_
   have hS97 := Ch.trans hS50 hc96 eZ
   have ht99 := ht52.ch hc96 id
   have hT101 := lt_ch hc96 hT54 (fun _ h => h.elim)
   have hB103 := hB56.ch hc96 id
   have hB104 := hB48.ch hc96 id
   refine yd (uL 0 8) [] (.l (ht99.c 0) (.a (hB104.cs 0 5) .z)) ?_
   have hI105 := hI.scalar (T' := T) hS97 ht99 rfl rfl rfl rfl
   have hA106 : TermAt w94 t T F := ⟨_, _, _, _, _, _, _, _, _, _, _, _, hI105⟩
   have hpre107 : Ch F w w94 := hS97.mono (fun i _ h => h ▸ hFt)
   have hly108 := hB103.lt
   have hly109 := hB104.lt
   have hX110 : Ch F w94 w94 := Ch.trans (Ch.refl F w94) (Ch.refl (fun j => j = t) w94) (fun i _ h => h ▸ hFt)
   have hA111 : TermAt w94 t T (more F w94 w94) := ⟨_, _, _, _, _, _, _, _, _, _, _, _, hI105.mono (fun _ h => .inl h) (hI105.moreOk hX110.size)⟩
   have hI112 := hI105.mono (F' := more F w94 w94) (fun _ h => .inl h) (hI105.moreOk hX110.size)
   refine yK 8 (yQ (shut_any _ _ _ (T.cursor.x) (T.cursor.y) (n) T.cursor.sty _ hT101.tb hI112.g1) ?_)
   rintro w118 ⟨hG113, hc114⟩
   obtain ⟨hN115, hX116⟩ := TermAt.next hA106 hX110 (hI112.chF hc114) ⟨_, _, _, _, _, _, _, _, _, _, _, _, hI112.grid1 hc114 hG113 (fun _ h => h)⟩
   have hc114m := hI112.chF hc114
   have hL123 : Lim W H ({ T with grid := (shutG T.grid (T.cursor.x) (T.cursor.y) (n) T.cursor.sty) } : TS) := hL.grid (shutG_w _ _ _ _ _)
   generalize hE123 : ({ T with grid := (shutG T.grid (T.cursor.x) (T.cursor.y) (n) T.cursor.sty) } : TS) = T123 at hN115 hL123
   have hM123 := hL123
   obtain ⟨⟨hwa123, hwb123⟩, ⟨hha123, hhb123⟩, ⟨hgw123, hgh123⟩, ⟨how123, hoh123⟩, ⟨⟨hcx123, hcX123⟩, hcy123, hcY123⟩, ⟨⟨hsx123, hsX123⟩, hsy123, hsY123⟩, ⟨⟨hax123, haX123⟩, hay123, haY123⟩, ⟨htp123, htb123, hbh123⟩, hbk123, hrp123⟩ := hM123
   obtain ⟨g123, o123, ba123, bn123, bc123, pa123, pn123, pc123, F1123, F2123, FB123, FP123, hI117⟩ := hN115
   obtain ⟨gv123, hgd124⟩ := hI117.g1.head
   have htg125 : Df t g123 := fun e => hI117.t1 (e ▸ hI117.g1.inF)
   refine x_killed <| yDe (nB (yR0' ?_))
   have hX126 : Ch F w94 w118 := Ch.trans hX116 (Ch.refl (fun j => j = t) w118) (fun i _ h => h ▸ hFt)
   have hA127 : TermAt w118 t T123 (more F w94 w118) := ⟨_, _, _, _, _, _, _, _, _, _, _, _, hI117.mono (fun b hb => hb.elim .inl (fun h2 => .inr ⟨h2.1, by have := Ch.size (Ch.refl (fun j => j = t) w118); omega⟩)) (hI105.moreOk hX126.size)⟩
   subst hE123
   refine ⟨rfl, TermAt.eq' (hA127.mono (more_le hpre107.size) (hI.moreOk (Nat.le_trans hpre107.size hX126.size))) ?_, Ch.trans hpre107 hX126 iZ⟩
   simp only [editT, eq_true hpp0, eq_false hpp1, hpp2, ↓reduceIte, Int.reduceEq, Int.reduceLT, Int.reduceLE, Bool.and_true, Bool.true_and, Bool.and_false, Bool.false_and, Bool.false_eq_true, Bool.true_eq_false, and_true, true_and, and_false, false_and, or_true, true_or, or_false, false_or]
  have hpp2 := hC93
  refine ysr <| yp 2 [] .z <| ye <| yc (rE ac.last 88) (fun hC128 => ?_) fun hC128 => ?_
  ·have hpp3 := hC128
   refine yD [10] fun w129 hH130 hc131 => ?_
   have hS132 := Ch.trans hS50 hc131 eZ
   have ht134 := ht52.ch hc131 id
   have hT136 := lt_ch hc131 hT54 (fun _ h => h.elim)
   have hB138 := hB56.ch hc131 id
   have hB139 := hB48.ch hc131 id
   refine yd (uL 0 10) [] (.l (ht134.c 0) (.q6 (T.cursor.x + n) (.a (hB139.cs 0 5) .z))) ?_
   have hI140 := hI.scalar (T' := T) hS132 ht134 rfl rfl rfl rfl
   have hA141 : TermAt w129 t T F := ⟨_, _, _, _, _, _, _, _, _, _, _, _, hI140⟩
   have hpre142 : Ch F w w129 := hS132.mono (fun i _ h => h ▸ hFt)
   have hly143 := hB138.lt
   have hly144 := hB139.lt
   have hX145 : Ch F w129 w129 := Ch.trans (Ch.refl F w129) (Ch.refl (fun j => j = t) w129) (fun i _ h => h ▸ hFt)
   have hA146 : TermAt w129 t T (more F w129 w129) := ⟨_, _, _, _, _, _, _, _, _, _, _, _, hI140.mono (fun _ h => .inl h) (hI140.moreOk hX145.size)⟩
   have hI147 := hI140.mono (F' := more F w129 w129) (fun _ h => .inl h) (hI140.moreOk hX145.size)
   refine yK 10 (yQ (clear_any _ _ _ (T.cursor.y) (T.cursor.x) ((T.cursor.x + n)) T.cursor.sty _ hT136.tb hI147.g1) ?_)
   rintro w153 ⟨hG148, hc149⟩
   obtain ⟨hN150, hX151⟩ := TermAt.next hA141 hX145 (hI147.chF hc149) ⟨_, _, _, _, _, _, _, _, _, _, _, _, hI147.grid1 hc149 hG148 (fun _ h => h)⟩
   have hc149m := hI147.chF hc149
   have hL158 : Lim W H ({ T with grid := (clearG T.grid (T.cursor.y) (T.cursor.x) ((T.cursor.x + n)) T.cursor.sty) } : TS) := hL.grid (clearG_w _ _ _ _ _)
   generalize hE158 : ({ T with grid := (clearG T.grid (T.cursor.y) (T.cursor.x) ((T.cursor.x + n)) T.cursor.sty) } : TS) = T158 at hN150 hL158
   have hM158 := hL158
   obtain ⟨⟨hwa158, hwb158⟩, ⟨hha158, hhb158⟩, ⟨hgw158, hgh158⟩, ⟨how158, hoh158⟩, ⟨⟨hcx158, hcX158⟩, hcy158, hcY158⟩, ⟨⟨hsx158, hsX158⟩, hsy158, hsY158⟩, ⟨⟨hax158, haX158⟩, hay158, haY158⟩, ⟨htp158, htb158, hbh158⟩, hbk158, hrp158⟩ := hM158
   obtain ⟨g158, o158, ba158, bn158, bc158, pa158, pn158, pc158, F1158, F2158, FB158, FP158, hI152⟩ := hN150
   obtain ⟨gv158, hgd159⟩ := hI152.g1.head
   have htg160 : Df t g158 := fun e => hI152.t1 (e ▸ hI152.g1.inF)
   refine x_killed <| yDe (nB (yR0' ?_))
   have hX161 : Ch F w129 w153 := Ch.trans hX151 (Ch.refl (fun j => j = t) w153) (fun i _ h => h ▸ hFt)
   have hA162 : TermAt w153 t T158 (more F w129 w153) := ⟨_, _, _, _, _, _, _, _, _, _, _, _, hI152.mono (fun b hb => hb.elim .inl (fun h2 => .inr ⟨h2.1, by have := Ch.size (Ch.refl (fun j => j = t) w153); omega⟩)) (hI140.moreOk hX161.size)⟩
   subst hE158
   refine ⟨rfl, TermAt.eq' (hA162.mono (more_le hpre142.size) (hI.moreOk (Nat.le_trans hpre142.size hX161.size))) ?_, Ch.trans hpre142 hX161 iZ⟩
   simp only [editT, eq_true hpp0, eq_false hpp1, eq_false hpp2, hpp3, ↓reduceIte, Int.reduceEq, Int.reduceLT, Int.reduceLE, Bool.and_true, Bool.true_and, Bool.and_false, Bool.false_and, Bool.false_eq_true, Bool.true_eq_false, and_true, true_and, and_false, false_and, or_true, true_or, or_false, false_or]
  have hpp3 := hC128
  refine ysr <| yp 2 [] .z <| ye <| yc (rE ac.last 75) (fun hC163 => ?_) fun hC163 => ?_
  ·have hpp4 := hC163
   refine x_region <| yp 2 [] (.a (hB56.cs 0 6) .z) <| yo (yQ (first_act hV55 ac rfl) fun w165 hc164 => ?_)
   have hS166 := Ch.trans hS50 hc164 eZ
   have ht168 := ht52.ch hc164 id
   have hT170 := lt_ch hc164 hT54 (fun _ h => h.elim)
   have hB172 := hB56.ch hc164 id
   have hB173 := hB48.ch hc164 id
   refine yp 6 [] (.q6 (T.cursor.y + 1) .z) ?_
   have hI174 := hI.scalar (T' := T) hS166 ht168 rfl rfl rfl rfl
   have hA175 : TermAt w165 t T F := ⟨_, _, _, _, _, _, _, _, _, _, _, _, hI174⟩
   have hpre176 : Ch F w w165 := hS166.mono (fun i _ h => h ▸ hFt)
   have hly177 := hB172.lt
   have hly178 := hB173.lt
   have hX179 : Ch F w165 w165 := Ch.trans (Ch.refl F w165) (Ch.refl (fun j => j = t) w165) (fun i _ h => h ▸ hFt)
   have hA180 : TermAt w165 t T (more F w165 w165) := ⟨_, _, _, _, _, _, _, _, _, _, _, _, hI174.mono (fun _ h => .inl h) (hI174.moreOk hX179.size)⟩
   refine yo (yQ (erase_at hA180 hT170 hL  ((firstI ac.params)) (T.cursor.y) ((T.cursor.y + 1)) (by constructor <;> omega)) ?_)
   rintro w186 ⟨hB181, hc182⟩
   obtain ⟨hN183, hX184⟩ := TermAt.next hA175 hX179 hc182 hB181
   have hL191 : Lim W H (eraseT T ((firstI ac.params)) (T.cursor.y) ((T.cursor.y + 1))) := (lim_erase hL ((firstI ac.params)) (T.cursor.y) ((T.cursor.y + 1)))
   generalize hE191 : (eraseT T ((firstI ac.params)) (T.cursor.y) ((T.cursor.y + 1))) = T191 at hN183 hL191
   have hM191 := hL191
   obtain ⟨⟨hwa191, hwb191⟩, ⟨hha191, hhb191⟩, ⟨hgw191, hgh191⟩, ⟨how191, hoh191⟩, ⟨⟨hcx191, hcX191⟩, hcy191, hcY191⟩, ⟨⟨hsx191, hsX191⟩, hsy191, hsY191⟩, ⟨⟨hax191, haX191⟩, hay191, haY191⟩, ⟨htp191, htb191, hbh191⟩, hbk191, hrp191⟩ := hM191
   obtain ⟨g191, o191, ba191, bn191, bc191, pa191, pn191, pc191, F1191, F2191, FB191, FP191, hI185⟩ := hN183
   obtain ⟨gv191, hgd192⟩ := hI185.g1.head
   have htg193 : Df t g191 := fun e => hI185.t1 (e ▸ hI185.g1.inF)
   refine yE (nB (yR0' ?_))
   have hX194 : Ch F w165 w186 := Ch.trans hX184 (Ch.refl (fun j => j = t) w186) (fun i _ h => h ▸ hFt)
   have hA195 : TermAt w186 t T191 (more F w165 w186) := ⟨_, _, _, _, _, _, _, _, _, _, _, _, hI185.mono (fun b hb => hb.elim .inl (fun h2 => .inr ⟨h2.1, by have := Ch.size (Ch.refl (fun j => j = t) w186); omega⟩)) (hI174.moreOk hX194.size)⟩
   subst hE191
   refine ⟨rfl, TermAt.eq' (hA195.mono (more_le hpre176.size) (hI.moreOk (Nat.le_trans hpre176.size hX194.size))) ?_, Ch.trans hpre176 hX194 iZ⟩
   simp only [editT, eq_true hpp0, eq_false hpp1, eq_false hpp2, eq_false hpp3, hpp4, ↓reduceIte, Int.reduceEq, Int.reduceLT, Int.reduceLE, Bool.and_true, Bool.true_and, Bool.and_false, Bool.false_and, Bool.false_eq_true, Bool.true_eq_false, and_true, true_and, and_false, false_and, or_true, true_or, or_false, false_or]
  have hpp4 := hC163
  refine ysr <| yp 2 [] .z <| ye <| yc (rE ac.last 74) (fun hC196 => ?_) fun hC196 => ?_
  ·have hpp5 := hC196
   refine ys <| ysr <| yp 1 [] (.a (hB56.cs 0 6) .z) <| yo (yQ (first_act hV55 ac rfl) fun w198 hc197 => ?_)
   have hS199 := Ch.trans hS50 hc197 eZ
   have ht201 := ht52.ch hc197 id
   have hg202 := hg53.ch hc197 id
   have hT203 := lt_ch hc197 hT54 (fun _ h => h.elim)
   have hV204 := hV55.ch hc197 iZ
   have hB205 := hB56.ch hc197 id
   have hB206 := hB48.ch hc197 id
   refine yp 3 [] .z <| ye <| yc (rE (firstI ac.params) 3) (fun hC207 => ?_) fun hC207 => ?_
   ·have hpp6 := hC207
    refine x_region <| yp 3 [] .z ?_
    have hI208 := hI.scalar (T' := T) hS199 ht201 rfl rfl rfl rfl
    have hA209 : TermAt w198 t T F := ⟨_, _, _, _, _, _, _, _, _, _, _, _, hI208⟩
    have hpre210 : Ch F w w198 := hS199.mono (fun i _ h => h ▸ hFt)
    have hly211 := hB205.lt
    have hly212 := hB206.lt
    have hX213 : Ch F w198 w198 := Ch.trans (Ch.refl F w198) (Ch.refl (fun j => j = t) w198) (fun i _ h => h ▸ hFt)
    have hA214 : TermAt w198 t T (more F w198 w198) := ⟨_, _, _, _, _, _, _, _, _, _, _, _, hI208.mono (fun _ h => .inl h) (hI208.moreOk hX213.size)⟩
    have hI215 := hI208.mono (F' := more F w198 w198) (fun _ h => .inl h) (hI208.moreOk hX213.size)
    refine yo (e_store 97 [.slice none 0 0] none (by kernel_rfl) ht201 (of_ble (by kernel_rfl)) ?_)
    intro w216 hB217 hc218
    replace hB217 : Blk w216 t (TS.vals ({ T with back := [] } : TS) g o (.slice none 0 0) (.slice pa pn pc)) tTerm := Blk.to hB217 (by kernel_rfl)
    have hI219 := hI215.nilBack hc218 hB217
    obtain ⟨hN220, hX221⟩ := TermAt.next hA209 hX213 (hI215.cht hc218) ⟨_, _, _, _, _, _, _, _, _, _, _, _, hI219.mono (fun _ h => .inl h) (hI215.moreOk hc218.size)⟩
    have hT224 := lt_ch hc218 hT203 (fun b (h : b = t) => h ▸ hI.hi t hFt)
    have hV225 := hV204.ch hc218 (fun b hb (h : b = t) => hb.1 (h ▸ hFt))
    have hB226 := hB205.ch hc218 (fun (h : b11 = t) => by have := hI.blk.lt; omega)
    have hL228 : Lim W H ({ T with back := [] } : TS) := { hL with bk := by simp }
    generalize hE228 : ({ T with back := [] } : TS) = T228 at hN220 hL228
    have hM228 := hL228
    obtain ⟨⟨hwa228, hwb228⟩, ⟨hha228, hhb228⟩, ⟨hgw228, hgh228⟩, ⟨how228, hoh228⟩, ⟨⟨hcx228, hcX228⟩, hcy228, hcY228⟩, ⟨⟨hsx228, hsX228⟩, hsy228, hsY228⟩, ⟨⟨hax228, haX228⟩, hay228, haY228⟩, ⟨htp228, htb228, hbh228⟩, hbk228, hrp228⟩ := hM228
    obtain ⟨g228, o228, ba228, bn228, bc228, pa228, pn228, pc228, F1228, F2228, FB228, FP228, hI222⟩ := hN220
    obtain ⟨gv228, hgd229⟩ := hI222.g1.head
    have htg230 : Df t g228 := fun e => hI222.t1 (e ▸ hI222.g1.inF)
    refine ye <| yDC [10] fun w231 hH232 hc233 => ?_
    have hS234 := Ch.trans (Ch.refl (fun j => j = t) w216) hc233 eZ
    have hT235 := lt_ch hc233 hT224 (fun _ h => h.elim)
    have hV236 := hV225.ch hc233 iZ
    have hB237 := hB226.ch hc233 id
    have ht239 := hI222.blk.ch hc233 id
    have hg240 := hgd229.ch hc233 id
    refine ydC [0, 1, 3, 4, 5, 6, 7, 8, 9] [] (fun u hu => (.a (cellsC_ch hu (hB237.cs 0 6) id) (.l (cell_ch hu (ht239.c 0) id) (.l (cell_ch hu (hg240.c 1) id) .z)))) <| yH 2 (yQ (first_act hV236 ac rfl) fun w242 hc241 => ?_)
    have hS243 := Ch.trans hS234 hc241 eZ
    have hT244 := lt_ch hc241 hT235 (fun _ h => h.elim)
    have ht248 := ht239.ch hc241 id
    refine x_heldC hc241 ?_
    have hI250 := hI222.scalar (T' := T228) hS243 ht248 rfl rfl rfl rfl
    have hX251 : Ch F w198 w242 := Ch.trans hX221 hS243 (fun i _ h => h ▸ hFt)
    have hA252 : TermAt w242 t T228 (more F w198 w242) := ⟨_, _, _, _, _, _, _, _, _, _, _, _, hI250.mono (fun b hb => hb.elim .inl (fun h2 => .inr ⟨h2.1, by have := Ch.size hS243; omega⟩)) (hI208.moreOk hX251.size)⟩
    refine yK 10 (yQ (erase_at hA252 hT244 hL228  ((firstI ac.params)) (0) (T228.grid.h) (by constructor <;> omega)) ?_)
    rintro w258 ⟨hB253, hc254⟩
    obtain ⟨hN255, hX256⟩ := TermAt.next hA209 hX251 hc254 hB253
    have hL263 : Lim W H (eraseT T228 ((firstI ac.params)) (0) (T228.grid.h)) := (lim_erase hL228 ((firstI ac.params)) (0) (T228.grid.h))
    generalize hE263 : (eraseT T228 ((firstI ac.params)) (0) (T228.grid.h)) = T263 at hN255 hL263
    have hM263 := hL263
    obtain ⟨⟨hwa263, hwb263⟩, ⟨hha263, hhb263⟩, ⟨hgw263, hgh263⟩, ⟨how263, hoh263⟩, ⟨⟨hcx263, hcX263⟩, hcy263, hcY263⟩, ⟨⟨hsx263, hsX263⟩, hsy263, hsY263⟩, ⟨⟨hax263, haX263⟩, hay263, haY263⟩, ⟨htp263, htb263, hbh263⟩, hbk263, hrp263⟩ := hM263
    obtain ⟨g263, o263, ba263, bn263, bc263, pa263, pn263, pc263, F1263, F2263, FB263, FP263, hI257⟩ := hN255
    obtain ⟨gv263, hgd264⟩ := hI257.g1.head
    have htg265 : Df t g263 := fun e => hI257.t1 (e ▸ hI257.g1.inF)
    refine x_killed <| yDe (nB (yR0' ?_))
    have hX266 : Ch F w198 w258 := Ch.trans hX256 (Ch.refl (fun j => j = t) w258) (fun i _ h => h ▸ hFt)
    have hA267 : TermAt w258 t T263 (more F w198 w258) := ⟨_, _, _, _, _, _, _, _, _, _, _, _, hI257.mono (fun b hb => hb.elim .inl (fun h2 => .inr ⟨h2.1, by have := Ch.size (Ch.refl (fun j => j = t) w258); omega⟩)) (hI208.moreOk hX266.size)⟩
    subst hE263
    subst hE228
    refine ⟨rfl, TermAt.eq' (hA267.mono (more_le hpre210.size) (hI.moreOk (Nat.le_trans hpre210.size hX266.size))) ?_, Ch.trans hpre210 hX266 iZ⟩
    simp only [editT, eq_true hpp0, eq_false hpp1, eq_false hpp2, eq_false hpp3, eq_false hpp4, hpp5, hpp6, ↓reduceIte, Int.reduceEq, Int.reduceLT, Int.reduceLE, Bool.and_true, Bool.true_and, Bool.and_false, Bool.false_and, Bool.false_eq_true, Bool.true_eq_false, and_true, true_and, and_false, false_and, or_true, true_or, or_false, false_or]
   have hpp6 := hC207
   refine yk <| yDC [10] fun w268 hH269 hc270 => ?_
   have hS271 := Ch.trans hS199 hc270 eZ
   have ht273 := ht201.ch hc270 id
   have hg274 := hg202.ch hc270 id
   have hT275 := lt_ch hc270 hT203 (fun _ h => h.elim)
   have hV276 := hV204.ch hc270 iZ
   have hB277 := hB205.ch hc270 id
   have hB278 := hB206.ch hc270 id
   refine ydC [0, 1, 3, 4, 5, 6, 7, 8, 9] [] (fun u hu => (.a (cellsC_ch hu (hB277.cs 0 6) id) (.l (cell_ch hu (ht273.c 0) id) (.l (cell_ch hu (hg274.c 1) id) .z)))) <| yH 2 (yQ (first_act hV276 ac rfl) fun w280 hc279 => ?_)
   have hS281 := Ch.trans hS271 hc279 eZ
   have ht283 := ht273.ch hc279 id
   have hT285 := lt_ch hc279 hT275 (fun _ h => h.elim)
   have hB287 := hB277.ch hc279 id
   have hB288 := hB278.ch hc279 id
   refine x_heldC hc279 ?_
   have hI289 := hI.scalar (T' := T) hS281 ht283 rfl rfl rfl rfl
   have hA290 : TermAt w280 t T F := ⟨_, _, _, _, _, _, _, _, _, _, _, _, hI289⟩
   have hpre291 : Ch F w w280 := hS281.mono (fun i _ h => h ▸ hFt)
   have hly292 := hB287.lt
   have hly293 := hB288.lt
   have hX294 : Ch F w280 w280 := Ch.trans (Ch.refl F w280) (Ch.refl (fun j => j = t) w280) (fun i _ h => h ▸ hFt)
   have hA295 : TermAt w280 t T (more F w280 w280) := ⟨_, _, _, _, _, _, _, _, _, _, _, _, hI289.mono (fun _ h => .inl h) (hI289.moreOk hX294.size)⟩
   refine yK 10 (yQ (erase_at hA295 hT285 hL  ((firstI ac.params)) (0) (T.grid.h) (by constructor <;> omega)) ?_)
   rintro w301 ⟨hB296, hc297⟩
   obtain ⟨hN298, hX299⟩ := TermAt.next hA290 hX294 hc297 hB296
   have hL306 : Lim W H (eraseT T ((firstI ac.params)) (0) (T.grid.h)) := (lim_erase hL ((firstI ac.params)) (0) (T.grid.h))
   generalize hE306 : (eraseT T ((firstI ac.params)) (0) (T.grid.h)) = T306 at hN298 hL306
   have hM306 := hL306
   obtain ⟨⟨hwa306, hwb306⟩, ⟨hha306, hhb306⟩, ⟨hgw306, hgh306⟩, ⟨how306, hoh306⟩, ⟨⟨hcx306, hcX306⟩, hcy306, hcY306⟩, ⟨⟨hsx306, hsX306⟩, hsy306, hsY306⟩, ⟨⟨hax306, haX306⟩, hay306, haY306⟩, ⟨htp306, htb306, hbh306⟩, hbk306, hrp306⟩ := hM306
   obtain ⟨g306, o306, ba306, bn306, bc306, pa306, pn306, pc306, F1306, F2306, FB306, FP306, hI300⟩ := hN298
   obtain ⟨gv306, hgd307⟩ := hI300.g1.head
   have htg308 : Df t g306 := fun e => hI300.t1 (e ▸ hI300.g1.inF)
   refine x_killed <| yDe (nB (yR0' ?_))
   have hX309 : Ch F w280 w301 := Ch.trans hX299 (Ch.refl (fun j => j = t) w301) (fun i _ h => h ▸ hFt)
   have hA310 : TermAt w301 t T306 (more F w280 w301) := ⟨_, _, _, _, _, _, _, _, _, _, _, _, hI300.mono (fun b hb => hb.elim .inl (fun h2 => .inr ⟨h2.1, by have := Ch.size (Ch.refl (fun j => j = t) w301); omega⟩)) (hI289.moreOk hX309.size)⟩
   subst hE306
   refine ⟨rfl, TermAt.eq' (hA310.mono (more_le hpre291.size) (hI.moreOk (Nat.le_trans hpre291.size hX309.size))) ?_, Ch.trans hpre291 hX309 iZ⟩
   simp only [editT, eq_true hpp0, eq_false hpp1, eq_false hpp2, eq_false hpp3, eq_false hpp4, hpp5, eq_false hpp6, ↓reduceIte, Int.reduceEq, Int.reduceLT, Int.reduceLE, Bool.and_true, Bool.true_and, Bool.and_false, Bool.false_and, Bool.false_eq_true, Bool.true_eq_false, and_true, true_and, and_false, false_and, or_true, true_or, or_false, false_or]
  have hpp5 := hC196
  refine ysr <| yp 2 [] .z <| ye <| yc (rE ac.last 76) (fun hC311 => ?_) fun hC311 => ?_
  ·have hpp6 := hC311
   refine ysr <| yp 1 [] .z <| ye <| yc (rL T.cursor.y T.bot) (fun hC312 => ?_) fun hC312 => ?_
   ·have hpp7 := hC312
    refine yD [11] fun w313 hH314 hc315 => ?_
    have hS316 := Ch.trans hS50 hc315 eZ
    have ht318 := ht52.ch hc315 id
    have hT320 := lt_ch hc315 hT54 (fun _ h => h.elim)
    have hB322 := hB56.ch hc315 id
    have hB323 := hB48.ch hc315 id
    refine yd (uL 0 11) [] (.l (ht318.c 0) (.l (ht318.c 27) (.a (hB323.cs 0 5) .z))) ?_
    have hI324 := hI.scalar (T' := T) hS316 ht318 rfl rfl rfl rfl
    have hA325 : TermAt w313 t T F := ⟨_, _, _, _, _, _, _, _, _, _, _, _, hI324⟩
    have hpre326 : Ch F w w313 := hS316.mono (fun i _ h => h ▸ hFt)
    have hly327 := hB322.lt
    have hly328 := hB323.lt
    have hX329 : Ch F w313 w313 := Ch.trans (Ch.refl F w313) (Ch.refl (fun j => j = t) w313) (fun i _ h => h ▸ hFt)
    have hA330 : TermAt w313 t T (more F w313 w313) := ⟨_, _, _, _, _, _, _, _, _, _, _, _, hI324.mono (fun _ h => .inl h) (hI324.moreOk hX329.size)⟩
    have hI331 := hI324.mono (F' := more F w313 w313) (fun _ h => .inl h) (hI324.moreOk hX329.size)
    refine yK 11 (yQ (down_any _ _ _ (T.cursor.y) (T.bot) (n) T.cursor.sty _ hT320.tb hI331.g1) ?_)
    rintro w337 ⟨hG332, hc333⟩
    obtain ⟨hN334, hX335⟩ := TermAt.next hA325 hX329 (hI331.chF hc333) ⟨_, _, _, _, _, _, _, _, _, _, _, _, hI331.grid1 hc333 hG332 (fun _ h => h)⟩
    have hc333m := hI331.chF hc333
    have hL342 : Lim W H ({ T with grid := (downG T.grid (T.cursor.y) (T.bot) (n) T.cursor.sty) } : TS) := hL.grid ⟨rfl, rfl⟩
    generalize hE342 : ({ T with grid := (downG T.grid (T.cursor.y) (T.bot) (n) T.cursor.sty) } : TS) = T342 at hN334 hL342
    have hM342 := hL342
    obtain ⟨⟨hwa342, hwb342⟩, ⟨hha342, hhb342⟩, ⟨hgw342, hgh342⟩, ⟨how342, hoh342⟩, ⟨⟨hcx342, hcX342⟩, hcy342, hcY342⟩, ⟨⟨hsx342, hsX342⟩, hsy342, hsY342⟩, ⟨⟨hax342, haX342⟩, hay342, haY342⟩, ⟨htp342, htb342, hbh342⟩, hbk342, hrp342⟩ := hM342
    obtain ⟨g342, o342, ba342, bn342, bc342, pa342, pn342, pc342, F1342, F2342, FB342, FP342, hI336⟩ := hN334
    obtain ⟨gv342, hgd343⟩ := hI336.g1.head
    have htg344 : Df t g342 := fun e => hI336.t1 (e ▸ hI336.g1.inF)
    refine x_killed <| yDe (nB (yR0' ?_))
    have hX345 : Ch F w313 w337 := Ch.trans hX335 (Ch.refl (fun j => j = t) w337) (fun i _ h => h ▸ hFt)
    have hA346 : TermAt w337 t T342 (more F w313 w337) := ⟨_, _, _, _, _, _, _, _, _, _, _, _, hI336.mono (fun b hb => hb.elim .inl (fun h2 => .inr ⟨h2.1, by have := Ch.size (Ch.refl (fun j => j = t) w337); omega⟩)) (hI324.moreOk hX345.size)⟩
    subst hE342
    refine ⟨rfl, TermAt.eq' (hA346.mono (more_le hpre326.size) (hI.moreOk (Nat.le_trans hpre326.size hX345.size))) ?_, Ch.trans hpre326 hX345 iZ⟩
    simp only [editT, eq_true hpp0, eq_false hpp1, eq_false hpp2, eq_false hpp3, eq_false hpp4, eq_false hpp5, hpp6, eq_true hpp7, ↓reduceIte, Int.reduceEq, Int.reduceLT, Int.reduceLE, Bool.and_true, Bool.true_and, Bool.and_false, Bool.false_and, Bool.false_eq_true, Bool.true_eq_false, and_true, true_and, and_false, false_and, or_true, true_or, or_false, false_or]
   have hpp7 := hC312
   refine x_skip (nB (yR0' ?_))
   have hI347 := hI.scalar (T' := T) hS50 ht52 rfl rfl rfl rfl
   have hX348 : Ch F w w47 := Ch.trans (Ch.refl F w) hS50 (fun i _ h => h ▸ hFt)
   have hA349 : TermAt w47 t T (more F w w47) := ⟨_, _, _, _, _, _, _, _, _, _, _, _, hI347.mono (fun _ h => .inl h) (hI.moreOk hX348.size)⟩
   refine ⟨rfl, TermAt.eq' hA349 ?_, hX348⟩
   simp only [editT, eq_true hpp0, eq_false hpp1, eq_false hpp2, eq_false hpp3, eq_false hpp4, eq_false hpp5, hpp6, eq_false hpp7, ↓reduceIte, Int.reduceEq, Int.reduceLT, Int.reduceLE, Bool.and_true, Bool.true_and, Bool.and_false, Bool.false_and, Bool.false_eq_true, Bool.true_eq_false, and_true, true_and, and_false, false_and, or_true, true_or, or_false, false_or]
  have hpp6 := hC311
  refine ysr <| yp 2 [] .z <| ye <| yc (rE ac.last 77) (fun hC350 => ?_) fun hC350 => ?_
  ·have hpp7 := hC350
   refine ysr <| yp 1 [] .z <| ye <| yc (rL T.cursor.y T.bot) (fun hC351 => ?_) fun hC351 => ?_
   ·have hpp8 := hC351
    refine yD [11] fun w352 hH353 hc354 => ?_
    have hS355 := Ch.trans hS50 hc354 eZ
    have ht357 := ht52.ch hc354 id
    have hT359 := lt_ch hc354 hT54 (fun _ h => h.elim)
    have hB361 := hB56.ch hc354 id
    have hB362 := hB48.ch hc354 id
    refine yd (uL 0 11) [] (.l (ht357.c 0) (.l (ht357.c 27) (.a (hB362.cs 0 5) .z))) ?_
    have hI363 := hI.scalar (T' := T) hS355 ht357 rfl rfl rfl rfl
    have hA364 : TermAt w352 t T F := ⟨_, _, _, _, _, _, _, _, _, _, _, _, hI363⟩
    have hpre365 : Ch F w w352 := hS355.mono (fun i _ h => h ▸ hFt)
    have hly366 := hB361.lt
    have hly367 := hB362.lt
    have hX368 : Ch F w352 w352 := Ch.trans (Ch.refl F w352) (Ch.refl (fun j => j = t) w352) (fun i _ h => h ▸ hFt)
    have hA369 : TermAt w352 t T (more F w352 w352) := ⟨_, _, _, _, _, _, _, _, _, _, _, _, hI363.mono (fun _ h => .inl h) (hI363.moreOk hX368.size)⟩
    have hI370 := hI363.mono (F' := more F w352 w352) (fun _ h => .inl h) (hI363.moreOk hX368.size)
    refine yK 11 (yC (up_any2 _ _ _ (T.cursor.y) (T.bot) (n) T.cursor.sty _ hT359.tb hI370.g1) ?_)
    rintro _ w377 ⟨uv376, rfl, hG371, hc372⟩
    refine ⟨_, rfl, ?_⟩
    obtain ⟨hN373, hX374⟩ := TermAt.next hA364 hX368 (hI370.chF hc372) ⟨_, _, _, _, _, _, _, _, _, _, _, _, hI370.grid1 hc372 hG371 (fun _ h => h)⟩
    have hc372m := hI370.chF hc372
    have hL382 : Lim W H ({ T with grid := (upG T.grid (T.cursor.y) (T.bot) (n) T.cursor.sty) } : TS) := hL.grid ⟨rfl, rfl⟩
    generalize hE382 : ({ T with grid := (upG T.grid (T.cursor.y) (T.bot) (n) T.cursor.sty) } : TS) = T382 at hN373 hL382
    have hM382 := hL382
    obtain ⟨⟨hwa382, hwb382⟩, ⟨hha382, hhb382⟩, ⟨hgw382, hgh382⟩, ⟨how382, hoh382⟩, ⟨⟨hcx382, hcX382⟩, hcy382, hcY382⟩, ⟨⟨hsx382, hsX382⟩, hsy382, hsY382⟩, ⟨⟨hax382, haX382⟩, hay382, haY382⟩, ⟨htp382, htb382, hbh382⟩, hbk382, hrp382⟩ := hM382
    obtain ⟨g382, o382, ba382, bn382, bc382, pa382, pn382, pc382, F1382, F2382, FB382, FP382, hI375⟩ := hN373
    obtain ⟨gv382, hgd383⟩ := hI375.g1.head
    have htg384 : Df t g382 := fun e => hI375.t1 (e ▸ hI375.g1.inF)
    refine x_killed <| yDe (nB (yR0' ?_))
    have hX385 : Ch F w352 w377 := Ch.trans hX374 (Ch.refl (fun j => j = t) w377) (fun i _ h => h ▸ hFt)
    have hA386 : TermAt w377 t T382 (more F w352 w377) := ⟨_, _, _, _, _, _, _, _, _, _, _, _, hI375.mono (fun b hb => hb.elim .inl (fun h2 => .inr ⟨h2.1, by have := Ch.size (Ch.refl (fun j => j = t) w377); omega⟩)) (hI363.moreOk hX385.size)⟩
    subst hE382
    refine ⟨rfl, TermAt.eq' (hA386.mono (more_le hpre365.size) (hI.moreOk (Nat.le_trans hpre365.size hX385.size))) ?_, Ch.trans hpre365 hX385 iZ⟩
    simp only [editT, eq_true hpp0, eq_false hpp1, eq_false hpp2, eq_false hpp3, eq_false hpp4, eq_false hpp5, eq_false hpp6, hpp7, eq_true hpp8, ↓reduceIte, Int.reduceEq, Int.reduceLT, Int.reduceLE, Bool.and_true, Bool.true_and, Bool.and_false, Bool.false_and, Bool.false_eq_true, Bool.true_eq_false, and_true, true_and, and_false, false_and, or_true, true_or, or_false, false_or]
   have hpp8 := hC351
   refine x_skip (nB (yR0' ?_))
   have hI387 := hI.scalar (T' := T) hS50 ht52 rfl rfl rfl rfl
   have hX388 : Ch F w w47 := Ch.trans (Ch.refl F w) hS50 (fun i _ h => h ▸ hFt)
   have hA389 : TermAt w47 t T (more F w w47) := ⟨_, _, _, _, _, _, _, _, _, _, _, _, hI387.mono (fun _ h => .inl h) (hI.moreOk hX388.size)⟩
   refine ⟨rfl, TermAt.eq' hA389 ?_, hX388⟩
   simp only [editT, eq_true hpp0, eq_false hpp1, eq_false hpp2, eq_false hpp3, eq_false hpp4, eq_false hpp5, eq_false hpp6, hpp7, eq_false hpp8, ↓reduceIte, Int.reduceEq, Int.reduceLT, Int.reduceLE, Bool.and_true, Bool.true_and, Bool.and_false, Bool.false_and, Bool.false_eq_true, Bool.true_eq_false, and_true, true_and, and_false, false_and, or_true, true_or, or_false, false_or]
  have hpp7 := hC350
  refine ysr <| yp 2 [] .z <| ye <| yc (rE ac.last 83) (fun hC390 => ?_) fun hC390 => ?_
  ·have hpp8 := hC390
   refine x_region <| yp 2 [] .z ?_
   have hI391 := hI.scalar (T' := T) hS50 ht52 rfl rfl rfl rfl
   have hA392 : TermAt w47 t T F := ⟨_, _, _, _, _, _, _, _, _, _, _, _, hI391⟩
   have hpre393 : Ch F w w47 := hS50.mono (fun i _ h => h ▸ hFt)
   have hly394 := hB56.lt
   have hly395 := hB48.lt
   have hX396 : Ch F w47 w47 := Ch.trans (Ch.refl F w47) (Ch.refl (fun j => j = t) w47) (fun i _ h => h ▸ hFt)
   have hA397 : TermAt w47 t T (more F w47 w47) := ⟨_, _, _, _, _, _, _, _, _, _, _, _, hI391.mono (fun _ h => .inl h) (hI391.moreOk hX396.size)⟩
   refine yo (yQ (scroll_lim hA397 hT54.tb hL  (n)) ?_)
   rintro w403 ⟨hB398, hc399⟩
   obtain ⟨hN400, hX401⟩ := TermAt.next hA392 hX396 hc399 hB398
   have hL408 : Lim W H (scrollT T (n)) := (lim_scroll hL (n))
   generalize hE408 : (scrollT T (n)) = T408 at hN400 hL408
   have hM408 := hL408
   obtain ⟨⟨hwa408, hwb408⟩, ⟨hha408, hhb408⟩, ⟨hgw408, hgh408⟩, ⟨how408, hoh408⟩, ⟨⟨hcx408, hcX408⟩, hcy408, hcY408⟩, ⟨⟨hsx408, hsX408⟩, hsy408, hsY408⟩, ⟨⟨hax408, haX408⟩, hay408, haY408⟩, ⟨htp408, htb408, hbh408⟩, hbk408, hrp408⟩ := hM408
   obtain ⟨g408, o408, ba408, bn408, bc408, pa408, pn408, pc408, F1408, F2408, FB408, FP408, hI402⟩ := hN400
   obtain ⟨gv408, hgd409⟩ := hI402.g1.head
   have htg410 : Df t g408 := fun e => hI402.t1 (e ▸ hI402.g1.inF)
   refine yE (nB (yR0' ?_))
   have hX411 : Ch F w47 w403 := Ch.trans hX401 (Ch.refl (fun j => j = t) w403) (fun i _ h => h ▸ hFt)
   have hA412 : TermAt w403 t T408 (more F w47 w403) := ⟨_, _, _, _, _, _, _, _, _, _, _, _, hI402.mono (fun b hb => hb.elim .inl (fun h2 => .inr ⟨h2.1, by have := Ch.size (Ch.refl (fun j => j = t) w403); omega⟩)) (hI391.moreOk hX411.size)⟩
   subst hE408
   refine ⟨rfl, TermAt.eq' (hA412.mono (more_le hpre393.size) (hI.moreOk (Nat.le_trans hpre393.size hX411.size))) ?_, Ch.trans hpre393 hX411 iZ⟩
   simp only [editT, eq_true hpp0, eq_false hpp1, eq_false hpp2, eq_false hpp3, eq_false hpp4, eq_false hpp5, eq_false hpp6, eq_false hpp7, hpp8, ↓reduceIte, Int.reduceEq, Int.reduceLT, Int.reduceLE, Bool.and_true, Bool.true_and, Bool.and_false, Bool.false_and, Bool.false_eq_true, Bool.true_eq_false, and_true, true_and, and_false, false_and, or_true, true_or, or_false, false_or]
  have hpp8 := hC390
  refine ysr <| yp 2 [] .z <| ye <| yc (rE ac.last 84) (fun hC413 => ?_) fun hC413 => ?_
  ·have hpp9 := hC413
   refine yD [14] fun w414 hH415 hc416 => ?_
   have hS417 := Ch.trans hS50 hc416 eZ
   have ht419 := ht52.ch hc416 id
   have hT421 := lt_ch hc416 hT54 (fun _ h => h.elim)
   have hB423 := hB56.ch hc416 id
   have hB424 := hB48.ch hc416 id
   refine yd (uL 0 14) [] (.l (ht419.c 0) (.l (ht419.c 26) (.l (ht419.c 27) (.a (hB424.cs 0 5) .z)))) ?_
   have hI425 := hI.scalar (T' := T) hS417 ht419 rfl rfl rfl rfl
   have hA426 : TermAt w414 t T F := ⟨_, _, _, _, _, _, _, _, _, _, _, _, hI425⟩
   have hpre427 : Ch F w w414 := hS417.mono (fun i _ h => h ▸ hFt)
   have hly428 := hB423.lt
   have hly429 := hB424.lt
   have hX430 : Ch F w414 w414 := Ch.trans (Ch.refl F w414) (Ch.refl (fun j => j = t) w414) (fun i _ h => h ▸ hFt)
   have hA431 : TermAt w414 t T (more F w414 w414) := ⟨_, _, _, _, _, _, _, _, _, _, _, _, hI425.mono (fun _ h => .inl h) (hI425.moreOk hX430.size)⟩
   have hI432 := hI425.mono (F' := more F w414 w414) (fun _ h => .inl h) (hI425.moreOk hX430.size)
   refine yK 14 (yQ (down_any _ _ _ (T.top) (T.bot) (n) T.cursor.sty _ hT421.tb hI432.g1) ?_)
   rintro w438 ⟨hG433, hc434⟩
   obtain ⟨hN435, hX436⟩ := TermAt.next hA426 hX430 (hI432.chF hc434) ⟨_, _, _, _, _, _, _, _, _, _, _, _, hI432.grid1 hc434 hG433 (fun _ h => h)⟩
   have hc434m := hI432.chF hc434
   have hL443 : Lim W H ({ T with grid := (downG T.grid (T.top) (T.bot) (n) T.cursor.sty) } : TS) := hL.grid ⟨rfl, rfl⟩
   generalize hE443 : ({ T with grid := (downG T.grid (T.top) (T.bot) (n) T.cursor.sty) } : TS) = T443 at hN435 hL443
   have hM443 := hL443
   obtain ⟨⟨hwa443, hwb443⟩, ⟨hha443, hhb443⟩, ⟨hgw443, hgh443⟩, ⟨how443, hoh443⟩, ⟨⟨hcx443, hcX443⟩, hcy443, hcY443⟩, ⟨⟨hsx443, hsX443⟩, hsy443, hsY443⟩, ⟨⟨hax443, haX443⟩, hay443, haY443⟩, ⟨htp443, htb443, hbh443⟩, hbk443, hrp443⟩ := hM443
   obtain ⟨g443, o443, ba443, bn443, bc443, pa443, pn443, pc443, F1443, F2443, FB443, FP443, hI437⟩ := hN435
   obtain ⟨gv443, hgd444⟩ := hI437.g1.head
   have htg445 : Df t g443 := fun e => hI437.t1 (e ▸ hI437.g1.inF)
   refine x_killed <| yDe (nB (yR0' ?_))
   have hX446 : Ch F w414 w438 := Ch.trans hX436 (Ch.refl (fun j => j = t) w438) (fun i _ h => h ▸ hFt)
   have hA447 : TermAt w438 t T443 (more F w414 w438) := ⟨_, _, _, _, _, _, _, _, _, _, _, _, hI437.mono (fun b hb => hb.elim .inl (fun h2 => .inr ⟨h2.1, by have := Ch.size (Ch.refl (fun j => j = t) w438); omega⟩)) (hI425.moreOk hX446.size)⟩
   subst hE443
   refine ⟨rfl, TermAt.eq' (hA447.mono (more_le hpre427.size) (hI.moreOk (Nat.le_trans hpre427.size hX446.size))) ?_, Ch.trans hpre427 hX446 iZ⟩
   simp only [editT, eq_true hpp0, eq_false hpp1, eq_false hpp2, eq_false hpp3, eq_false hpp4, eq_false hpp5, eq_false hpp6, eq_false hpp7, eq_false hpp8, hpp9, ↓reduceIte, Int.reduceEq, Int.reduceLT, Int.reduceLE, Bool.and_true, Bool.true_and, Bool.and_false, Bool.false_and, Bool.false_eq_true, Bool.true_eq_false, and_true, true_and, and_false, false_and, or_true, true_or, or_false, false_or]
  have hpp9 := hC413
  refine x_region <| yp 2 [] (.a (hB56.cs 0 6) .z) ?_
  have hI448 := hI.scalar (T' := T) hS50 ht52 rfl rfl rfl rfl
  have hA449 : TermAt w47 t T F := ⟨_, _, _, _, _, _, _, _, _, _, _, _, hI448⟩
  have hpre450 : Ch F w w47 := hS50.mono (fun i _ h => h ▸ hFt)
  have hly451 := hB56.lt
  have hly452 := hB48.lt
  have hX453 : Ch F w47 w47 := Ch.trans (Ch.refl F w47) (Ch.refl (fun j => j = t) w47) (fun i _ h => h ▸ hFt)
  have hA454 : TermAt w47 t T (more F w47 w47) := ⟨_, _, _, _, _, _, _, _, _, _, _, _, hI448.mono (fun _ h => .inl h) (hI448.moreOk hX453.size)⟩
  have hVa455 := hV55.mono (K' := fun b => ¬ more F w47 w47 b ∧ b < w47.heap.size) (fun b hb => ⟨fun h => h.elim hb.1 (fun h => by have := hb.2; have := Ch.size hpre450; omega), by have := hb.2; have := Ch.size hX453; have := Ch.size hpre450; omega⟩)
  refine yo (yQ (tell_at hA454 hT54 hL  hVa455 hV8 hVb) ?_)
  rintro w461 ⟨hB456, hc457⟩
  obtain ⟨hN458, hX459⟩ := TermAt.next hA449 hX453 hc457 hB456
  have hL466 : Lim W H (tellT T ac.last (firstI ac.params)) := (lim_tell hL _ _)
  generalize hE466 : (tellT T ac.last (firstI ac.params)) = T466 at hN458 hL466
  have hM466 := hL466
  obtain ⟨⟨hwa466, hwb466⟩, ⟨hha466, hhb466⟩, ⟨hgw466, hgh466⟩, ⟨how466, hoh466⟩, ⟨⟨hcx466, hcX466⟩, hcy466, hcY466⟩, ⟨⟨hsx466, hsX466⟩, hsy466, hsY466⟩, ⟨⟨hax466, haX466⟩, hay466, haY466⟩, ⟨htp466, htb466, hbh466⟩, hbk466, hrp466⟩ := hM466
  obtain ⟨g466, o466, ba466, bn466, bc466, pa466, pn466, pc466, F1466, F2466, FB466, FP466, hI460⟩ := hN458
  obtain ⟨gv466, hgd467⟩ := hI460.g1.head
  have htg468 : Df t g466 := fun e => hI460.t1 (e ▸ hI460.g1.inF)
  refine yE (nB (yR0' ?_))
  have hX469 : Ch F w47 w461 := Ch.trans hX459 (Ch.refl (fun j => j = t) w461) (fun i _ h => h ▸ hFt)
  have hA470 : TermAt w461 t T466 (more F w47 w461) := ⟨_, _, _, _, _, _, _, _, _, _, _, _, hI460.mono (fun b hb => hb.elim .inl (fun h2 => .inr ⟨h2.1, by have := Ch.size (Ch.refl (fun j => j = t) w461); omega⟩)) (hI448.moreOk hX469.size)⟩
  subst hE466
  refine ⟨rfl, TermAt.eq' (hA470.mono (more_le hpre450.size) (hI.moreOk (Nat.le_trans hpre450.size hX469.size))) ?_, Ch.trans hpre450 hX469 iZ⟩
  simp only [editT, eq_true hpp0, eq_false hpp1, eq_false hpp2, eq_false hpp3, eq_false hpp4, eq_false hpp5, eq_false hpp6, eq_false hpp7, eq_false hpp8, eq_false hpp9, ↓reduceIte, Int.reduceEq, Int.reduceLT, Int.reduceLE, Bool.and_true, Bool.true_and, Bool.and_false, Bool.false_and, Bool.false_eq_true, Bool.true_eq_false, and_true, true_and, and_false, false_and, or_true, true_or, or_false, false_or]
 have hpp0 := hC57
 refine yp 15 [] .z <| ye <| ysr <| yp 2 [] (.l (hB56.c 2) .z) <| ye <| x_block <| ysr <| yp 2 [] .z <| ye <| yc (rE ac.last 64) (fun hC471 => ?_) fun hC471 => ?_
 ·have hpp1 := hC471
  refine yD [8] fun w472 hH473 hc474 => ?_
  have hS475 := Ch.trans hS50 hc474 eZ
  have ht477 := ht52.ch hc474 id
  have hT479 := lt_ch hc474 hT54 (fun _ h => h.elim)
  have hB481 := hB56.ch hc474 id
  have hB482 := hB48.ch hc474 id
  refine yd (uL 0 8) [] (.l (ht477.c 0) (.a (hB482.cs 0 5) .z)) ?_
  have hI483 := hI.scalar (T' := T) hS475 ht477 rfl rfl rfl rfl
  have hA484 : TermAt w472 t T F := ⟨_, _, _, _, _, _, _, _, _, _, _, _, hI483⟩
  have hpre485 : Ch F w w472 := hS475.mono (fun i _ h => h ▸ hFt)
  have hly486 := hB481.lt
  have hly487 := hB482.lt
  have hX488 : Ch F w472 w472 := Ch.trans (Ch.refl F w472) (Ch.refl (fun j => j = t) w472) (fun i _ h => h ▸ hFt)
  have hA489 : TermAt w472 t T (more F w472 w472) := ⟨_, _, _, _, _, _, _, _, _, _, _, _, hI483.mono (fun _ h => .inl h) (hI483.moreOk hX488.size)⟩
  have hI490 := hI483.mono (F' := more F w472 w472) (fun _ h => .inl h) (hI483.moreOk hX488.size)
  refine yK 8 (yQ (open_any _ _ _ (T.cursor.x) (T.cursor.y) (n) T.cursor.sty _ hT479.tb hI490.g1) ?_)
  rintro w496 ⟨hG491, hc492⟩
  obtain ⟨hN493, hX494⟩ := TermAt.next hA484 hX488 (hI490.chF hc492) ⟨_, _, _, _, _, _, _, _, _, _, _, _, hI490.grid1 hc492 hG491 (fun _ h => h)⟩
  have hc492m := hI490.chF hc492
  have hL501 : Lim W H ({ T with grid := (openG T.grid (T.cursor.x) (T.cursor.y) (n) T.cursor.sty) } : TS) := hL.grid (openG_w _ _ _ _ _)
  generalize hE501 : ({ T with grid := (openG T.grid (T.cursor.x) (T.cursor.y) (n) T.cursor.sty) } : TS) = T501 at hN493 hL501
  have hM501 := hL501
  obtain ⟨⟨hwa501, hwb501⟩, ⟨hha501, hhb501⟩, ⟨hgw501, hgh501⟩, ⟨how501, hoh501⟩, ⟨⟨hcx501, hcX501⟩, hcy501, hcY501⟩, ⟨⟨hsx501, hsX501⟩, hsy501, hsY501⟩, ⟨⟨hax501, haX501⟩, hay501, haY501⟩, ⟨htp501, htb501, hbh501⟩, hbk501, hrp501⟩ := hM501
  obtain ⟨g501, o501, ba501, bn501, bc501, pa501, pn501, pc501, F1501, F2501, FB501, FP501, hI495⟩ := hN493
  obtain ⟨gv501, hgd502⟩ := hI495.g1.head
  have htg503 : Df t g501 := fun e => hI495.t1 (e ▸ hI495.g1.inF)
  refine x_killed <| yDe (nB (yR0' ?_))
  have hX504 : Ch F w472 w496 := Ch.trans hX494 (Ch.refl (fun j => j = t) w496) (fun i _ h => h ▸ hFt)
  have hA505 : TermAt w496 t T501 (more F w472 w496) := ⟨_, _, _, _, _, _, _, _, _, _, _, _, hI495.mono (fun b hb => hb.elim .inl (fun h2 => .inr ⟨h2.1, by have := Ch.size (Ch.refl (fun j => j = t) w496); omega⟩)) (hI483.moreOk hX504.size)⟩
  subst hE501
  refine ⟨rfl, TermAt.eq' (hA505.mono (more_le hpre485.size) (hI.moreOk (Nat.le_trans hpre485.size hX504.size))) ?_, Ch.trans hpre485 hX504 iZ⟩
  simp only [editT, eq_false hpp0, hpp1, ↓reduceIte, Int.reduceEq, Int.reduceLT, Int.reduceLE, Bool.and_true, Bool.true_and, Bool.and_false, Bool.false_and, Bool.false_eq_true, Bool.true_eq_false, and_true, true_and, and_false, false_and, or_true, true_or, or_false, false_or]
 have hpp1 := hC471
 refine ysr <| yp 2 [] .z <| ye <| yc (rE ac.last 80) (fun hC506 => ?_) fun hC506 => ?_
 ·have hpp2 := hC506
  refine yD [8] fun w507 hH508 hc509 => ?_
  have hS510 := Ch.trans hS50 hc509 eZ
  have ht512 := ht52.ch hc509 id
  have hT514 := lt_ch hc509 hT54 (fun _ h => h.elim)
  have hB516 := hB56.ch hc509 id
  have hB517 := hB48.ch hc509 id
  refine yd (uL 0 8) [] (.l (ht512.c 0) (.a (hB517.cs 0 5) .z)) ?_
  have hI518 := hI.scalar (T' := T) hS510 ht512 rfl rfl rfl rfl
  have hA519 : TermAt w507 t T F := ⟨_, _, _, _, _, _, _, _, _, _, _, _, hI518⟩
  have hpre520 : Ch F w w507 := hS510.mono (fun i _ h => h ▸ hFt)
  have hly521 := hB516.lt
  have hly522 := hB517.lt
  have hX523 : Ch F w507 w507 := Ch.trans (Ch.refl F w507) (Ch.refl (fun j => j = t) w507) (fun i _ h => h ▸ hFt)
  have hA524 : TermAt w507 t T (more F w507 w507) := ⟨_, _, _, _, _, _, _, _, _, _, _, _, hI518.mono (fun _ h => .inl h) (hI518.moreOk hX523.size)⟩
  have hI525 := hI518.mono (F' := more F w507 w507) (fun _ h => .inl h) (hI518.moreOk hX523.size)
  refine yK 8 (yQ (shut_any _ _ _ (T.cursor.x) (T.cursor.y) (n) T.cursor.sty _ hT514.tb hI525.g1) ?_)
  rintro w531 ⟨hG526, hc527⟩
  obtain ⟨hN528, hX529⟩ := TermAt.next hA519 hX523 (hI525.chF hc527) ⟨_, _, _, _, _, _, _, _, _, _, _, _, hI525.grid1 hc527 hG526 (fun _ h => h)⟩
  have hc527m := hI525.chF hc527
  have hL536 : Lim W H ({ T with grid := (shutG T.grid (T.cursor.x) (T.cursor.y) (n) T.cursor.sty) } : TS) := hL.grid (shutG_w _ _ _ _ _)
  generalize hE536 : ({ T with grid := (shutG T.grid (T.cursor.x) (T.cursor.y) (n) T.cursor.sty) } : TS) = T536 at hN528 hL536
  have hM536 := hL536
  obtain ⟨⟨hwa536, hwb536⟩, ⟨hha536, hhb536⟩, ⟨hgw536, hgh536⟩, ⟨how536, hoh536⟩, ⟨⟨hcx536, hcX536⟩, hcy536, hcY536⟩, ⟨⟨hsx536, hsX536⟩, hsy536, hsY536⟩, ⟨⟨hax536, haX536⟩, hay536, haY536⟩, ⟨htp536, htb536, hbh536⟩, hbk536, hrp536⟩ := hM536
  obtain ⟨g536, o536, ba536, bn536, bc536, pa536, pn536, pc536, F1536, F2536, FB536, FP536, hI530⟩ := hN528
  obtain ⟨gv536, hgd537⟩ := hI530.g1.head
  have htg538 : Df t g536 := fun e => hI530.t1 (e ▸ hI530.g1.inF)
  refine x_killed <| yDe (nB (yR0' ?_))
  have hX539 : Ch F w507 w531 := Ch.trans hX529 (Ch.refl (fun j => j = t) w531) (fun i _ h => h ▸ hFt)
  have hA540 : TermAt w531 t T536 (more F w507 w531) := ⟨_, _, _, _, _, _, _, _, _, _, _, _, hI530.mono (fun b hb => hb.elim .inl (fun h2 => .inr ⟨h2.1, by have := Ch.size (Ch.refl (fun j => j = t) w531); omega⟩)) (hI518.moreOk hX539.size)⟩
  subst hE536
  refine ⟨rfl, TermAt.eq' (hA540.mono (more_le hpre520.size) (hI.moreOk (Nat.le_trans hpre520.size hX539.size))) ?_, Ch.trans hpre520 hX539 iZ⟩
  simp only [editT, eq_false hpp0, eq_false hpp1, hpp2, ↓reduceIte, Int.reduceEq, Int.reduceLT, Int.reduceLE, Bool.and_true, Bool.true_and, Bool.and_false, Bool.false_and, Bool.false_eq_true, Bool.true_eq_false, and_true, true_and, and_false, false_and, or_true, true_or, or_false, false_or]
 have hpp2 := hC506
 refine ysr <| yp 2 [] .z <| ye <| yc (rE ac.last 88) (fun hC541 => ?_) fun hC541 => ?_
 ·have hpp3 := hC541
  refine yD [10] fun w542 hH543 hc544 => ?_
  have hS545 := Ch.trans hS50 hc544 eZ
  have ht547 := ht52.ch hc544 id
  have hT549 := lt_ch hc544 hT54 (fun _ h => h.elim)
  have hB551 := hB56.ch hc544 id
  have hB552 := hB48.ch hc544 id
  refine yd (uL 0 10) [] (.l (ht547.c 0) (.q6 (T.cursor.x + n) (.a (hB552.cs 0 5) .z))) ?_
  have hI553 := hI.scalar (T' := T) hS545 ht547 rfl rfl rfl rfl
  have hA554 : TermAt w542 t T F := ⟨_, _, _, _, _, _, _, _, _, _, _, _, hI553⟩
  have hpre555 : Ch F w w542 := hS545.mono (fun i _ h => h ▸ hFt)
  have hly556 := hB551.lt
  have hly557 := hB552.lt
  have hX558 : Ch F w542 w542 := Ch.trans (Ch.refl F w542) (Ch.refl (fun j => j = t) w542) (fun i _ h => h ▸ hFt)
  have hA559 : TermAt w542 t T (more F w542 w542) := ⟨_, _, _, _, _, _, _, _, _, _, _, _, hI553.mono (fun _ h => .inl h) (hI553.moreOk hX558.size)⟩
  have hI560 := hI553.mono (F' := more F w542 w542) (fun _ h => .inl h) (hI553.moreOk hX558.size)
  refine yK 10 (yQ (clear_any _ _ _ (T.cursor.y) (T.cursor.x) ((T.cursor.x + n)) T.cursor.sty _ hT549.tb hI560.g1) ?_)
  rintro w566 ⟨hG561, hc562⟩
  obtain ⟨hN563, hX564⟩ := TermAt.next hA554 hX558 (hI560.chF hc562) ⟨_, _, _, _, _, _, _, _, _, _, _, _, hI560.grid1 hc562 hG561 (fun _ h => h)⟩
  have hc562m := hI560.chF hc562
  have hL571 : Lim W H ({ T with grid := (clearG T.grid (T.cursor.y) (T.cursor.x) ((T.cursor.x + n)) T.cursor.sty) } : TS) := hL.grid (clearG_w _ _ _ _ _)
  generalize hE571 : ({ T with grid := (clearG T.grid (T.cursor.y) (T.cursor.x) ((T.cursor.x + n)) T.cursor.sty) } : TS) = T571 at hN563 hL571
  have hM571 := hL571
  obtain ⟨⟨hwa571, hwb571⟩, ⟨hha571, hhb571⟩, ⟨hgw571, hgh571⟩, ⟨how571, hoh571⟩, ⟨⟨hcx571, hcX571⟩, hcy571, hcY571⟩, ⟨⟨hsx571, hsX571⟩, hsy571, hsY571⟩, ⟨⟨hax571, haX571⟩, hay571, haY571⟩, ⟨htp571, htb571, hbh571⟩, hbk571, hrp571⟩ := hM571
  obtain ⟨g571, o571, ba571, bn571, bc571, pa571, pn571, pc571, F1571, F2571, FB571, FP571, hI565⟩ := hN563
  obtain ⟨gv571, hgd572⟩ := hI565.g1.head
  have htg573 : Df t g571 := fun e => hI565.t1 (e ▸ hI565.g1.inF)
  refine x_killed <| yDe (nB (yR0' ?_))
  have hX574 : Ch F w542 w566 := Ch.trans hX564 (Ch.refl (fun j => j = t) w566) (fun i _ h => h ▸ hFt)
  have hA575 : TermAt w566 t T571 (more F w542 w566) := ⟨_, _, _, _, _, _, _, _, _, _, _, _, hI565.mono (fun b hb => hb.elim .inl (fun h2 => .inr ⟨h2.1, by have := Ch.size (Ch.refl (fun j => j = t) w566); omega⟩)) (hI553.moreOk hX574.size)⟩
  subst hE571
  refine ⟨rfl, TermAt.eq' (hA575.mono (more_le hpre555.size) (hI.moreOk (Nat.le_trans hpre555.size hX574.size))) ?_, Ch.trans hpre555 hX574 iZ⟩
  simp only [editT, eq_false hpp0, eq_false hpp1, eq_false hpp2, hpp3, ↓reduceIte, Int.reduceEq, Int.reduceLT, Int.reduceLE, Bool.and_true, Bool.true_and, Bool.and_false, Bool.false_and, Bool.false_eq_true, Bool.true_eq_false, and_true, true_and, and_false, false_and, or_true, true_or, or_false, false_or]
 have hpp3 := hC541
 refine ysr <| yp 2 [] .z <| ye <| yc (rE ac.last 75) (fun hC576 => ?_) fun hC576 => ?_
 ·have hpp4 := hC576
  refine x_region <| yp 2 [] (.a (hB56.cs 0 6) .z) <| yo (yQ (first_act hV55 ac rfl) fun w578 hc577 => ?_)
  have hS579 := Ch.trans hS50 hc577 eZ
  have ht581 := ht52.ch hc577 id
  have hT583 := lt_ch hc577 hT54 (fun _ h => h.elim)
  have hB585 := hB56.ch hc577 id
  have hB586 := hB48.ch hc577 id
  refine yp 6 [] (.q6 (T.cursor.y + 1) .z) ?_
  have hI587 := hI.scalar (T' := T) hS579 ht581 rfl rfl rfl rfl
  have hA588 : TermAt w578 t T F := ⟨_, _, _, _, _, _, _, _, _, _, _, _, hI587⟩
  have hpre589 : Ch F w w578 := hS579.mono (fun i _ h => h ▸ hFt)
  have hly590 := hB585.lt
  have hly591 := hB586.lt
  have hX592 : Ch F w578 w578 := Ch.trans (Ch.refl F w578) (Ch.refl (fun j => j = t) w578) (fun i _ h => h ▸ hFt)
  have hA593 : TermAt w578 t T (more F w578 w578) := ⟨_, _, _, _, _, _, _, _, _, _, _, _, hI587.mono (fun _ h => .inl h) (hI587.moreOk hX592.size)⟩
  refine yo (yQ (erase_at hA593 hT583 hL  ((firstI ac.params)) (T.cursor.y) ((T.cursor.y + 1)) (by constructor <;> omega)) ?_)
  rintro w599 ⟨hB594, hc595⟩
  obtain ⟨hN596, hX597⟩ := TermAt.next hA588 hX592 hc595 hB594
  have hL604 : Lim W H (eraseT T ((firstI ac.params)) (T.cursor.y) ((T.cursor.y + 1))) := (lim_erase hL ((firstI ac.params)) (T.cursor.y) ((T.cursor.y + 1)))
  generalize hE604 : (eraseT T ((firstI ac.params)) (T.cursor.y) ((T.cursor.y + 1))) = T604 at hN596 hL604
  have hM604 := hL604
  obtain ⟨⟨hwa604, hwb604⟩, ⟨hha604, hhb604⟩, ⟨hgw604, hgh604⟩, ⟨how604, hoh604⟩, ⟨⟨hcx604, hcX604⟩, hcy604, hcY604⟩, ⟨⟨hsx604, hsX604⟩, hsy604, hsY604⟩, ⟨⟨hax604, haX604⟩, hay604, haY604⟩, ⟨htp604, htb604, hbh604⟩, hbk604, hrp604⟩ := hM604
  obtain ⟨g604, o604, ba604, bn604, bc604, pa604, pn604, pc604, F1604, F2604, FB604, FP604, hI598⟩ := hN596
  obtain ⟨gv604, hgd605⟩ := hI598.g1.head
  have htg606 : Df t g604 := fun e => hI598.t1 (e ▸ hI598.g1.inF)
  refine yE (nB (yR0' ?_))
  have hX607 : Ch F w578 w599 := Ch.trans hX597 (Ch.refl (fun j => j = t) w599) (fun i _ h => h ▸ hFt)
  have hA608 : TermAt w599 t T604 (more F w578 w599) := ⟨_, _, _, _, _, _, _, _, _, _, _, _, hI598.mono (fun b hb => hb.elim .inl (fun h2 => .inr ⟨h2.1, by have := Ch.size (Ch.refl (fun j => j = t) w599); omega⟩)) (hI587.moreOk hX607.size)⟩
  subst hE604
  refine ⟨rfl, TermAt.eq' (hA608.mono (more_le hpre589.size) (hI.moreOk (Nat.le_trans hpre589.size hX607.size))) ?_, Ch.trans hpre589 hX607 iZ⟩
  simp only [editT, eq_false hpp0, eq_false hpp1, eq_false hpp2, eq_false hpp3, hpp4, ↓reduceIte, Int.reduceEq, Int.reduceLT, Int.reduceLE, Bool.and_true, Bool.true_and, Bool.and_false, Bool.false_and, Bool.false_eq_true, Bool.true_eq_false, and_true, true_and, and_false, false_and, or_true, true_or, or_false, false_or]
 have hpp4 := hC576
 refine ysr <| yp 2 [] .z <| ye <| yc (rE ac.last 74) (fun hC609 => ?_) fun hC609 => ?_
 ·have hpp5 := hC609
  refine ys <| ysr <| yp 1 [] (.a (hB56.cs 0 6) .z) <| yo (yQ (first_act hV55 ac rfl) fun w611 hc610 => ?_)
  have hS612 := Ch.trans hS50 hc610 eZ
  have ht614 := ht52.ch hc610 id
  have hg615 := hg53.ch hc610 id
  have hT616 := lt_ch hc610 hT54 (fun _ h => h.elim)
  have hV617 := hV55.ch hc610 iZ
  have hB618 := hB56.ch hc610 id
  have hB619 := hB48.ch hc610 id
  refine yp 3 [] .z <| ye <| yc (rE (firstI ac.params) 3) (fun hC620 => ?_) fun hC620 => ?_
  ·have hpp6 := hC620
   refine x_region <| yp 3 [] .z ?_
   have hI621 := hI.scalar (T' := T) hS612 ht614 rfl rfl rfl rfl
   have hA622 : TermAt w611 t T F := ⟨_, _, _, _, _, _, _, _, _, _, _, _, hI621⟩
   have hpre623 : Ch F w w611 := hS612.mono (fun i _ h => h ▸ hFt)
   have hly624 := hB618.lt
   have hly625 := hB619.lt
   have hX626 : Ch F w611 w611 := Ch.trans (Ch.refl F w611) (Ch.refl (fun j => j = t) w611) (fun i _ h => h ▸ hFt)
   have hA627 : TermAt w611 t T (more F w611 w611) := ⟨_, _, _, _, _, _, _, _, _, _, _, _, hI621.mono (fun _ h => .inl h) (hI621.moreOk hX626.size)⟩
   have hI628 := hI621.mono (F' := more F w611 w611) (fun _ h => .inl h) (hI621.moreOk hX626.size)
   refine yo (e_store 97 [.slice none 0 0] none (by kernel_rfl) ht614 (of_ble (by kernel_rfl)) ?_)
   intro w629 hB630 hc631
   replace hB630 : Blk w629 t (TS.vals ({ T with back := [] } : TS) g o (.slice none 0 0) (.slice pa pn pc)) tTerm := Blk.to hB630 (by kernel_rfl)
   have hI632 := hI628.nilBack hc631 hB630
   obtain ⟨hN633, hX634⟩ := TermAt.next hA622 hX626 (hI628.cht hc631) ⟨_, _, _, _, _, _, _, _, _, _, _, _, hI632.mono (fun _ h => .inl h) (hI628.moreOk hc631.size)⟩
   have hT637 := lt_ch hc631 hT616 (fun b (h : b = t) => h ▸ hI.hi t hFt)
   have hV638 := hV617.ch hc631 (fun b hb (h : b = t) => hb.1 (h ▸ hFt))
   have hB639 := hB618.ch hc631 (fun (h : b11 = t) => by have := hI.blk.lt; omega)
   have hL641 : Lim W H ({ T with back := [] } : TS) := { hL with bk := by simp }
   generalize hE641 : ({ T with back := [] } : TS) = T641 at hN633 hL641
   have hM641 := hL641
   obtain ⟨⟨hwa641, hwb641⟩, ⟨hha641, hhb641⟩, ⟨hgw641, hgh641⟩, ⟨how641, hoh641⟩, ⟨⟨hcx641, hcX641⟩, hcy641, hcY641⟩, ⟨⟨hsx641, hsX641⟩, hsy641, hsY641⟩, ⟨⟨hax641, haX641⟩, hay641, haY641⟩, ⟨htp641, htb641, hbh641⟩, hbk641, hrp641⟩ := hM641
   obtain ⟨g641, o641, ba641, bn641, bc641, pa641, pn641, pc641, F1641, F2641, FB641, FP641, hI635⟩ := hN633
   obtain ⟨gv641, hgd642⟩ := hI635.g1.head
   have htg643 : Df t g641 := fun e => hI635.t1 (e ▸ hI635.g1.inF)
   refine ye <| yDC [10] fun w644 hH645 hc646 => ?_
   have hS647 := Ch.trans (Ch.refl (fun j => j = t) w629) hc646 eZ
   have hT648 := lt_ch hc646 hT637 (fun _ h => h.elim)
   have hV649 := hV638.ch hc646 iZ
   have hB650 := hB639.ch hc646 id
   have ht652 := hI635.blk.ch hc646 id
   have hg653 := hgd642.ch hc646 id
   refine ydC [0, 1, 3, 4, 5, 6, 7, 8, 9] [] (fun u hu => (.a (cellsC_ch hu (hB650.cs 0 6) id) (.l (cell_ch hu (ht652.c 0) id) (.l (cell_ch hu (hg653.c 1) id) .z)))) <| yH 2 (yQ (first_act hV649 ac rfl) fun w655 hc654 => ?_)
   have hS656 := Ch.trans hS647 hc654 eZ
   have hT657 := lt_ch hc654 hT648 (fun _ h => h.elim)
   have ht661 := ht652.ch hc654 id
   refine x_heldC hc654 ?_
   have hI663 := hI635.scalar (T' := T641) hS656 ht661 rfl rfl rfl rfl
   have hX664 : Ch F w611 w655 := Ch.trans hX634 hS656 (fun i _ h => h ▸ hFt)
   have hA665 : TermAt w655 t T641 (more F w611 w655) := ⟨_, _, _, _, _, _, _, _, _, _, _, _, hI663.mono (fun b hb => hb.elim .inl (fun h2 => .inr ⟨h2.1, by have := Ch.size hS656; omega⟩)) (hI621.moreOk hX664.size)⟩
   refine yK 10 (yQ (erase_at hA665 hT657 hL641  ((firstI ac.params)) (0) (T641.grid.h) (by constructor <;> omega)) ?_)
   rintro w671 ⟨hB666, hc667⟩
   obtain ⟨hN668, hX669⟩ := TermAt.next hA622 hX664 hc667 hB666
   have hL676 : Lim W H (eraseT T641 ((firstI ac.params)) (0) (T641.grid.h)) := (lim_erase hL641 ((firstI ac.params)) (0) (T641.grid.h))
   generalize hE676 : (eraseT T641 ((firstI ac.params)) (0) (T641.grid.h)) = T676 at hN668 hL676
   have hM676 := hL676
   obtain ⟨⟨hwa676, hwb676⟩, ⟨hha676, hhb676⟩, ⟨hgw676, hgh676⟩, ⟨how676, hoh676⟩, ⟨⟨hcx676, hcX676⟩, hcy676, hcY676⟩, ⟨⟨hsx676, hsX676⟩, hsy676, hsY676⟩, ⟨⟨hax676, haX676⟩, hay676, haY676⟩, ⟨htp676, htb676, hbh676⟩, hbk676, hrp676⟩ := hM676
   obtain ⟨g676, o676, ba676, bn676, bc676, pa676, pn676, pc676, F1676, F2676, FB676, FP676, hI670⟩ := hN668
   obtain ⟨gv676, hgd677⟩ := hI670.g1.head
   have htg678 : Df t g676 := fun e => hI670.t1 (e ▸ hI670.g1.inF)
   refine x_killed <| yDe (nB (yR0' ?_))
   have hX679 : Ch F w611 w671 := Ch.trans hX669 (Ch.refl (fun j => j = t) w671) (fun i _ h => h ▸ hFt)
   have hA680 : TermAt w671 t T676 (more F w611 w671) := ⟨_, _, _, _, _, _, _, _, _, _, _, _, hI670.mono (fun b hb => hb.elim .inl (fun h2 => .inr ⟨h2.1, by have := Ch.size (Ch.refl (fun j => j = t) w671); omega⟩)) (hI621.moreOk hX679.size)⟩
   subst hE676
   subst hE641
   refine ⟨rfl, TermAt.eq' (hA680.mono (more_le hpre623.size) (hI.moreOk (Nat.le_trans hpre623.size hX679.size))) ?_, Ch.trans hpre623 hX679 iZ⟩
   simp only [editT, eq_false hpp0, eq_false hpp1, eq_false hpp2, eq_false hpp3, eq_false hpp4, hpp5, hpp6, ↓reduceIte, Int.reduceEq, Int.reduceLT, Int.reduceLE, Bool.and_true, Bool.true_and, Bool.and_false, Bool.false_and, Bool.false_eq_true, Bool.true_eq_false, and_true, true_and, and_false, false_and, or_true, true_or, or_false, false_or]
  have hpp6 := hC620
  refine yk <| yDC [10] fun w681 hH682 hc683 => ?_
  have hS684 := Ch.trans hS612 hc683 eZ
  have ht686 := ht614.ch hc683 id
  have hg687 := hg615.ch hc683 id
  have hT688 := lt_ch hc683 hT616 (fun _ h => h.elim)
  have hV689 := hV617.ch hc683 iZ
  have hB690 := hB618.ch hc683 id
  have hB691 := hB619.ch hc683 id
  refine ydC [0, 1, 3, 4, 5, 6, 7, 8, 9] [] (fun u hu => (.a (cellsC_ch hu (hB690.cs 0 6) id) (.l (cell_ch hu (ht686.c 0) id) (.l (cell_ch hu (hg687.c 1) id) .z)))) <| yH 2 (yQ (first_act hV689 ac rfl) fun w693 hc692 => ?_)
  have hS694 := Ch.trans hS684 hc692 eZ
  have ht696 := ht686.ch hc692 id
  have hT698 := lt_ch hc692 hT688 (fun _ h => h.elim)
  have hB700 := hB690.ch hc692 id
  have hB701 := hB691.ch hc692 id
  refine x_heldC hc692 ?_
  have hI702 := hI.scalar (T' := T) hS694 ht696 rfl rfl rfl rfl
  have hA703 : TermAt w693 t T F := ⟨_, _, _, _, _, _, _, _, _, _, _, _, hI702⟩
  have hpre704 : Ch F w w693 := hS694.mono (fun i _ h => h ▸ hFt)
  have hly705 := hB700.lt
  have hly706 := hB701.lt
  have hX707 : Ch F w693 w693 := Ch.trans (Ch.refl F w693) (Ch.refl (fun j => j = t) w693) (fun i _ h => h ▸ hFt)
  have hA708 : TermAt w693 t T (more F w693 w693) := ⟨_, _, _, _, _, _, _, _, _, _, _, _, hI702.mono (fun _ h => .inl h) (hI702.moreOk hX707.size)⟩
  refine yK 10 (yQ (erase_at hA708 hT698 hL  ((firstI ac.params)) (0) (T.grid.h) (by constructor <;> omega)) ?_)
  rintro w714 ⟨hB709, hc710⟩
  obtain ⟨hN711, hX712⟩ := TermAt.next hA703 hX707 hc710 hB709
  have hL719 : Lim W H (eraseT T ((firstI ac.params)) (0) (T.grid.h)) := (lim_erase hL ((firstI ac.params)) (0) (T.grid.h))
  generalize hE719 : (eraseT T ((firstI ac.params)) (0) (T.grid.h)) = T719 at hN711 hL719
  have hM719 := hL719
  obtain ⟨⟨hwa719, hwb719⟩, ⟨hha719, hhb719⟩, ⟨hgw719, hgh719⟩, ⟨how719, hoh719⟩, ⟨⟨hcx719, hcX719⟩, hcy719, hcY719⟩, ⟨⟨hsx719, hsX719⟩, hsy719, hsY719⟩, ⟨⟨hax719, haX719⟩, hay719, haY719⟩, ⟨htp719, htb719, hbh719⟩, hbk719, hrp719⟩ := hM719
  obtain ⟨g719, o719, ba719, bn719, bc719, pa719, pn719, pc719, F1719, F2719, FB719, FP719, hI713⟩ := hN711
  obtain ⟨gv719, hgd720⟩ := hI713.g1.head
  have htg721 : Df t g719 := fun e => hI713.t1 (e ▸ hI713.g1.inF)
  refine x_killed <| yDe (nB (yR0' ?_))
  have hX722 : Ch F w693 w714 := Ch.trans hX712 (Ch.refl (fun j => j = t) w714) (fun i _ h => h ▸ hFt)
  have hA723 : TermAt w714 t T719 (more F w693 w714) := ⟨_, _, _, _, _, _, _, _, _, _, _, _, hI713.mono (fun b hb => hb.elim .inl (fun h2 => .inr ⟨h2.1, by have := Ch.size (Ch.refl (fun j => j = t) w714); omega⟩)) (hI702.moreOk hX722.size)⟩
  subst hE719
  refine ⟨rfl, TermAt.eq' (hA723.mono (more_le hpre704.size) (hI.moreOk (Nat.le_trans hpre704.size hX722.size))) ?_, Ch.trans hpre704 hX722 iZ⟩
  simp only [editT, eq_false hpp0, eq_false hpp1, eq_false hpp2, eq_false hpp3, eq_false hpp4, hpp5, eq_false hpp6, ↓reduceIte, Int.reduceEq, Int.reduceLT, Int.reduceLE, Bool.and_true, Bool.true_and, Bool.and_false, Bool.false_and, Bool.false_eq_true, Bool.true_eq_false, and_true, true_and, and_false, false_and, or_true, true_or, or_false, false_or]
 have hpp5 := hC609
 refine ysr <| yp 2 [] .z <| ye <| yc (rE ac.last 76) (fun hC724 => ?_) fun hC724 => ?_
 ·have hpp6 := hC724
  refine ysr <| yp 1 [] .z <| ye <| ycf <| x_skip (nB (yR0' ?_))
  have hI725 := hI.scalar (T' := T) hS50 ht52 rfl rfl rfl rfl
  have hX726 : Ch F w w47 := Ch.trans (Ch.refl F w) hS50 (fun i _ h => h ▸ hFt)
  have hA727 : TermAt w47 t T (more F w w47) := ⟨_, _, _, _, _, _, _, _, _, _, _, _, hI725.mono (fun _ h => .inl h) (hI.moreOk hX726.size)⟩
  refine ⟨rfl, TermAt.eq' hA727 ?_, hX726⟩
  simp only [editT, eq_false hpp0, eq_false hpp1, eq_false hpp2, eq_false hpp3, eq_false hpp4, eq_false hpp5, hpp6, ↓reduceIte, Int.reduceEq, Int.reduceLT, Int.reduceLE, Bool.and_true, Bool.true_and, Bool.and_false, Bool.false_and, Bool.false_eq_true, Bool.true_eq_false, and_true, true_and, and_false, false_and, or_true, true_or, or_false, false_or]
 have hpp6 := hC724
 refine ysr <| yp 2 [] .z <| ye <| yc (rE ac.last 77) (fun hC728 => ?_) fun hC728 => ?_
 ·have hpp7 := hC728
  refine ysr <| yp 1 [] .z <| ye <| ycf <| x_skip (nB (yR0' ?_))
  have hI729 := hI.scalar (T' := T) hS50 ht52 rfl rfl rfl rfl
  have hX730 : Ch F w w47 := Ch.trans (Ch.refl F w) hS50 (fun i _ h => h ▸ hFt)
  have hA731 : TermAt w47 t T (more F w w47) := ⟨_, _, _, _, _, _, _, _, _, _, _, _, hI729.mono (fun _ h => .inl h) (hI.moreOk hX730.size)⟩
  refine ⟨rfl, TermAt.eq' hA731 ?_, hX730⟩
  simp only [editT, eq_false hpp0, eq_false hpp1, eq_false hpp2, eq_false hpp3, eq_false hpp4, eq_false hpp5, eq_false hpp6, hpp7, ↓reduceIte, Int.reduceEq, Int.reduceLT, Int.reduceLE, Bool.and_true, Bool.true_and, Bool.and_false, Bool.false_and, Bool.false_eq_true, Bool.true_eq_false, and_true, true_and, and_false, false_and, or_true, true_or, or_false, false_or]
 have hpp7 := hC728
 refine ysr <| yp 2 [] .z <| ye <| yc (rE ac.last 83) (fun hC732 => ?_) fun hC732 => ?_
 ·have hpp8 := hC732
  refine x_region <| yp 2 [] .z ?_
  have hI733 := hI.scalar (T' := T) hS50 ht52 rfl rfl rfl rfl
  have hA734 : TermAt w47 t T F := ⟨_, _, _, _, _, _, _, _, _, _, _, _, hI733⟩
  have hpre735 : Ch F w w47 := hS50.mono (fun i _ h => h ▸ hFt)
  have hly736 := hB56.lt
  have hly737 := hB48.lt
  have hX738 : Ch F w47 w47 := Ch.trans (Ch.refl F w47) (Ch.refl (fun j => j = t) w47) (fun i _ h => h ▸ hFt)
  have hA739 : TermAt w47 t T (more F w47 w47) := ⟨_, _, _, _, _, _, _, _, _, _, _, _, hI733.mono (fun _ h => .inl h) (hI733.moreOk hX738.size)⟩
  refine yo (yQ (scroll_lim hA739 hT54.tb hL  (n)) ?_)
  rintro w745 ⟨hB740, hc741⟩
  obtain ⟨hN742, hX743⟩ := TermAt.next hA734 hX738 hc741 hB740
  have hL750 : Lim W H (scrollT T (n)) := (lim_scroll hL (n))
  generalize hE750 : (scrollT T (n)) = T750 at hN742 hL750
  have hM750 := hL750
  obtain ⟨⟨hwa750, hwb750⟩, ⟨hha750, hhb750⟩, ⟨hgw750, hgh750⟩, ⟨how750, hoh750⟩, ⟨⟨hcx750, hcX750⟩, hcy750, hcY750⟩, ⟨⟨hsx750, hsX750⟩, hsy750, hsY750⟩, ⟨⟨hax750, haX750⟩, hay750, haY750⟩, ⟨htp750, htb750, hbh750⟩, hbk750, hrp750⟩ := hM750
  obtain ⟨g750, o750, ba750, bn750, bc750, pa750, pn750, pc750, F1750, F2750, FB750, FP750, hI744⟩ := hN742
  obtain ⟨gv750, hgd751⟩ := hI744.g1.head
  have htg752 : Df t g750 := fun e => hI744.t1 (e ▸ hI744.g1.inF)
  refine yE (nB (yR0' ?_))
  have hX753 : Ch F w47 w745 := Ch.trans hX743 (Ch.refl (fun j => j = t) w745) (fun i _ h => h ▸ hFt)
  have hA754 : TermAt w745 t T750 (more F w47 w745) := ⟨_, _, _, _, _, _, _, _, _, _, _, _, hI744.mono (fun b hb => hb.elim .inl (fun h2 => .inr ⟨h2.1, by have := Ch.size (Ch.refl (fun j => j = t) w745); omega⟩)) (hI733.moreOk hX753.size)⟩
  subst hE750
  refine ⟨rfl, TermAt.eq' (hA754.mono (more_le hpre735.size) (hI.moreOk (Nat.le_trans hpre735.size hX753.size))) ?_, Ch.trans hpre735 hX753 iZ⟩
  simp only [editT, eq_false hpp0, eq_false hpp1, eq_false hpp2, eq_false hpp3, eq_false hpp4, eq_false hpp5, eq_false hpp6, eq_false hpp7, hpp8, ↓reduceIte, Int.reduceEq, Int.reduceLT, Int.reduceLE, Bool.and_true, Bool.true_and, Bool.and_false, Bool.false_and, Bool.false_eq_true, Bool.true_eq_false, and_true, true_and, and_false, false_and, or_true, true_or, or_false, false_or]
 have hpp8 := hC732
 refine ysr <| yp 2 [] .z <| ye <| yc (rE ac.last 84) (fun hC755 => ?_) fun hC755 => ?_
 ·have hpp9 := hC755
  refine yD [14] fun w756 hH757 hc758 => ?_
  have hS759 := Ch.trans hS50 hc758 eZ
  have ht761 := ht52.ch hc758 id
  have hT763 := lt_ch hc758 hT54 (fun _ h => h.elim)
  have hB765 := hB56.ch hc758 id
  have hB766 := hB48.ch hc758 id
  refine yd (uL 0 14) [] (.l (ht761.c 0) (.l (ht761.c 26) (.l (ht761.c 27) (.a (hB766.cs 0 5) .z)))) ?_
  have hI767 := hI.scalar (T' := T) hS759 ht761 rfl rfl rfl rfl
  have hA768 : TermAt w756 t T F := ⟨_, _, _, _, _, _, _, _, _, _, _, _, hI767⟩
  have hpre769 : Ch F w w756 := hS759.mono (fun i _ h => h ▸ hFt)
  have hly770 := hB765.lt
  have hly771 := hB766.lt
  have hX772 : Ch F w756 w756 := Ch.trans (Ch.refl F w756) (Ch.refl (fun j => j = t) w756) (fun i _ h => h ▸ hFt)
  have hA773 : TermAt w756 t T (more F w756 w756) := ⟨_, _, _, _, _, _, _, _, _, _, _, _, hI767.mono (fun _ h => .inl h) (hI767.moreOk hX772.size)⟩
  have hI774 := hI767.mono (F' := more F w756 w756) (fun _ h => .inl h) (hI767.moreOk hX772.size)
  refine yK 14 (yQ (down_any _ _ _ (T.top) (T.bot) (n) T.cursor.sty _ hT763.tb hI774.g1) ?_)
  rintro w780 ⟨hG775, hc776⟩
  obtain ⟨hN777, hX778⟩ := TermAt.next hA768 hX772 (hI774.chF hc776) ⟨_, _, _, _, _, _, _, _, _, _, _, _, hI774.grid1 hc776 hG775 (fun _ h => h)⟩
  have hc776m := hI774.chF hc776
  have hL785 : Lim W H ({ T with grid := (downG T.grid (T.top) (T.bot) (n) T.cursor.sty) } : TS) := hL.grid ⟨rfl, rfl⟩
  generalize hE785 : ({ T with grid := (downG T.grid (T.top) (T.bot) (n) T.cursor.sty) } : TS) = T785 at hN777 hL785
  have hM785 := hL785
  obtain ⟨⟨hwa785, hwb785⟩, ⟨hha785, hhb785⟩, ⟨hgw785, hgh785⟩, ⟨how785, hoh785⟩, ⟨⟨hcx785, hcX785⟩, hcy785, hcY785⟩, ⟨⟨hsx785, hsX785⟩, hsy785, hsY785⟩, ⟨⟨hax785, haX785⟩, hay785, haY785⟩, ⟨htp785, htb785, hbh785⟩, hbk785, hrp785⟩ := hM785
  obtain ⟨g785, o785, ba785, bn785, bc785, pa785, pn785, pc785, F1785, F2785, FB785, FP785, hI779⟩ := hN777
  obtain ⟨gv785, hgd786⟩ := hI779.g1.head
  have htg787 : Df t g785 := fun e => hI779.t1 (e ▸ hI779.g1.inF)
  refine x_killed <| yDe (nB (yR0' ?_))
  have hX788 : Ch F w756 w780 := Ch.trans hX778 (Ch.refl (fun j => j = t) w780) (fun i _ h => h ▸ hFt)
  have hA789 : TermAt w780 t T785 (more F w756 w780) := ⟨_, _, _, _, _, _, _, _, _, _, _, _, hI779.mono (fun b hb => hb.elim .inl (fun h2 => .inr ⟨h2.1, by have := Ch.size (Ch.refl (fun j => j = t) w780); omega⟩)) (hI767.moreOk hX788.size)⟩
  subst hE785
  refine ⟨rfl, TermAt.eq' (hA789.mono (more_le hpre769.size) (hI.moreOk (Nat.le_trans hpre769.size hX788.size))) ?_, Ch.trans hpre769 hX788 iZ⟩
  simp only [editT, eq_false hpp0, eq_false hpp1, eq_false hpp2, eq_false hpp3, eq_false hpp4, eq_false hpp5, eq_false hpp6, eq_false hpp7, eq_false hpp8, hpp9, ↓reduceIte, Int.reduceEq, Int.reduceLT, Int.reduceLE, Bool.and_true, Bool.true_and, Bool.and_false, Bool.false_and, Bool.false_eq_true, Bool.true_eq_false, and_true, true_and, and_false, false_and, or_true, true_or, or_false, false_or]
 have hpp9 := hC755
 refine x_region <| yp 2 [] (.a (hB56.cs 0 6) .z) ?_
 have hI790 := hI.scalar (T' := T) hS50 ht52 rfl rfl rfl rfl
 have hA791 : TermAt w47 t T F := ⟨_, _, _, _, _, _, _, _, _, _, _, _, hI790⟩
 have hpre792 : Ch F w w47 := hS50.mono (fun i _ h => h ▸ hFt)
 have hly793 := hB56.lt
 have hly794 := hB48.lt
 have hX795 : Ch F w47 w47 := Ch.trans (Ch.refl F w47) (Ch.refl (fun j => j = t) w47) (fun i _ h => h ▸ hFt)
 have hA796 : TermAt w47 t T (more F w47 w47) := ⟨_, _, _, _, _, _, _, _, _, _, _, _, hI790.mono (fun _ h => .inl h) (hI790.moreOk hX795.size)⟩
 have hVa797 := hV55.mono (K' := fun b => ¬ more F w47 w47 b ∧ b < w47.heap.size) (fun b hb => ⟨fun h => h.elim hb.1 (fun h => by have := hb.2; have := Ch.size hpre792; omega), by have := hb.2; have := Ch.size hX795; have := Ch.size hpre792; omega⟩)
 refine yo (yQ (tell_at hA796 hT54 hL  hVa797 hV8 hVb) ?_)
 rintro w803 ⟨hB798, hc799⟩
 obtain ⟨hN800, hX801⟩ := TermAt.next hA791 hX795 hc799 hB798
 have hL808 : Lim W H (tellT T ac.last (firstI ac.params)) := (lim_tell hL _ _)
 generalize hE808 : (tellT T ac.last (firstI ac.params)) = T808 at hN800 hL808
 have hM808 := hL808
 obtain ⟨⟨hwa808, hwb808⟩, ⟨hha808, hhb808⟩, ⟨hgw808, hgh808⟩, ⟨how808, hoh808⟩, ⟨⟨hcx808, hcX808⟩, hcy808, hcY808⟩, ⟨⟨hsx808, hsX808⟩, hsy808, hsY808⟩, ⟨⟨hax808, haX808⟩, hay808, haY808⟩, ⟨htp808, htb808, hbh808⟩, hbk808, hrp808⟩ := hM808
 obtain ⟨g808, o808, ba808, bn808, bc808, pa808, pn808, pc808, F1808, F2808, FB808, FP808, hI802⟩ := hN800
 obtain ⟨gv808, hgd809⟩ := hI802.g1.head
 have htg810 : Df t g808 := fun e => hI802.t1 (e ▸ hI802.g1.inF)
 refine yE (nB (yR0' ?_))
 have hX811 : Ch F w47 w803 := Ch.trans hX801 (Ch.refl (fun j => j = t) w803) (fun i _ h => h ▸ hFt)
 have hA812 : TermAt w803 t T808 (more F w47 w803) := ⟨_, _, _, _, _, _, _, _, _, _, _, _, hI802.mono (fun b hb => hb.elim .inl (fun h2 => .inr ⟨h2.1, by have := Ch.size (Ch.refl (fun j => j = t) w803); omega⟩)) (hI790.moreOk hX811.size)⟩
 subst hE808
 refine ⟨rfl, TermAt.eq' (hA812.mono (more_le hpre792.size) (hI.moreOk (Nat.le_trans hpre792.size hX811.size))) ?_, Ch.trans hpre792 hX811 iZ⟩
 simp only [editT, eq_false hpp0, eq_false hpp1, eq_false hpp2, eq_false hpp3, eq_false hpp4, eq_false hpp5, eq_false hpp6, eq_false hpp7, eq_false hpp8, eq_false hpp9, ↓reduceIte, Int.reduceEq, Int.reduceLT, Int.reduceLE, Bool.and_true, Bool.true_and, Bool.and_false, Bool.false_and, Bool.false_eq_true, Bool.true_eq_false, and_true, true_and, and_false, false_and, or_true, true_or, or_false, false_or]
end Go.Proofs.YteoejhjfbfacdaaDoor.X
namespace Go.Proofs.YteoejhjfbfacdaaDoor.X
open Go Go.RowKit Go.Proofs.YteoejhjfbfacdaaDoor
theorem home_lim {w : World} {t : Nat} {W H : Int} {T : TS} {F : Nat → Prop} (hA : TermAt w t T F) (hT : Tables w) (hL : Lim W H T) (x y : Int) (hx : -100000 ≤ x ∧ x ≤ 100000) (hy : -100000 ≤ y ∧ y ≤ 100000) : Calls Tryd.prog 82 [.pointer (some ⟨t, 0, none⟩), .int .i64 x, .int .i64 y].toArray w fun e w' => e = .returned (.tuple #[]) ∧ TermAt w' t (homeT T x y) (more F w w') ∧ Ch F w w' :=
  home_at hA (by have := hL.tb; have := hL.hb; omega) x y (by omega) (by omega)
set_option maxHeartbeats 4000000 in
theorem plain_at {w : World} {t : Nat} {W H : Int} {T : TS} {F : Nat → Prop} (hA0 : TermAt w t T F) (hT : LT w) (hL : Lim W H T) {ao : Option Nat} {an cc : Nat} {ac : Ac} (hV : IntsAt w .i64 ao an cc ac.params (fun b => ¬ F b ∧ b < w.heap.size)) (hV8 : an ≤ 8) (hVb : ∀ x ∈ ac.params, 0 ≤ x ∧ x ≤ 9999) : Calls Tryd.prog 61 [.pointer (some ⟨t, 0, none⟩), .agg #[.int .i64 ac.kind, .int .i32 ac.rune, .int .u8 ac.last, .string ac.marks, .slice (ao.map at0) an cc, .string ac.text]].toArray w fun e w' => e = .returned (.tuple #[]) ∧ TermAt w' t (plainT T ac.last ac.params) (more F w w') ∧ Ch F w w' := by
 obtain ⟨g, o, ba, bn, bc, pa, pn, pc, F1, F2, FB, FP, hI⟩ := hA0
 have hA0 : TermAt w t T F := ⟨g, o, ba, bn, bc, pa, pn, pc, F1, F2, FB, FP, hI⟩
 have hFt := hI.inF.1
 obtain ⟨gv, hgd⟩ := hI.g1.head
 have htg : Df t g := fun e => hI.t1 (e ▸ hI.g1.inF)
 obtain ⟨⟨hw1, hw2⟩, ⟨hh1, hh2⟩, hll, hall⟩ := hI.g1.ok
 have hL0 := hL
 obtain ⟨⟨hwa, hwb⟩, ⟨hha, hhb⟩, ⟨hgw, hgh⟩, ⟨how, hoh⟩, ⟨⟨hcx, hcX⟩, hcy, hcY⟩, ⟨⟨hsx, hsX⟩, hsy, hsY⟩, ⟨⟨hax, haX⟩, hay, haY⟩, ⟨htp, htb, hbh⟩, hbk, hrp⟩ := hL0
 have hpq1 := paramI_pos ac.params 0
 have hph1 := paramI_hi hVb 0
 have hpq2 := paramI_pos ac.params 1
 have hph2 := paramI_hi hVb 1
 refine yA Tryd.func61 rfl <| ysr <| yo (yN [iX ac.kind, rX ac.rune, uX ac.last, .string ac.marks, .slice (ao.map at0) an cc, .string ac.text] 73 fun w10 b11 hb12 hz13 hB14 hc15 => ?_)
 have hlo16 : w.heap.size ≤ b11 := by rw [hb12]; exact Ch.size (Ch.refl (fun j => j = t) w)
 have hS17 := Ch.trans (Ch.refl (fun j => j = t) w) hc15 eZ
 have ht19 := hI.blk.ch hc15 id
 have hg20 := hgd.ch hc15 id
 have hT21 := lt_ch hc15 hT (fun _ h => h.elim)
 have hV22 := hV.ch hc15 iZ
 refine ye <| ysr <| yp 1 [] (.a (hB14.cs 0 6) .z) <| yo (yQ (param_act hV22 ac rfl 0) fun w24 hc23 => ?_)
 have hS25 := Ch.trans hS17 hc23 eZ
 have ht27 := ht19.ch hc23 id
 have hg28 := hg20.ch hc23 id
 have hT29 := lt_ch hc23 hT21 (fun _ h => h.elim)
 have hV30 := hV22.ch hc23 iZ
 have hB31 := hB14.ch hc23 id
 refine yp 3 [] .z <| ye <| ys <| yD [] fun w32 hH33 hc34 => ?_
 have hS35 := Ch.trans hS25 hc34 eZ
 have ht37 := ht27.ch hc34 id
 have hg38 := hg28.ch hc34 id
 have hT39 := lt_ch hc34 hT29 (fun _ h => h.elim)
 have hV40 := hV30.ch hc34 iZ
 have hB41 := hB31.ch hc34 id
 refine yd (uL 0 12) [] (.l (ht37.c 2) (.l (ht37.c 3) .z)) <| yDe (nS ?_)
 refine ysr <| yp 2 [] (.l (hB41.c 2) .z) <| ye <| x_block <| ysr <| yp 2 [] .z <| ye <| yc (rE ac.last 65) (fun hC42 => ?_) fun hC42 => ?_
 ·have hpp0 := hC42
  refine ysr <| yp 1 [] .z <| ye <| ys <| ysr <| yp 6 [] (.l (ht37.c 26) .z) <| ye <| yc (rM T.top T.cursor.y) (fun hC43 => ?_) fun hC43 => ?_
  ·have hpp1 := hC43
   refine x_region <| yp 5 [] (.l (ht37.c 26) .z) <| ye <| x_region <| yp 7 [] (.q6 (T.cursor.y - (paramI ac.params 0)) .z) ?_
   have hI44 := hI.scalar (T' := T) hS35 ht37 rfl rfl rfl rfl
   have hA45 : TermAt w32 t T F := ⟨_, _, _, _, _, _, _, _, _, _, _, _, hI44⟩
   have hpre46 : Ch F w w32 := hS35.mono (fun i _ h => h ▸ hFt)
   have hly47 := hB41.lt
   have hX48 : Ch F w32 w32 := Ch.trans (Ch.refl F w32) (Ch.refl (fun j => j = t) w32) (fun i _ h => h ▸ hFt)
   have hA49 : TermAt w32 t T (more F w32 w32) := ⟨_, _, _, _, _, _, _, _, _, _, _, _, hI44.mono (fun _ h => .inl h) (hI44.moreOk hX48.size)⟩
   refine yo (yQ (move_lim hA49 hT39.tb hL  (T.cursor.x) ((max ((T.cursor.y - (paramI ac.params 0)) : Int) T.top))) ?_)
   rintro w55 ⟨hB50, hc51⟩
   obtain ⟨hN52, hX53⟩ := TermAt.next hA45 hX48 hc51 hB50
   have hL59 : Lim W H (moveT T (T.cursor.x) ((max ((T.cursor.y - (paramI ac.params 0)) : Int) T.top))) := (lim_move hL (T.cursor.x) ((max ((T.cursor.y - (paramI ac.params 0)) : Int) T.top)))
   generalize hE59 : (moveT T (T.cursor.x) ((max ((T.cursor.y - (paramI ac.params 0)) : Int) T.top))) = T59 at hN52 hL59
   have hM59 := hL59
   obtain ⟨⟨hwa59, hwb59⟩, ⟨hha59, hhb59⟩, ⟨hgw59, hgh59⟩, ⟨how59, hoh59⟩, ⟨⟨hcx59, hcX59⟩, hcy59, hcY59⟩, ⟨⟨hsx59, hsX59⟩, hsy59, hsY59⟩, ⟨⟨hax59, haX59⟩, hay59, haY59⟩, ⟨htp59, htb59, hbh59⟩, hbk59, hrp59⟩ := hM59
   obtain ⟨g59, o59, ba59, bn59, bc59, pa59, pn59, pc59, F159, F259, FB59, FP59, hI54⟩ := hN52
   obtain ⟨gv59, hgd60⟩ := hI54.g1.head
   have htg61 : Df t g59 := fun e => hI54.t1 (e ▸ hI54.g1.inF)
   refine yE (nB (yR0' ?_))
   have hX62 : Ch F w32 w55 := Ch.trans hX53 (Ch.refl (fun j => j = t) w55) (fun i _ h => h ▸ hFt)
   have hA63 : TermAt w55 t T59 (more F w32 w55) := ⟨_, _, _, _, _, _, _, _, _, _, _, _, hI54.mono (fun b hb => hb.elim .inl (fun h2 => .inr ⟨h2.1, by have := Ch.size (Ch.refl (fun j => j = t) w55); omega⟩)) (hI44.moreOk hX62.size)⟩
   subst hE59
   refine ⟨rfl, TermAt.eq' (hA63.mono (more_le hpre46.size) (hI.moreOk (Nat.le_trans hpre46.size hX62.size))) ?_, Ch.trans hpre46 hX62 iZ⟩
   simp only [plainT, hpp0, eq_true hpp1, ↓reduceIte, Int.reduceEq, Int.reduceLT, Int.reduceLE, Bool.and_true, Bool.true_and, Bool.and_false, Bool.false_and, Bool.false_eq_true, Bool.true_eq_false, and_true, true_and, and_false, false_and, or_true, true_or, or_false, false_or]
  have hpp1 := hC43
  refine yk <| x_region <| yp 7 [] (.q6 (T.cursor.y - (paramI ac.params 0)) .z) ?_
  have hI64 := hI.scalar (T' := T) hS35 ht37 rfl rfl rfl rfl
  have hA65 : TermAt w32 t T F := ⟨_, _, _, _, _, _, _, _, _, _, _, _, hI64⟩
  have hpre66 : Ch F w w32 := hS35.mono (fun i _ h => h ▸ hFt)
  have hly67 := hB41.lt
  have hX68 : Ch F w32 w32 := Ch.trans (Ch.refl F w32) (Ch.refl (fun j => j = t) w32) (fun i _ h => h ▸ hFt)
  have hA69 : TermAt w32 t T (more F w32 w32) := ⟨_, _, _, _, _, _, _, _, _, _, _, _, hI64.mono (fun _ h => .inl h) (hI64.moreOk hX68.size)⟩
  refine yo (yQ (move_lim hA69 hT39.tb hL  (T.cursor.x) ((max ((T.cursor.y - (paramI ac.params 0)) : Int) 0))) ?_)
  rintro w75 ⟨hB70, hc71⟩
  obtain ⟨hN72, hX73⟩ := TermAt.next hA65 hX68 hc71 hB70
  have hL79 : Lim W H (moveT T (T.cursor.x) ((max ((T.cursor.y - (paramI ac.params 0)) : Int) 0))) := (lim_move hL (T.cursor.x) ((max ((T.cursor.y - (paramI ac.params 0)) : Int) 0)))
  generalize hE79 : (moveT T (T.cursor.x) ((max ((T.cursor.y - (paramI ac.params 0)) : Int) 0))) = T79 at hN72 hL79
  have hM79 := hL79
  obtain ⟨⟨hwa79, hwb79⟩, ⟨hha79, hhb79⟩, ⟨hgw79, hgh79⟩, ⟨how79, hoh79⟩, ⟨⟨hcx79, hcX79⟩, hcy79, hcY79⟩, ⟨⟨hsx79, hsX79⟩, hsy79, hsY79⟩, ⟨⟨hax79, haX79⟩, hay79, haY79⟩, ⟨htp79, htb79, hbh79⟩, hbk79, hrp79⟩ := hM79
  obtain ⟨g79, o79, ba79, bn79, bc79, pa79, pn79, pc79, F179, F279, FB79, FP79, hI74⟩ := hN72
  obtain ⟨gv79, hgd80⟩ := hI74.g1.head
  have htg81 : Df t g79 := fun e => hI74.t1 (e ▸ hI74.g1.inF)
  refine yE (nB (yR0' ?_))
  have hX82 : Ch F w32 w75 := Ch.trans hX73 (Ch.refl (fun j => j = t) w75) (fun i _ h => h ▸ hFt)
  have hA83 : TermAt w75 t T79 (more F w32 w75) := ⟨_, _, _, _, _, _, _, _, _, _, _, _, hI74.mono (fun b hb => hb.elim .inl (fun h2 => .inr ⟨h2.1, by have := Ch.size (Ch.refl (fun j => j = t) w75); omega⟩)) (hI64.moreOk hX82.size)⟩
  subst hE79
  refine ⟨rfl, TermAt.eq' (hA83.mono (more_le hpre66.size) (hI.moreOk (Nat.le_trans hpre66.size hX82.size))) ?_, Ch.trans hpre66 hX82 iZ⟩
  simp only [plainT, hpp0, eq_false hpp1, ↓reduceIte, Int.reduceEq, Int.reduceLT, Int.reduceLE, Bool.and_true, Bool.true_and, Bool.and_false, Bool.false_and, Bool.false_eq_true, Bool.true_eq_false, and_true, true_and, and_false, false_and, or_true, true_or, or_false, false_or]
 have hpp0 := hC42
 refine ys <| ysr <| yp 2 [] .z <| ye <| yc (rE ac.last 66) (fun hC84 => ?_) fun hC84 => ?_
 ·have hpp1 := hC84
  refine yk <| yc (rE ac.last 66) (fun hC85 => ?_) fun hC85 => ?_
  ·have hpp2 := hC85
   refine ysr <| yp 8 [] (.l (ht37.c 0) (.l (hg38.c 1) .z)) <| ye <| ys <| ysr <| yp 6 [] (.l (ht37.c 27) .z) <| ye <| yc (rL T.cursor.y T.bot) (fun hC86 => ?_) fun hC86 => ?_
   ·have hpp3 := hC86
    refine x_region <| yp 5 [] (.l (ht37.c 27) .z) <| ye <| x_region <| yp 8 [] (.q6 (T.cursor.y + (paramI ac.params 0)) (.q6 (T.bot - 1) .z)) ?_
    have hI87 := hI.scalar (T' := T) hS35 ht37 rfl rfl rfl rfl
    have hA88 : TermAt w32 t T F := ⟨_, _, _, _, _, _, _, _, _, _, _, _, hI87⟩
    have hpre89 : Ch F w w32 := hS35.mono (fun i _ h => h ▸ hFt)
    have hly90 := hB41.lt
    have hX91 : Ch F w32 w32 := Ch.trans (Ch.refl F w32) (Ch.refl (fun j => j = t) w32) (fun i _ h => h ▸ hFt)
    have hA92 : TermAt w32 t T (more F w32 w32) := ⟨_, _, _, _, _, _, _, _, _, _, _, _, hI87.mono (fun _ h => .inl h) (hI87.moreOk hX91.size)⟩
    refine yo (yQ (move_lim hA92 hT39.tb hL  (T.cursor.x) ((min ((T.cursor.y + (paramI ac.params 0)) : Int) (T.bot - 1)))) ?_)
    rintro w98 ⟨hB93, hc94⟩
    obtain ⟨hN95, hX96⟩ := TermAt.next hA88 hX91 hc94 hB93
    have hL102 : Lim W H (moveT T (T.cursor.x) ((min ((T.cursor.y + (paramI ac.params 0)) : Int) (T.bot - 1)))) := (lim_move hL (T.cursor.x) ((min ((T.cursor.y + (paramI ac.params 0)) : Int) (T.bot - 1))))
    generalize hE102 : (moveT T (T.cursor.x) ((min ((T.cursor.y + (paramI ac.params 0)) : Int) (T.bot - 1)))) = T102 at hN95 hL102
    have hM102 := hL102
    obtain ⟨⟨hwa102, hwb102⟩, ⟨hha102, hhb102⟩, ⟨hgw102, hgh102⟩, ⟨how102, hoh102⟩, ⟨⟨hcx102, hcX102⟩, hcy102, hcY102⟩, ⟨⟨hsx102, hsX102⟩, hsy102, hsY102⟩, ⟨⟨hax102, haX102⟩, hay102, haY102⟩, ⟨htp102, htb102, hbh102⟩, hbk102, hrp102⟩ := hM102
    obtain ⟨g102, o102, ba102, bn102, bc102, pa102, pn102, pc102, F1102, F2102, FB102, FP102, hI97⟩ := hN95
    obtain ⟨gv102, hgd103⟩ := hI97.g1.head
    have htg104 : Df t g102 := fun e => hI97.t1 (e ▸ hI97.g1.inF)
    refine yE (nB (yR0' ?_))
    have hX105 : Ch F w32 w98 := Ch.trans hX96 (Ch.refl (fun j => j = t) w98) (fun i _ h => h ▸ hFt)
    have hA106 : TermAt w98 t T102 (more F w32 w98) := ⟨_, _, _, _, _, _, _, _, _, _, _, _, hI97.mono (fun b hb => hb.elim .inl (fun h2 => .inr ⟨h2.1, by have := Ch.size (Ch.refl (fun j => j = t) w98); omega⟩)) (hI87.moreOk hX105.size)⟩
    subst hE102
    refine ⟨rfl, TermAt.eq' (hA106.mono (more_le hpre89.size) (hI.moreOk (Nat.le_trans hpre89.size hX105.size))) ?_, Ch.trans hpre89 hX105 iZ⟩
    simp only [plainT, eq_false hpp0, hpp1, hpp2, eq_true hpp3, ↓reduceIte, Int.reduceEq, Int.reduceLT, Int.reduceLE, Bool.and_true, Bool.true_and, Bool.and_false, Bool.false_and, Bool.false_eq_true, Bool.true_eq_false, and_true, true_and, and_false, false_and, or_true, true_or, or_false, false_or]
   have hpp3 := hC86
   refine yk <| x_region <| yp 8 [] (.q6 (T.cursor.y + (paramI ac.params 0)) (.q6 (T.grid.h - 1) .z)) ?_
   have hI107 := hI.scalar (T' := T) hS35 ht37 rfl rfl rfl rfl
   have hA108 : TermAt w32 t T F := ⟨_, _, _, _, _, _, _, _, _, _, _, _, hI107⟩
   have hpre109 : Ch F w w32 := hS35.mono (fun i _ h => h ▸ hFt)
   have hly110 := hB41.lt
   have hX111 : Ch F w32 w32 := Ch.trans (Ch.refl F w32) (Ch.refl (fun j => j = t) w32) (fun i _ h => h ▸ hFt)
   have hA112 : TermAt w32 t T (more F w32 w32) := ⟨_, _, _, _, _, _, _, _, _, _, _, _, hI107.mono (fun _ h => .inl h) (hI107.moreOk hX111.size)⟩
   refine yo (yQ (move_lim hA112 hT39.tb hL  (T.cursor.x) ((min ((T.cursor.y + (paramI ac.params 0)) : Int) (T.grid.h - 1)))) ?_)
   rintro w118 ⟨hB113, hc114⟩
   obtain ⟨hN115, hX116⟩ := TermAt.next hA108 hX111 hc114 hB113
   have hL122 : Lim W H (moveT T (T.cursor.x) ((min ((T.cursor.y + (paramI ac.params 0)) : Int) (T.grid.h - 1)))) := (lim_move hL (T.cursor.x) ((min ((T.cursor.y + (paramI ac.params 0)) : Int) (T.grid.h - 1))))
   generalize hE122 : (moveT T (T.cursor.x) ((min ((T.cursor.y + (paramI ac.params 0)) : Int) (T.grid.h - 1)))) = T122 at hN115 hL122
   have hM122 := hL122
   obtain ⟨⟨hwa122, hwb122⟩, ⟨hha122, hhb122⟩, ⟨hgw122, hgh122⟩, ⟨how122, hoh122⟩, ⟨⟨hcx122, hcX122⟩, hcy122, hcY122⟩, ⟨⟨hsx122, hsX122⟩, hsy122, hsY122⟩, ⟨⟨hax122, haX122⟩, hay122, haY122⟩, ⟨htp122, htb122, hbh122⟩, hbk122, hrp122⟩ := hM122
   obtain ⟨g122, o122, ba122, bn122, bc122, pa122, pn122, pc122, F1122, F2122, FB122, FP122, hI117⟩ := hN115
   obtain ⟨gv122, hgd123⟩ := hI117.g1.head
   have htg124 : Df t g122 := fun e => hI117.t1 (e ▸ hI117.g1.inF)
   refine yE (nB (yR0' ?_))
   have hX125 : Ch F w32 w118 := Ch.trans hX116 (Ch.refl (fun j => j = t) w118) (fun i _ h => h ▸ hFt)
   have hA126 : TermAt w118 t T122 (more F w32 w118) := ⟨_, _, _, _, _, _, _, _, _, _, _, _, hI117.mono (fun b hb => hb.elim .inl (fun h2 => .inr ⟨h2.1, by have := Ch.size (Ch.refl (fun j => j = t) w118); omega⟩)) (hI107.moreOk hX125.size)⟩
   subst hE122
   refine ⟨rfl, TermAt.eq' (hA126.mono (more_le hpre109.size) (hI.moreOk (Nat.le_trans hpre109.size hX125.size))) ?_, Ch.trans hpre109 hX125 iZ⟩
   simp only [plainT, eq_false hpp0, hpp1, hpp2, eq_false hpp3, ↓reduceIte, Int.reduceEq, Int.reduceLT, Int.reduceLE, Bool.and_true, Bool.true_and, Bool.and_false, Bool.false_and, Bool.false_eq_true, Bool.true_eq_false, and_true, true_and, and_false, false_and, or_true, true_or, or_false, false_or]
  exfalso; omega
 have hpp1 := hC84
 refine x_region <| yp 2 [] .z <| ye <| yc (rE ac.last 101) (fun hC127 => ?_) fun hC127 => ?_
 ·have hpp2 := hC127
  refine ysr <| yp 8 [] (.l (ht37.c 0) (.l (hg38.c 1) .z)) <| ye <| ys <| ysr <| yp 6 [] (.l (ht37.c 27) .z) <| ye <| yc (rL T.cursor.y T.bot) (fun hC128 => ?_) fun hC128 => ?_
  ·have hpp3 := hC128
   refine x_region <| yp 5 [] (.l (ht37.c 27) .z) <| ye <| x_region <| yp 8 [] (.q6 (T.cursor.y + (paramI ac.params 0)) (.q6 (T.bot - 1) .z)) ?_
   have hI129 := hI.scalar (T' := T) hS35 ht37 rfl rfl rfl rfl
   have hA130 : TermAt w32 t T F := ⟨_, _, _, _, _, _, _, _, _, _, _, _, hI129⟩
   have hpre131 : Ch F w w32 := hS35.mono (fun i _ h => h ▸ hFt)
   have hly132 := hB41.lt
   have hX133 : Ch F w32 w32 := Ch.trans (Ch.refl F w32) (Ch.refl (fun j => j = t) w32) (fun i _ h => h ▸ hFt)
   have hA134 : TermAt w32 t T (more F w32 w32) := ⟨_, _, _, _, _, _, _, _, _, _, _, _, hI129.mono (fun _ h => .inl h) (hI129.moreOk hX133.size)⟩
   refine yo (yQ (move_lim hA134 hT39.tb hL  (T.cursor.x) ((min ((T.cursor.y + (paramI ac.params 0)) : Int) (T.bot - 1)))) ?_)
   rintro w140 ⟨hB135, hc136⟩
   obtain ⟨hN137, hX138⟩ := TermAt.next hA130 hX133 hc136 hB135
   have hL144 : Lim W H (moveT T (T.cursor.x) ((min ((T.cursor.y + (paramI ac.params 0)) : Int) (T.bot - 1)))) := (lim_move hL (T.cursor.x) ((min ((T.cursor.y + (paramI ac.params 0)) : Int) (T.bot - 1))))
   generalize hE144 : (moveT T (T.cursor.x) ((min ((T.cursor.y + (paramI ac.params 0)) : Int) (T.bot - 1)))) = T144 at hN137 hL144
   have hM144 := hL144
   obtain ⟨⟨hwa144, hwb144⟩, ⟨hha144, hhb144⟩, ⟨hgw144, hgh144⟩, ⟨how144, hoh144⟩, ⟨⟨hcx144, hcX144⟩, hcy144, hcY144⟩, ⟨⟨hsx144, hsX144⟩, hsy144, hsY144⟩, ⟨⟨hax144, haX144⟩, hay144, haY144⟩, ⟨htp144, htb144, hbh144⟩, hbk144, hrp144⟩ := hM144
   obtain ⟨g144, o144, ba144, bn144, bc144, pa144, pn144, pc144, F1144, F2144, FB144, FP144, hI139⟩ := hN137
   obtain ⟨gv144, hgd145⟩ := hI139.g1.head
   have htg146 : Df t g144 := fun e => hI139.t1 (e ▸ hI139.g1.inF)
   refine yE (nB (yR0' ?_))
   have hX147 : Ch F w32 w140 := Ch.trans hX138 (Ch.refl (fun j => j = t) w140) (fun i _ h => h ▸ hFt)
   have hA148 : TermAt w140 t T144 (more F w32 w140) := ⟨_, _, _, _, _, _, _, _, _, _, _, _, hI139.mono (fun b hb => hb.elim .inl (fun h2 => .inr ⟨h2.1, by have := Ch.size (Ch.refl (fun j => j = t) w140); omega⟩)) (hI129.moreOk hX147.size)⟩
   subst hE144
   refine ⟨rfl, TermAt.eq' (hA148.mono (more_le hpre131.size) (hI.moreOk (Nat.le_trans hpre131.size hX147.size))) ?_, Ch.trans hpre131 hX147 iZ⟩
   simp only [plainT, eq_false hpp0, eq_false hpp1, hpp2, eq_true hpp3, ↓reduceIte, Int.reduceEq, Int.reduceLT, Int.reduceLE, Bool.and_true, Bool.true_and, Bool.and_false, Bool.false_and, Bool.false_eq_true, Bool.true_eq_false, and_true, true_and, and_false, false_and, or_true, true_or, or_false, false_or]
  have hpp3 := hC128
  refine yk <| x_region <| yp 8 [] (.q6 (T.cursor.y + (paramI ac.params 0)) (.q6 (T.grid.h - 1) .z)) ?_
  have hI149 := hI.scalar (T' := T) hS35 ht37 rfl rfl rfl rfl
  have hA150 : TermAt w32 t T F := ⟨_, _, _, _, _, _, _, _, _, _, _, _, hI149⟩
  have hpre151 : Ch F w w32 := hS35.mono (fun i _ h => h ▸ hFt)
  have hly152 := hB41.lt
  have hX153 : Ch F w32 w32 := Ch.trans (Ch.refl F w32) (Ch.refl (fun j => j = t) w32) (fun i _ h => h ▸ hFt)
  have hA154 : TermAt w32 t T (more F w32 w32) := ⟨_, _, _, _, _, _, _, _, _, _, _, _, hI149.mono (fun _ h => .inl h) (hI149.moreOk hX153.size)⟩
  refine yo (yQ (move_lim hA154 hT39.tb hL  (T.cursor.x) ((min ((T.cursor.y + (paramI ac.params 0)) : Int) (T.grid.h - 1)))) ?_)
  rintro w160 ⟨hB155, hc156⟩
  obtain ⟨hN157, hX158⟩ := TermAt.next hA150 hX153 hc156 hB155
  have hL164 : Lim W H (moveT T (T.cursor.x) ((min ((T.cursor.y + (paramI ac.params 0)) : Int) (T.grid.h - 1)))) := (lim_move hL (T.cursor.x) ((min ((T.cursor.y + (paramI ac.params 0)) : Int) (T.grid.h - 1))))
  generalize hE164 : (moveT T (T.cursor.x) ((min ((T.cursor.y + (paramI ac.params 0)) : Int) (T.grid.h - 1)))) = T164 at hN157 hL164
  have hM164 := hL164
  obtain ⟨⟨hwa164, hwb164⟩, ⟨hha164, hhb164⟩, ⟨hgw164, hgh164⟩, ⟨how164, hoh164⟩, ⟨⟨hcx164, hcX164⟩, hcy164, hcY164⟩, ⟨⟨hsx164, hsX164⟩, hsy164, hsY164⟩, ⟨⟨hax164, haX164⟩, hay164, haY164⟩, ⟨htp164, htb164, hbh164⟩, hbk164, hrp164⟩ := hM164
  obtain ⟨g164, o164, ba164, bn164, bc164, pa164, pn164, pc164, F1164, F2164, FB164, FP164, hI159⟩ := hN157
  obtain ⟨gv164, hgd165⟩ := hI159.g1.head
  have htg166 : Df t g164 := fun e => hI159.t1 (e ▸ hI159.g1.inF)
  refine yE (nB (yR0' ?_))
  have hX167 : Ch F w32 w160 := Ch.trans hX158 (Ch.refl (fun j => j = t) w160) (fun i _ h => h ▸ hFt)
  have hA168 : TermAt w160 t T164 (more F w32 w160) := ⟨_, _, _, _, _, _, _, _, _, _, _, _, hI159.mono (fun b hb => hb.elim .inl (fun h2 => .inr ⟨h2.1, by have := Ch.size (Ch.refl (fun j => j = t) w160); omega⟩)) (hI149.moreOk hX167.size)⟩
  subst hE164
  refine ⟨rfl, TermAt.eq' (hA168.mono (more_le hpre151.size) (hI.moreOk (Nat.le_trans hpre151.size hX167.size))) ?_, Ch.trans hpre151 hX167 iZ⟩
  simp only [plainT, eq_false hpp0, eq_false hpp1, hpp2, eq_false hpp3, ↓reduceIte, Int.reduceEq, Int.reduceLT, Int.reduceLE, Bool.and_true, Bool.true_and, Bool.and_false, Bool.false_and, Bool.false_eq_true, Bool.true_eq_false, and_true, true_and, and_false, false_and, or_true, true_or, or_false, false_or]
 have hpp2 := hC127
 refine ys <| ysr <| yp 2 [] .z <| ye <| yc (rE ac.last 67) (fun hC169 => ?_) fun hC169 => ?_
 ·have hpp3 := hC169
  refine yk <| yc (rE ac.last 67) (fun hC170 => ?_) fun hC170 => ?_
  ·have hpp4 := hC170
   refine x_region <| yp 5 [] (.q6 (T.cursor.x + (paramI ac.params 0)) .z) ?_
   have hI171 := hI.scalar (T' := T) hS35 ht37 rfl rfl rfl rfl
   have hA172 : TermAt w32 t T F := ⟨_, _, _, _, _, _, _, _, _, _, _, _, hI171⟩
   have hpre173 : Ch F w w32 := hS35.mono (fun i _ h => h ▸ hFt)
   have hly174 := hB41.lt
   have hX175 : Ch F w32 w32 := Ch.trans (Ch.refl F w32) (Ch.refl (fun j => j = t) w32) (fun i _ h => h ▸ hFt)
   have hA176 : TermAt w32 t T (more F w32 w32) := ⟨_, _, _, _, _, _, _, _, _, _, _, _, hI171.mono (fun _ h => .inl h) (hI171.moreOk hX175.size)⟩
   refine yo (yQ (move_lim hA176 hT39.tb hL  ((T.cursor.x + (paramI ac.params 0))) (T.cursor.y)) ?_)
   rintro w182 ⟨hB177, hc178⟩
   obtain ⟨hN179, hX180⟩ := TermAt.next hA172 hX175 hc178 hB177
   have hL186 : Lim W H (moveT T ((T.cursor.x + (paramI ac.params 0))) (T.cursor.y)) := (lim_move hL ((T.cursor.x + (paramI ac.params 0))) (T.cursor.y))
   generalize hE186 : (moveT T ((T.cursor.x + (paramI ac.params 0))) (T.cursor.y)) = T186 at hN179 hL186
   have hM186 := hL186
   obtain ⟨⟨hwa186, hwb186⟩, ⟨hha186, hhb186⟩, ⟨hgw186, hgh186⟩, ⟨how186, hoh186⟩, ⟨⟨hcx186, hcX186⟩, hcy186, hcY186⟩, ⟨⟨hsx186, hsX186⟩, hsy186, hsY186⟩, ⟨⟨hax186, haX186⟩, hay186, haY186⟩, ⟨htp186, htb186, hbh186⟩, hbk186, hrp186⟩ := hM186
   obtain ⟨g186, o186, ba186, bn186, bc186, pa186, pn186, pc186, F1186, F2186, FB186, FP186, hI181⟩ := hN179
   obtain ⟨gv186, hgd187⟩ := hI181.g1.head
   have htg188 : Df t g186 := fun e => hI181.t1 (e ▸ hI181.g1.inF)
   refine yE (nB (yR0' ?_))
   have hX189 : Ch F w32 w182 := Ch.trans hX180 (Ch.refl (fun j => j = t) w182) (fun i _ h => h ▸ hFt)
   have hA190 : TermAt w182 t T186 (more F w32 w182) := ⟨_, _, _, _, _, _, _, _, _, _, _, _, hI181.mono (fun b hb => hb.elim .inl (fun h2 => .inr ⟨h2.1, by have := Ch.size (Ch.refl (fun j => j = t) w182); omega⟩)) (hI171.moreOk hX189.size)⟩
   subst hE186
   refine ⟨rfl, TermAt.eq' (hA190.mono (more_le hpre173.size) (hI.moreOk (Nat.le_trans hpre173.size hX189.size))) ?_, Ch.trans hpre173 hX189 iZ⟩
   simp only [plainT, eq_false hpp0, eq_false hpp1, eq_false hpp2, hpp3, hpp4, ↓reduceIte, Int.reduceEq, Int.reduceLT, Int.reduceLE, Bool.and_true, Bool.true_and, Bool.and_false, Bool.false_and, Bool.false_eq_true, Bool.true_eq_false, and_true, true_and, and_false, false_and, or_true, true_or, or_false, false_or]
  exfalso; omega
 have hpp3 := hC169
 refine x_region <| yp 2 [] .z <| ye <| yc (rE ac.last 97) (fun hC191 => ?_) fun hC191 => ?_
 ·have hpp4 := hC191
  refine x_region <| yp 5 [] (.q6 (T.cursor.x + (paramI ac.params 0)) .z) ?_
  have hI192 := hI.scalar (T' := T) hS35 ht37 rfl rfl rfl rfl
  have hA193 : TermAt w32 t T F := ⟨_, _, _, _, _, _, _, _, _, _, _, _, hI192⟩
  have hpre194 : Ch F w w32 := hS35.mono (fun i _ h => h ▸ hFt)
  have hly195 := hB41.lt
  have hX196 : Ch F w32 w32 := Ch.trans (Ch.refl F w32) (Ch.refl (fun j => j = t) w32) (fun i _ h => h ▸ hFt)
  have hA197 : TermAt w32 t T (more F w32 w32) := ⟨_, _, _, _, _, _, _, _, _, _, _, _, hI192.mono (fun _ h => .inl h) (hI192.moreOk hX196.size)⟩
  refine yo (yQ (move_lim hA197 hT39.tb hL  ((T.cursor.x + (paramI ac.params 0))) (T.cursor.y)) ?_)
  rintro w203 ⟨hB198, hc199⟩
  obtain ⟨hN200, hX201⟩ := TermAt.next hA193 hX196 hc199 hB198
  have hL207 : Lim W H (moveT T ((T.cursor.x + (paramI ac.params 0))) (T.cursor.y)) := (lim_move hL ((T.cursor.x + (paramI ac.params 0))) (T.cursor.y))
  generalize hE207 : (moveT T ((T.cursor.x + (paramI ac.params 0))) (T.cursor.y)) = T207 at hN200 hL207
  have hM207 := hL207
  obtain ⟨⟨hwa207, hwb207⟩, ⟨hha207, hhb207⟩, ⟨hgw207, hgh207⟩, ⟨how207, hoh207⟩, ⟨⟨hcx207, hcX207⟩, hcy207, hcY207⟩, ⟨⟨hsx207, hsX207⟩, hsy207, hsY207⟩, ⟨⟨hax207, haX207⟩, hay207, haY207⟩, ⟨htp207, htb207, hbh207⟩, hbk207, hrp207⟩ := hM207
  obtain ⟨g207, o207, ba207, bn207, bc207, pa207, pn207, pc207, F1207, F2207, FB207, FP207, hI202⟩ := hN200
  obtain ⟨gv207, hgd208⟩ := hI202.g1.head
  have htg209 : Df t g207 := fun e => hI202.t1 (e ▸ hI202.g1.inF)
  refine yE (nB (yR0' ?_))
  have hX210 : Ch F w32 w203 := Ch.trans hX201 (Ch.refl (fun j => j = t) w203) (fun i _ h => h ▸ hFt)
  have hA211 : TermAt w203 t T207 (more F w32 w203) := ⟨_, _, _, _, _, _, _, _, _, _, _, _, hI202.mono (fun b hb => hb.elim .inl (fun h2 => .inr ⟨h2.1, by have := Ch.size (Ch.refl (fun j => j = t) w203); omega⟩)) (hI192.moreOk hX210.size)⟩
  subst hE207
  refine ⟨rfl, TermAt.eq' (hA211.mono (more_le hpre194.size) (hI.moreOk (Nat.le_trans hpre194.size hX210.size))) ?_, Ch.trans hpre194 hX210 iZ⟩
  simp only [plainT, eq_false hpp0, eq_false hpp1, eq_false hpp2, eq_false hpp3, hpp4, ↓reduceIte, Int.reduceEq, Int.reduceLT, Int.reduceLE, Bool.and_true, Bool.true_and, Bool.and_false, Bool.false_and, Bool.false_eq_true, Bool.true_eq_false, and_true, true_and, and_false, false_and, or_true, true_or, or_false, false_or]
 have hpp4 := hC191
 refine ysr <| yp 2 [] .z <| ye <| yc (rE ac.last 68) (fun hC212 => ?_) fun hC212 => ?_
 ·have hpp5 := hC212
  refine x_region <| yp 5 [] (.q6 (T.cursor.x - (paramI ac.params 0)) .z) ?_
  have hI213 := hI.scalar (T' := T) hS35 ht37 rfl rfl rfl rfl
  have hA214 : TermAt w32 t T F := ⟨_, _, _, _, _, _, _, _, _, _, _, _, hI213⟩
  have hpre215 : Ch F w w32 := hS35.mono (fun i _ h => h ▸ hFt)
  have hly216 := hB41.lt
  have hX217 : Ch F w32 w32 := Ch.trans (Ch.refl F w32) (Ch.refl (fun j => j = t) w32) (fun i _ h => h ▸ hFt)
  have hA218 : TermAt w32 t T (more F w32 w32) := ⟨_, _, _, _, _, _, _, _, _, _, _, _, hI213.mono (fun _ h => .inl h) (hI213.moreOk hX217.size)⟩
  refine yo (yQ (move_lim hA218 hT39.tb hL  ((T.cursor.x - (paramI ac.params 0))) (T.cursor.y)) ?_)
  rintro w224 ⟨hB219, hc220⟩
  obtain ⟨hN221, hX222⟩ := TermAt.next hA214 hX217 hc220 hB219
  have hL228 : Lim W H (moveT T ((T.cursor.x - (paramI ac.params 0))) (T.cursor.y)) := (lim_move hL ((T.cursor.x - (paramI ac.params 0))) (T.cursor.y))
  generalize hE228 : (moveT T ((T.cursor.x - (paramI ac.params 0))) (T.cursor.y)) = T228 at hN221 hL228
  have hM228 := hL228
  obtain ⟨⟨hwa228, hwb228⟩, ⟨hha228, hhb228⟩, ⟨hgw228, hgh228⟩, ⟨how228, hoh228⟩, ⟨⟨hcx228, hcX228⟩, hcy228, hcY228⟩, ⟨⟨hsx228, hsX228⟩, hsy228, hsY228⟩, ⟨⟨hax228, haX228⟩, hay228, haY228⟩, ⟨htp228, htb228, hbh228⟩, hbk228, hrp228⟩ := hM228
  obtain ⟨g228, o228, ba228, bn228, bc228, pa228, pn228, pc228, F1228, F2228, FB228, FP228, hI223⟩ := hN221
  obtain ⟨gv228, hgd229⟩ := hI223.g1.head
  have htg230 : Df t g228 := fun e => hI223.t1 (e ▸ hI223.g1.inF)
  refine yE (nB (yR0' ?_))
  have hX231 : Ch F w32 w224 := Ch.trans hX222 (Ch.refl (fun j => j = t) w224) (fun i _ h => h ▸ hFt)
  have hA232 : TermAt w224 t T228 (more F w32 w224) := ⟨_, _, _, _, _, _, _, _, _, _, _, _, hI223.mono (fun b hb => hb.elim .inl (fun h2 => .inr ⟨h2.1, by have := Ch.size (Ch.refl (fun j => j = t) w224); omega⟩)) (hI213.moreOk hX231.size)⟩
  subst hE228
  refine ⟨rfl, TermAt.eq' (hA232.mono (more_le hpre215.size) (hI.moreOk (Nat.le_trans hpre215.size hX231.size))) ?_, Ch.trans hpre215 hX231 iZ⟩
  simp only [plainT, eq_false hpp0, eq_false hpp1, eq_false hpp2, eq_false hpp3, eq_false hpp4, hpp5, ↓reduceIte, Int.reduceEq, Int.reduceLT, Int.reduceLE, Bool.and_true, Bool.true_and, Bool.and_false, Bool.false_and, Bool.false_eq_true, Bool.true_eq_false, and_true, true_and, and_false, false_and, or_true, true_or, or_false, false_or]
 have hpp5 := hC212
 refine ys <| ysr <| yp 2 [] .z <| ye <| yc (rE ac.last 71) (fun hC233 => ?_) fun hC233 => ?_
 ·have hpp6 := hC233
  refine yk <| yc (rE ac.last 71) (fun hC234 => ?_) fun hC234 => ?_
  ·have hpp7 := hC234
   refine x_region <| yp 4 [] (.q6 ((paramI ac.params 0) - 1) .z) ?_
   have hI235 := hI.scalar (T' := T) hS35 ht37 rfl rfl rfl rfl
   have hA236 : TermAt w32 t T F := ⟨_, _, _, _, _, _, _, _, _, _, _, _, hI235⟩
   have hpre237 : Ch F w w32 := hS35.mono (fun i _ h => h ▸ hFt)
   have hly238 := hB41.lt
   have hX239 : Ch F w32 w32 := Ch.trans (Ch.refl F w32) (Ch.refl (fun j => j = t) w32) (fun i _ h => h ▸ hFt)
   have hA240 : TermAt w32 t T (more F w32 w32) := ⟨_, _, _, _, _, _, _, _, _, _, _, _, hI235.mono (fun _ h => .inl h) (hI235.moreOk hX239.size)⟩
   refine yo (yQ (move_lim hA240 hT39.tb hL  (((paramI ac.params 0) - 1)) (T.cursor.y)) ?_)
   rintro w246 ⟨hB241, hc242⟩
   obtain ⟨hN243, hX244⟩ := TermAt.next hA236 hX239 hc242 hB241
   have hL250 : Lim W H (moveT T (((paramI ac.params 0) - 1)) (T.cursor.y)) := (lim_move hL (((paramI ac.params 0) - 1)) (T.cursor.y))
   generalize hE250 : (moveT T (((paramI ac.params 0) - 1)) (T.cursor.y)) = T250 at hN243 hL250
   have hM250 := hL250
   obtain ⟨⟨hwa250, hwb250⟩, ⟨hha250, hhb250⟩, ⟨hgw250, hgh250⟩, ⟨how250, hoh250⟩, ⟨⟨hcx250, hcX250⟩, hcy250, hcY250⟩, ⟨⟨hsx250, hsX250⟩, hsy250, hsY250⟩, ⟨⟨hax250, haX250⟩, hay250, haY250⟩, ⟨htp250, htb250, hbh250⟩, hbk250, hrp250⟩ := hM250
   obtain ⟨g250, o250, ba250, bn250, bc250, pa250, pn250, pc250, F1250, F2250, FB250, FP250, hI245⟩ := hN243
   obtain ⟨gv250, hgd251⟩ := hI245.g1.head
   have htg252 : Df t g250 := fun e => hI245.t1 (e ▸ hI245.g1.inF)
   refine yE (nB (yR0' ?_))
   have hX253 : Ch F w32 w246 := Ch.trans hX244 (Ch.refl (fun j => j = t) w246) (fun i _ h => h ▸ hFt)
   have hA254 : TermAt w246 t T250 (more F w32 w246) := ⟨_, _, _, _, _, _, _, _, _, _, _, _, hI245.mono (fun b hb => hb.elim .inl (fun h2 => .inr ⟨h2.1, by have := Ch.size (Ch.refl (fun j => j = t) w246); omega⟩)) (hI235.moreOk hX253.size)⟩
   subst hE250
   refine ⟨rfl, TermAt.eq' (hA254.mono (more_le hpre237.size) (hI.moreOk (Nat.le_trans hpre237.size hX253.size))) ?_, Ch.trans hpre237 hX253 iZ⟩
   simp only [plainT, eq_false hpp0, eq_false hpp1, eq_false hpp2, eq_false hpp3, eq_false hpp4, eq_false hpp5, hpp6, hpp7, ↓reduceIte, Int.reduceEq, Int.reduceLT, Int.reduceLE, Bool.and_true, Bool.true_and, Bool.and_false, Bool.false_and, Bool.false_eq_true, Bool.true_eq_false, and_true, true_and, and_false, false_and, or_true, true_or, or_false, false_or]
  exfalso; omega
 have hpp6 := hC233
 refine x_region <| yp 2 [] .z <| ye <| yc (rE ac.last 96) (fun hC255 => ?_) fun hC255 => ?_
 ·have hpp7 := hC255
  refine x_region <| yp 4 [] (.q6 ((paramI ac.params 0) - 1) .z) ?_
  have hI256 := hI.scalar (T' := T) hS35 ht37 rfl rfl rfl rfl
  have hA257 : TermAt w32 t T F := ⟨_, _, _, _, _, _, _, _, _, _, _, _, hI256⟩
  have hpre258 : Ch F w w32 := hS35.mono (fun i _ h => h ▸ hFt)
  have hly259 := hB41.lt
  have hX260 : Ch F w32 w32 := Ch.trans (Ch.refl F w32) (Ch.refl (fun j => j = t) w32) (fun i _ h => h ▸ hFt)
  have hA261 : TermAt w32 t T (more F w32 w32) := ⟨_, _, _, _, _, _, _, _, _, _, _, _, hI256.mono (fun _ h => .inl h) (hI256.moreOk hX260.size)⟩
  refine yo (yQ (move_lim hA261 hT39.tb hL  (((paramI ac.params 0) - 1)) (T.cursor.y)) ?_)
  rintro w267 ⟨hB262, hc263⟩
  obtain ⟨hN264, hX265⟩ := TermAt.next hA257 hX260 hc263 hB262
  have hL271 : Lim W H (moveT T (((paramI ac.params 0) - 1)) (T.cursor.y)) := (lim_move hL (((paramI ac.params 0) - 1)) (T.cursor.y))
  generalize hE271 : (moveT T (((paramI ac.params 0) - 1)) (T.cursor.y)) = T271 at hN264 hL271
  have hM271 := hL271
  obtain ⟨⟨hwa271, hwb271⟩, ⟨hha271, hhb271⟩, ⟨hgw271, hgh271⟩, ⟨how271, hoh271⟩, ⟨⟨hcx271, hcX271⟩, hcy271, hcY271⟩, ⟨⟨hsx271, hsX271⟩, hsy271, hsY271⟩, ⟨⟨hax271, haX271⟩, hay271, haY271⟩, ⟨htp271, htb271, hbh271⟩, hbk271, hrp271⟩ := hM271
  obtain ⟨g271, o271, ba271, bn271, bc271, pa271, pn271, pc271, F1271, F2271, FB271, FP271, hI266⟩ := hN264
  obtain ⟨gv271, hgd272⟩ := hI266.g1.head
  have htg273 : Df t g271 := fun e => hI266.t1 (e ▸ hI266.g1.inF)
  refine yE (nB (yR0' ?_))
  have hX274 : Ch F w32 w267 := Ch.trans hX265 (Ch.refl (fun j => j = t) w267) (fun i _ h => h ▸ hFt)
  have hA275 : TermAt w267 t T271 (more F w32 w267) := ⟨_, _, _, _, _, _, _, _, _, _, _, _, hI266.mono (fun b hb => hb.elim .inl (fun h2 => .inr ⟨h2.1, by have := Ch.size (Ch.refl (fun j => j = t) w267); omega⟩)) (hI256.moreOk hX274.size)⟩
  subst hE271
  refine ⟨rfl, TermAt.eq' (hA275.mono (more_le hpre258.size) (hI.moreOk (Nat.le_trans hpre258.size hX274.size))) ?_, Ch.trans hpre258 hX274 iZ⟩
  simp only [plainT, eq_false hpp0, eq_false hpp1, eq_false hpp2, eq_false hpp3, eq_false hpp4, eq_false hpp5, eq_false hpp6, hpp7, ↓reduceIte, Int.reduceEq, Int.reduceLT, Int.reduceLE, Bool.and_true, Bool.true_and, Bool.and_false, Bool.false_and, Bool.false_eq_true, Bool.true_eq_false, and_true, true_and, and_false, false_and, or_true, true_or, or_false, false_or]
 have hpp7 := hC255
 refine ysr <| yp 2 [] .z <| ye <| yc (rE ac.last 100) (fun hC276 => ?_) fun hC276 => ?_
 ·have hpp8 := hC276
  refine x_region <| yp 4 [] (.q6 (T.cursor.x + 1) .z) ?_
  have hI277 := hI.scalar (T' := T) hS35 ht37 rfl rfl rfl rfl
  have hA278 : TermAt w32 t T F := ⟨_, _, _, _, _, _, _, _, _, _, _, _, hI277⟩
  have hpre279 : Ch F w w32 := hS35.mono (fun i _ h => h ▸ hFt)
  have hly280 := hB41.lt
  have hX281 : Ch F w32 w32 := Ch.trans (Ch.refl F w32) (Ch.refl (fun j => j = t) w32) (fun i _ h => h ▸ hFt)
  have hA282 : TermAt w32 t T (more F w32 w32) := ⟨_, _, _, _, _, _, _, _, _, _, _, _, hI277.mono (fun _ h => .inl h) (hI277.moreOk hX281.size)⟩
  refine yo (yQ (home_lim hA282 hT39.tb hL  ((T.cursor.x + 1)) ((paramI ac.params 0)) (by constructor <;> omega) (by constructor <;> omega)) ?_)
  rintro w288 ⟨hB283, hc284⟩
  obtain ⟨hN285, hX286⟩ := TermAt.next hA278 hX281 hc284 hB283
  have hL292 : Lim W H (homeT T ((T.cursor.x + 1)) ((paramI ac.params 0))) := (lim_home hL ((T.cursor.x + 1)) ((paramI ac.params 0)))
  generalize hE292 : (homeT T ((T.cursor.x + 1)) ((paramI ac.params 0))) = T292 at hN285 hL292
  have hM292 := hL292
  obtain ⟨⟨hwa292, hwb292⟩, ⟨hha292, hhb292⟩, ⟨hgw292, hgh292⟩, ⟨how292, hoh292⟩, ⟨⟨hcx292, hcX292⟩, hcy292, hcY292⟩, ⟨⟨hsx292, hsX292⟩, hsy292, hsY292⟩, ⟨⟨hax292, haX292⟩, hay292, haY292⟩, ⟨htp292, htb292, hbh292⟩, hbk292, hrp292⟩ := hM292
  obtain ⟨g292, o292, ba292, bn292, bc292, pa292, pn292, pc292, F1292, F2292, FB292, FP292, hI287⟩ := hN285
  obtain ⟨gv292, hgd293⟩ := hI287.g1.head
  have htg294 : Df t g292 := fun e => hI287.t1 (e ▸ hI287.g1.inF)
  refine yE (nB (yR0' ?_))
  have hX295 : Ch F w32 w288 := Ch.trans hX286 (Ch.refl (fun j => j = t) w288) (fun i _ h => h ▸ hFt)
  have hA296 : TermAt w288 t T292 (more F w32 w288) := ⟨_, _, _, _, _, _, _, _, _, _, _, _, hI287.mono (fun b hb => hb.elim .inl (fun h2 => .inr ⟨h2.1, by have := Ch.size (Ch.refl (fun j => j = t) w288); omega⟩)) (hI277.moreOk hX295.size)⟩
  subst hE292
  refine ⟨rfl, TermAt.eq' (hA296.mono (more_le hpre279.size) (hI.moreOk (Nat.le_trans hpre279.size hX295.size))) ?_, Ch.trans hpre279 hX295 iZ⟩
  simp only [plainT, eq_false hpp0, eq_false hpp1, eq_false hpp2, eq_false hpp3, eq_false hpp4, eq_false hpp5, eq_false hpp6, eq_false hpp7, hpp8, ↓reduceIte, Int.reduceEq, Int.reduceLT, Int.reduceLE, Bool.and_true, Bool.true_and, Bool.and_false, Bool.false_and, Bool.false_eq_true, Bool.true_eq_false, and_true, true_and, and_false, false_and, or_true, true_or, or_false, false_or]
 have hpp8 := hC276
 refine ys <| ysr <| yp 2 [] .z <| ye <| yc (rE ac.last 72) (fun hC297 => ?_) fun hC297 => ?_
 ·have hpp9 := hC297
  refine yk <| yc (rE ac.last 72) (fun hC298 => ?_) fun hC298 => ?_
  ·have hpp10 := hC298
   refine x_region <| yp 2 [] (.a (hB41.cs 0 6) .z) <| yo (yQ (param_act hV40 ac rfl 1) fun w300 hc299 => ?_)
   have hS301 := Ch.trans hS35 hc299 eZ
   have ht303 := ht37.ch hc299 id
   have hT305 := lt_ch hc299 hT39 (fun _ h => h.elim)
   have hB307 := hB41.ch hc299 id
   refine yp 4 [] .z ?_
   have hI308 := hI.scalar (T' := T) hS301 ht303 rfl rfl rfl rfl
   have hA309 : TermAt w300 t T F := ⟨_, _, _, _, _, _, _, _, _, _, _, _, hI308⟩
   have hpre310 : Ch F w w300 := hS301.mono (fun i _ h => h ▸ hFt)
   have hly311 := hB307.lt
   have hX312 : Ch F w300 w300 := Ch.trans (Ch.refl F w300) (Ch.refl (fun j => j = t) w300) (fun i _ h => h ▸ hFt)
   have hA313 : TermAt w300 t T (more F w300 w300) := ⟨_, _, _, _, _, _, _, _, _, _, _, _, hI308.mono (fun _ h => .inl h) (hI308.moreOk hX312.size)⟩
   refine yo (yQ (home_lim hA313 hT305.tb hL  ((paramI ac.params 1)) ((paramI ac.params 0)) (by constructor <;> omega) (by constructor <;> omega)) ?_)
   rintro w319 ⟨hB314, hc315⟩
   obtain ⟨hN316, hX317⟩ := TermAt.next hA309 hX312 hc315 hB314
   have hL323 : Lim W H (homeT T ((paramI ac.params 1)) ((paramI ac.params 0))) := (lim_home hL ((paramI ac.params 1)) ((paramI ac.params 0)))
   generalize hE323 : (homeT T ((paramI ac.params 1)) ((paramI ac.params 0))) = T323 at hN316 hL323
   have hM323 := hL323
   obtain ⟨⟨hwa323, hwb323⟩, ⟨hha323, hhb323⟩, ⟨hgw323, hgh323⟩, ⟨how323, hoh323⟩, ⟨⟨hcx323, hcX323⟩, hcy323, hcY323⟩, ⟨⟨hsx323, hsX323⟩, hsy323, hsY323⟩, ⟨⟨hax323, haX323⟩, hay323, haY323⟩, ⟨htp323, htb323, hbh323⟩, hbk323, hrp323⟩ := hM323
   obtain ⟨g323, o323, ba323, bn323, bc323, pa323, pn323, pc323, F1323, F2323, FB323, FP323, hI318⟩ := hN316
   obtain ⟨gv323, hgd324⟩ := hI318.g1.head
   have htg325 : Df t g323 := fun e => hI318.t1 (e ▸ hI318.g1.inF)
   refine yE (nB (yR0' ?_))
   have hX326 : Ch F w300 w319 := Ch.trans hX317 (Ch.refl (fun j => j = t) w319) (fun i _ h => h ▸ hFt)
   have hA327 : TermAt w319 t T323 (more F w300 w319) := ⟨_, _, _, _, _, _, _, _, _, _, _, _, hI318.mono (fun b hb => hb.elim .inl (fun h2 => .inr ⟨h2.1, by have := Ch.size (Ch.refl (fun j => j = t) w319); omega⟩)) (hI308.moreOk hX326.size)⟩
   subst hE323
   refine ⟨rfl, TermAt.eq' (hA327.mono (more_le hpre310.size) (hI.moreOk (Nat.le_trans hpre310.size hX326.size))) ?_, Ch.trans hpre310 hX326 iZ⟩
   simp only [plainT, eq_false hpp0, eq_false hpp1, eq_false hpp2, eq_false hpp3, eq_false hpp4, eq_false hpp5, eq_false hpp6, eq_false hpp7, eq_false hpp8, hpp9, hpp10, ↓reduceIte, Int.reduceEq, Int.reduceLT, Int.reduceLE, Bool.and_true, Bool.true_and, Bool.and_false, Bool.false_and, Bool.false_eq_true, Bool.true_eq_false, and_true, true_and, and_false, false_and, or_true, true_or, or_false, false_or]
  exfalso; omega
 have hpp9 := hC297
 refine x_region <| yp 2 [] .z <| ye <| yc (rE ac.last 102) (fun hC328 => ?_) fun hC328 => ?_
 ·have hpp10 := hC328
  refine x_region <| yp 2 [] (.a (hB41.cs 0 6) .z) <| yo (yQ (param_act hV40 ac rfl 1) fun w330 hc329 => ?_)
  have hS331 := Ch.trans hS35 hc329 eZ
  have ht333 := ht37.ch hc329 id
  have hT335 := lt_ch hc329 hT39 (fun _ h => h.elim)
  have hB337 := hB41.ch hc329 id
  refine yp 4 [] .z ?_
  have hI338 := hI.scalar (T' := T) hS331 ht333 rfl rfl rfl rfl
  have hA339 : TermAt w330 t T F := ⟨_, _, _, _, _, _, _, _, _, _, _, _, hI338⟩
  have hpre340 : Ch F w w330 := hS331.mono (fun i _ h => h ▸ hFt)
  have hly341 := hB337.lt
  have hX342 : Ch F w330 w330 := Ch.trans (Ch.refl F w330) (Ch.refl (fun j => j = t) w330) (fun i _ h => h ▸ hFt)
  have hA343 : TermAt w330 t T (more F w330 w330) := ⟨_, _, _, _, _, _, _, _, _, _, _, _, hI338.mono (fun _ h => .inl h) (hI338.moreOk hX342.size)⟩
  refine yo (yQ (home_lim hA343 hT335.tb hL  ((paramI ac.params 1)) ((paramI ac.params 0)) (by constructor <;> omega) (by constructor <;> omega)) ?_)
  rintro w349 ⟨hB344, hc345⟩
  obtain ⟨hN346, hX347⟩ := TermAt.next hA339 hX342 hc345 hB344
  have hL353 : Lim W H (homeT T ((paramI ac.params 1)) ((paramI ac.params 0))) := (lim_home hL ((paramI ac.params 1)) ((paramI ac.params 0)))
  generalize hE353 : (homeT T ((paramI ac.params 1)) ((paramI ac.params 0))) = T353 at hN346 hL353
  have hM353 := hL353
  obtain ⟨⟨hwa353, hwb353⟩, ⟨hha353, hhb353⟩, ⟨hgw353, hgh353⟩, ⟨how353, hoh353⟩, ⟨⟨hcx353, hcX353⟩, hcy353, hcY353⟩, ⟨⟨hsx353, hsX353⟩, hsy353, hsY353⟩, ⟨⟨hax353, haX353⟩, hay353, haY353⟩, ⟨htp353, htb353, hbh353⟩, hbk353, hrp353⟩ := hM353
  obtain ⟨g353, o353, ba353, bn353, bc353, pa353, pn353, pc353, F1353, F2353, FB353, FP353, hI348⟩ := hN346
  obtain ⟨gv353, hgd354⟩ := hI348.g1.head
  have htg355 : Df t g353 := fun e => hI348.t1 (e ▸ hI348.g1.inF)
  refine yE (nB (yR0' ?_))
  have hX356 : Ch F w330 w349 := Ch.trans hX347 (Ch.refl (fun j => j = t) w349) (fun i _ h => h ▸ hFt)
  have hA357 : TermAt w349 t T353 (more F w330 w349) := ⟨_, _, _, _, _, _, _, _, _, _, _, _, hI348.mono (fun b hb => hb.elim .inl (fun h2 => .inr ⟨h2.1, by have := Ch.size (Ch.refl (fun j => j = t) w349); omega⟩)) (hI338.moreOk hX356.size)⟩
  subst hE353
  refine ⟨rfl, TermAt.eq' (hA357.mono (more_le hpre340.size) (hI.moreOk (Nat.le_trans hpre340.size hX356.size))) ?_, Ch.trans hpre340 hX356 iZ⟩
  simp only [plainT, eq_false hpp0, eq_false hpp1, eq_false hpp2, eq_false hpp3, eq_false hpp4, eq_false hpp5, eq_false hpp6, eq_false hpp7, eq_false hpp8, eq_false hpp9, hpp10, ↓reduceIte, Int.reduceEq, Int.reduceLT, Int.reduceLE, Bool.and_true, Bool.true_and, Bool.and_false, Bool.false_and, Bool.false_eq_true, Bool.true_eq_false, and_true, true_and, and_false, false_and, or_true, true_or, or_false, false_or]
 have hpp10 := hC328
 refine ysr <| yp 2 [] .z <| ye <| yc (rE ac.last 109) (fun hC358 => ?_) fun hC358 => ?_
 ·have hpp11 := hC358
  refine yD [8, 12] fun w359 hH360 hc361 => ?_
  have hS362 := Ch.trans hS35 hc361 eZ
  have ht364 := ht37.ch hc361 id
  have hV367 := hV40.ch hc361 iZ
  have hB368 := hB41.ch hc361 id
  refine yd (uL 0 8) [] (.a (ht364.cs 5 5) (.l (hB368.c 4) .z)) <| yK 8 (yQ (changes_act hV367 T.cursor.sty (by omega)) fun w370 hc369 => ?_)
  have hS371 := Ch.trans hS362 hc369 eZ
  have ht373 := ht364.ch hc369 id
  refine x_killed <| yd (uL 9 3) [] .z <| yK 12 (e_store 5 [.bool (changesS T.cursor.sty ac.params).bold, .bool (changesS T.cursor.sty ac.params).under, .bool (changesS T.cursor.sty ac.params).turned, iX (changesS T.cursor.sty ac.params).fore, iX (changesS T.cursor.sty ac.params).back] none (by kernel_rfl) ht373 (of_ble (by kernel_rfl)) ?_)
  intro w378 hB379 hc380
  replace hB379 : Blk w378 t (TS.vals ({ T with cursor := (Cur.mk T.cursor.x T.cursor.y T.cursor.late (changesS T.cursor.sty ac.params)) } : TS) g o (.slice ba bn bc) (.slice pa pn pc)) tTerm := Blk.to hB379 (by kernel_rfl)
  have hS382 := Ch.trans hS371 hc380 (fun i hi (h : i = t) => h)
  refine x_killed <| yDe (nB (yR0' ?_))
  have hI387 := hI.scalar (T' := ({ T with cursor := (Cur.mk T.cursor.x T.cursor.y T.cursor.late (changesS T.cursor.sty ac.params)) } : TS)) hS382 hB379 rfl rfl rfl rfl
  have hX388 : Ch F w w378 := Ch.trans (Ch.refl F w) hS382 (fun i _ h => h ▸ hFt)
  have hA389 : TermAt w378 t ({ T with cursor := (Cur.mk T.cursor.x T.cursor.y T.cursor.late (changesS T.cursor.sty ac.params)) } : TS) (more F w w378) := ⟨_, _, _, _, _, _, _, _, _, _, _, _, hI387.mono (fun _ h => .inl h) (hI.moreOk hX388.size)⟩
  refine ⟨rfl, TermAt.eq' hA389 ?_, hX388⟩
  simp only [plainT, eq_false hpp0, eq_false hpp1, eq_false hpp2, eq_false hpp3, eq_false hpp4, eq_false hpp5, eq_false hpp6, eq_false hpp7, eq_false hpp8, eq_false hpp9, eq_false hpp10, hpp11, ↓reduceIte, Int.reduceEq, Int.reduceLT, Int.reduceLE, Bool.and_true, Bool.true_and, Bool.and_false, Bool.false_and, Bool.false_eq_true, Bool.true_eq_false, and_true, true_and, and_false, false_and, or_true, true_or, or_false, false_or]
 have hpp11 := hC358
 refine ysr <| yp 2 [] .z <| ye <| yc (rE ac.last 114) (fun hC390 => ?_) fun hC390 => ?_
 ·have hpp12 := hC390
  rcases ao with _ | ab
  ·have hnil : ac.params = [] := by have := hV.1.1 rfl; simpa using this
   have hn0 : an = 0 := by have := hV.2.1; rw [hnil] at this; exact this.symm
   have hnl : ac.params.length = an := hV.2.1
   refine ysr <| yp 8 [] (.l (ht37.c 0) (.l (hg38.c 1) .z)) <| ye <| ys <| ysr <| yp 5 [] (.l (hB41.c 4) .z) <| yw [144] (rL 1 ((an : Nat) : Int)) (fun hC391 => ?_) fun hC391 => ?_
   ·exfalso; omega
   have hpp13 := hC391
   refine yp 11 [] .z <| ye <| ycf <| yk <| ysr <| yp 3 [] .z <| ye <| yc (rL (paramI ac.params 0) T.grid.h) (fun hC392 => ?_) fun hC392 => ?_
   ·have hpp14 := hC392
    refine ysr <| yp 7 [] (.q6 ((paramI ac.params 0) - 1) .z) <| yo (e_store 26 [iX ((paramI ac.params 0) - 1)] none (by kernel_rfl) ht37 (of_ble (by kernel_rfl)) ?_)
    intro w393 hB394 hc395
    replace hB394 : Blk w393 t (TS.vals ({ T with top := ((paramI ac.params 0) - 1) } : TS) g o (.slice ba bn bc) (.slice pa pn pc)) tTerm := Blk.to hB394 (by kernel_rfl)
    have hS397 := Ch.trans hS35 hc395 (fun i hi (h : i = t) => h)
    have hT399 := lt_ch hc395 hT39 (fun b (h : b = t) => h ▸ hI.hi t hFt)
    have hB401 := hB41.ch hc395 (fun (h : b11 = t) => by have := hI.blk.lt; omega)
    refine yp 10 [] .z <| yo (e_store 27 [iX T.grid.h] none (by kernel_rfl) hB394 (of_ble (by kernel_rfl)) ?_)
    intro w402 hB403 hc404
    replace hB403 : Blk w402 t (TS.vals ({ T with top := ((paramI ac.params 0) - 1), bot := T.grid.h } : TS) g o (.slice ba bn bc) (.slice pa pn pc)) tTerm := Blk.to hB403 (by kernel_rfl)
    have hS406 := Ch.trans hS397 hc404 (fun i hi (h : i = t) => h)
    have hT408 := lt_ch hc404 hT399 (fun b (h : b = t) => h ▸ hI.hi t hFt)
    have hB410 := hB401.ch hc404 (fun (h : b11 = t) => by have := hI.blk.lt; omega)
    refine ye <| x_region <| yp 1 [] .z ?_
    have hI411 := hI.scalar (T' := ({ T with top := ((paramI ac.params 0) - 1), bot := T.grid.h } : TS)) hS406 hB403 rfl rfl rfl rfl
    have hA412 : TermAt w402 t ({ T with top := ((paramI ac.params 0) - 1), bot := T.grid.h } : TS) F := ⟨_, _, _, _, _, _, _, _, _, _, _, _, hI411⟩
    have hpre413 : Ch F w w402 := hS406.mono (fun i _ h => h ▸ hFt)
    have hly414 := hB410.lt
    have hL415 : Lim W H ({ T with top := ((paramI ac.params 0) - 1), bot := T.grid.h } : TS) := { hL with tb := ⟨(show (0 : Int) ≤ ((paramI ac.params 0) - 1) by omega), (show (((paramI ac.params 0) - 1) : Int) < T.grid.h by omega), (show (T.grid.h : Int) ≤ H by omega)⟩ }
    have hI416 := hI411.scalar (T' := ({ T with top := ((paramI ac.params 0) - 1), bot := T.grid.h } : TS)) (Ch.refl (fun j => j = t) w402) hB403 rfl rfl rfl rfl
    have hX417 : Ch F w402 w402 := Ch.trans (Ch.refl F w402) (Ch.refl (fun j => j = t) w402) (fun i _ h => h ▸ hFt)
    have hA418 : TermAt w402 t ({ T with top := ((paramI ac.params 0) - 1), bot := T.grid.h } : TS) (more F w402 w402) := ⟨_, _, _, _, _, _, _, _, _, _, _, _, hI416.mono (fun _ h => .inl h) (hI411.moreOk hX417.size)⟩
    refine yo (yQ (home_lim hA418 hT408.tb hL415  (1) (1) (by constructor <;> omega) (by constructor <;> omega)) ?_)
    rintro w424 ⟨hB419, hc420⟩
    obtain ⟨hN421, hX422⟩ := TermAt.next hA412 hX417 hc420 hB419
    have hL428 : Lim W H (homeT ({ T with top := ((paramI ac.params 0) - 1), bot := T.grid.h } : TS) (1) (1)) := (lim_home hL415 (1) (1))
    generalize hE428 : (homeT ({ T with top := ((paramI ac.params 0) - 1), bot := T.grid.h } : TS) (1) (1)) = T428 at hN421 hL428
    have hM428 := hL428
    obtain ⟨⟨hwa428, hwb428⟩, ⟨hha428, hhb428⟩, ⟨hgw428, hgh428⟩, ⟨how428, hoh428⟩, ⟨⟨hcx428, hcX428⟩, hcy428, hcY428⟩, ⟨⟨hsx428, hsX428⟩, hsy428, hsY428⟩, ⟨⟨hax428, haX428⟩, hay428, haY428⟩, ⟨htp428, htb428, hbh428⟩, hbk428, hrp428⟩ := hM428
    obtain ⟨g428, o428, ba428, bn428, bc428, pa428, pn428, pc428, F1428, F2428, FB428, FP428, hI423⟩ := hN421
    obtain ⟨gv428, hgd429⟩ := hI423.g1.head
    have htg430 : Df t g428 := fun e => hI423.t1 (e ▸ hI423.g1.inF)
    refine yE (nB (yR0' ?_))
    have hX431 : Ch F w402 w424 := Ch.trans hX422 (Ch.refl (fun j => j = t) w424) (fun i _ h => h ▸ hFt)
    have hA432 : TermAt w424 t T428 (more F w402 w424) := ⟨_, _, _, _, _, _, _, _, _, _, _, _, hI423.mono (fun b hb => hb.elim .inl (fun h2 => .inr ⟨h2.1, by have := Ch.size (Ch.refl (fun j => j = t) w424); omega⟩)) (hI411.moreOk hX431.size)⟩
    subst hE428
    refine ⟨rfl, TermAt.eq' (hA432.mono (more_le hpre413.size) (hI.moreOk (Nat.le_trans hpre413.size hX431.size))) ?_, Ch.trans hpre413 hX431 iZ⟩
    simp only [plainT, eq_false hpp0, eq_false hpp1, eq_false hpp2, eq_false hpp3, eq_false hpp4, eq_false hpp5, eq_false hpp6, eq_false hpp7, eq_false hpp8, eq_false hpp9, eq_false hpp10, eq_false hpp11, hpp12, eq_false hpp13, eq_true hpp14, hnl, ↓reduceIte, Int.reduceEq, Int.reduceLT, Int.reduceLE, Bool.and_true, Bool.true_and, Bool.and_false, Bool.false_and, Bool.false_eq_true, Bool.true_eq_false, and_true, true_and, and_false, false_and, or_true, true_or, or_false, false_or]
   have hpp14 := hC392
   refine x_skip (nB (yR0' ?_))
   have hI433 := hI.scalar (T' := T) hS35 ht37 rfl rfl rfl rfl
   have hX434 : Ch F w w32 := Ch.trans (Ch.refl F w) hS35 (fun i _ h => h ▸ hFt)
   have hA435 : TermAt w32 t T (more F w w32) := ⟨_, _, _, _, _, _, _, _, _, _, _, _, hI433.mono (fun _ h => .inl h) (hI.moreOk hX434.size)⟩
   refine ⟨rfl, TermAt.eq' hA435 ?_, hX434⟩
   simp only [plainT, eq_false hpp0, eq_false hpp1, eq_false hpp2, eq_false hpp3, eq_false hpp4, eq_false hpp5, eq_false hpp6, eq_false hpp7, eq_false hpp8, eq_false hpp9, eq_false hpp10, eq_false hpp11, hpp12, eq_false hpp13, eq_false hpp14, hnl, ↓reduceIte, Int.reduceEq, Int.reduceLT, Int.reduceLE, Bool.and_true, Bool.true_and, Bool.and_false, Bool.false_and, Bool.false_eq_true, Bool.true_eq_false, and_true, true_and, and_false, false_and, or_true, true_or, or_false, false_or]
  have hnl : ac.params.length = an := hV.2.1
  have hq1 := getD_bd hVb (by decide) 1
  refine ysr <| yp 8 [] (.l (ht37.c 0) (.l (hg38.c 1) .z)) <| ye <| ys <| ysr <| yp 5 [] (.l (hB41.c 4) .z) <| yw [144] (rL 1 ((an : Nat) : Int)) (fun hC436 => ?_) fun hC436 => ?_
  ·have hpp13 := hC436
   refine yp 11 [] (.l (hB41.c 4) (.i 1 (an) (.l (o := 1) (ints_at0 hV40.1 1 (by omega)) .z))) <| ye <| yc (rL 0 (ac.params.getD 1 0)) (fun hC437 => ?_) fun hC437 => ?_
   ·have hpp14 := hC437
    refine yD [] fun w438 hH439 hc440 => ?_
    have hS441 := Ch.trans hS35 hc440 eZ
    have ht443 := ht37.ch hc440 id
    have hg444 := hg38.ch hc440 id
    have hT445 := lt_ch hc440 hT39 (fun _ h => h.elim)
    have hV446 := hV40.ch hc440 iZ
    have hB447 := hB41.ch hc440 id
    refine yd (uL 0 13) [] (.l (hB447.c 4) (.i 1 (an) (.l (o := 1) (ints_at0 hV446.1 1 (by omega)) (.l (ht443.c 0) (.l (hg444.c 1) .z))))) <| yDe (nS ?_)
    refine ysr <| yp 3 [] .z <| ye <| yc (rL (paramI ac.params 0) (min ((ac.params.getD 1 0) : Int) T.grid.h)) (fun hC448 => ?_) fun hC448 => ?_
    ·have hpp15 := hC448
     refine ysr <| yp 7 [] (.q6 ((paramI ac.params 0) - 1) .z) <| yo (e_store 26 [iX ((paramI ac.params 0) - 1)] none (by kernel_rfl) ht443 (of_ble (by kernel_rfl)) ?_)
     intro w449 hB450 hc451
     replace hB450 : Blk w449 t (TS.vals ({ T with top := ((paramI ac.params 0) - 1) } : TS) g o (.slice ba bn bc) (.slice pa pn pc)) tTerm := Blk.to hB450 (by kernel_rfl)
     have hS453 := Ch.trans hS441 hc451 (fun i hi (h : i = t) => h)
     have hT455 := lt_ch hc451 hT445 (fun b (h : b = t) => h ▸ hI.hi t hFt)
     have hB457 := hB447.ch hc451 (fun (h : b11 = t) => by have := hI.blk.lt; omega)
     refine yp 10 [] .z <| yo (e_store 27 [iX (min ((ac.params.getD 1 0) : Int) T.grid.h)] none (by kernel_rfl) hB450 (of_ble (by kernel_rfl)) ?_)
     intro w458 hB459 hc460
     replace hB459 : Blk w458 t (TS.vals ({ T with top := ((paramI ac.params 0) - 1), bot := (min ((ac.params.getD 1 0) : Int) T.grid.h) } : TS) g o (.slice ba bn bc) (.slice pa pn pc)) tTerm := Blk.to hB459 (by kernel_rfl)
     have hS462 := Ch.trans hS453 hc460 (fun i hi (h : i = t) => h)
     have hT464 := lt_ch hc460 hT455 (fun b (h : b = t) => h ▸ hI.hi t hFt)
     have hB466 := hB457.ch hc460 (fun (h : b11 = t) => by have := hI.blk.lt; omega)
     refine ye <| x_region <| yp 1 [] .z ?_
     have hI467 := hI.scalar (T' := ({ T with top := ((paramI ac.params 0) - 1), bot := (min ((ac.params.getD 1 0) : Int) T.grid.h) } : TS)) hS462 hB459 rfl rfl rfl rfl
     have hA468 : TermAt w458 t ({ T with top := ((paramI ac.params 0) - 1), bot := (min ((ac.params.getD 1 0) : Int) T.grid.h) } : TS) F := ⟨_, _, _, _, _, _, _, _, _, _, _, _, hI467⟩
     have hpre469 : Ch F w w458 := hS462.mono (fun i _ h => h ▸ hFt)
     have hly470 := hB466.lt
     have hL471 : Lim W H ({ T with top := ((paramI ac.params 0) - 1), bot := (min ((ac.params.getD 1 0) : Int) T.grid.h) } : TS) := { hL with tb := ⟨(show (0 : Int) ≤ ((paramI ac.params 0) - 1) by omega), (show (((paramI ac.params 0) - 1) : Int) < (min ((ac.params.getD 1 0) : Int) T.grid.h) by omega), (show ((min ((ac.params.getD 1 0) : Int) T.grid.h) : Int) ≤ H by omega)⟩ }
     have hI472 := hI467.scalar (T' := ({ T with top := ((paramI ac.params 0) - 1), bot := (min ((ac.params.getD 1 0) : Int) T.grid.h) } : TS)) (Ch.refl (fun j => j = t) w458) hB459 rfl rfl rfl rfl
     have hX473 : Ch F w458 w458 := Ch.trans (Ch.refl F w458) (Ch.refl (fun j => j = t) w458) (fun i _ h => h ▸ hFt)
     have hA474 : TermAt w458 t ({ T with top := ((paramI ac.params 0) - 1), bot := (min ((ac.params.getD 1 0) : Int) T.grid.h) } : TS) (more F w458 w458) := ⟨_, _, _, _, _, _, _, _, _, _, _, _, hI472.mono (fun _ h => .inl h) (hI467.moreOk hX473.size)⟩
     refine yo (yQ (home_lim hA474 hT464.tb hL471  (1) (1) (by constructor <;> omega) (by constructor <;> omega)) ?_)
     rintro w480 ⟨hB475, hc476⟩
     obtain ⟨hN477, hX478⟩ := TermAt.next hA468 hX473 hc476 hB475
     have hL484 : Lim W H (homeT ({ T with top := ((paramI ac.params 0) - 1), bot := (min ((ac.params.getD 1 0) : Int) T.grid.h) } : TS) (1) (1)) := (lim_home hL471 (1) (1))
     generalize hE484 : (homeT ({ T with top := ((paramI ac.params 0) - 1), bot := (min ((ac.params.getD 1 0) : Int) T.grid.h) } : TS) (1) (1)) = T484 at hN477 hL484
     have hM484 := hL484
     obtain ⟨⟨hwa484, hwb484⟩, ⟨hha484, hhb484⟩, ⟨hgw484, hgh484⟩, ⟨how484, hoh484⟩, ⟨⟨hcx484, hcX484⟩, hcy484, hcY484⟩, ⟨⟨hsx484, hsX484⟩, hsy484, hsY484⟩, ⟨⟨hax484, haX484⟩, hay484, haY484⟩, ⟨htp484, htb484, hbh484⟩, hbk484, hrp484⟩ := hM484
     obtain ⟨g484, o484, ba484, bn484, bc484, pa484, pn484, pc484, F1484, F2484, FB484, FP484, hI479⟩ := hN477
     obtain ⟨gv484, hgd485⟩ := hI479.g1.head
     have htg486 : Df t g484 := fun e => hI479.t1 (e ▸ hI479.g1.inF)
     refine yE (nB (yR0' ?_))
     have hX487 : Ch F w458 w480 := Ch.trans hX478 (Ch.refl (fun j => j = t) w480) (fun i _ h => h ▸ hFt)
     have hA488 : TermAt w480 t T484 (more F w458 w480) := ⟨_, _, _, _, _, _, _, _, _, _, _, _, hI479.mono (fun b hb => hb.elim .inl (fun h2 => .inr ⟨h2.1, by have := Ch.size (Ch.refl (fun j => j = t) w480); omega⟩)) (hI467.moreOk hX487.size)⟩
     subst hE484
     refine ⟨rfl, TermAt.eq' (hA488.mono (more_le hpre469.size) (hI.moreOk (Nat.le_trans hpre469.size hX487.size))) ?_, Ch.trans hpre469 hX487 iZ⟩
     simp only [plainT, eq_false hpp0, eq_false hpp1, eq_false hpp2, eq_false hpp3, eq_false hpp4, eq_false hpp5, eq_false hpp6, eq_false hpp7, eq_false hpp8, eq_false hpp9, eq_false hpp10, eq_false hpp11, hpp12, eq_true hpp13, eq_true hpp14, eq_true hpp15, hnl, ↓reduceIte, Int.reduceEq, Int.reduceLT, Int.reduceLE, Bool.and_true, Bool.true_and, Bool.and_false, Bool.false_and, Bool.false_eq_true, Bool.true_eq_false, and_true, true_and, and_false, false_and, or_true, true_or, or_false, false_or]
    have hpp15 := hC448
    refine x_skip (nB (yR0' ?_))
    have hI489 := hI.scalar (T' := T) hS441 ht443 rfl rfl rfl rfl
    have hX490 : Ch F w w438 := Ch.trans (Ch.refl F w) hS441 (fun i _ h => h ▸ hFt)
    have hA491 : TermAt w438 t T (more F w w438) := ⟨_, _, _, _, _, _, _, _, _, _, _, _, hI489.mono (fun _ h => .inl h) (hI.moreOk hX490.size)⟩
    refine ⟨rfl, TermAt.eq' hA491 ?_, hX490⟩
    simp only [plainT, eq_false hpp0, eq_false hpp1, eq_false hpp2, eq_false hpp3, eq_false hpp4, eq_false hpp5, eq_false hpp6, eq_false hpp7, eq_false hpp8, eq_false hpp9, eq_false hpp10, eq_false hpp11, hpp12, eq_true hpp13, eq_true hpp14, eq_false hpp15, hnl, ↓reduceIte, Int.reduceEq, Int.reduceLT, Int.reduceLE, Bool.and_true, Bool.true_and, Bool.and_false, Bool.false_and, Bool.false_eq_true, Bool.true_eq_false, and_true, true_and, and_false, false_and, or_true, true_or, or_false, false_or]
   have hpp14 := hC437
   refine yk <| ysr <| yp 3 [] .z <| ye <| yc (rL (paramI ac.params 0) T.grid.h) (fun hC492 => ?_) fun hC492 => ?_
   ·have hpp15 := hC492
    refine ysr <| yp 7 [] (.q6 ((paramI ac.params 0) - 1) .z) <| yo (e_store 26 [iX ((paramI ac.params 0) - 1)] none (by kernel_rfl) ht37 (of_ble (by kernel_rfl)) ?_)
    intro w493 hB494 hc495
    replace hB494 : Blk w493 t (TS.vals ({ T with top := ((paramI ac.params 0) - 1) } : TS) g o (.slice ba bn bc) (.slice pa pn pc)) tTerm := Blk.to hB494 (by kernel_rfl)
    have hS497 := Ch.trans hS35 hc495 (fun i hi (h : i = t) => h)
    have hT499 := lt_ch hc495 hT39 (fun b (h : b = t) => h ▸ hI.hi t hFt)
    have hB501 := hB41.ch hc495 (fun (h : b11 = t) => by have := hI.blk.lt; omega)
    refine yp 10 [] .z <| yo (e_store 27 [iX T.grid.h] none (by kernel_rfl) hB494 (of_ble (by kernel_rfl)) ?_)
    intro w502 hB503 hc504
    replace hB503 : Blk w502 t (TS.vals ({ T with top := ((paramI ac.params 0) - 1), bot := T.grid.h } : TS) g o (.slice ba bn bc) (.slice pa pn pc)) tTerm := Blk.to hB503 (by kernel_rfl)
    have hS506 := Ch.trans hS497 hc504 (fun i hi (h : i = t) => h)
    have hT508 := lt_ch hc504 hT499 (fun b (h : b = t) => h ▸ hI.hi t hFt)
    have hB510 := hB501.ch hc504 (fun (h : b11 = t) => by have := hI.blk.lt; omega)
    refine ye <| x_region <| yp 1 [] .z ?_
    have hI511 := hI.scalar (T' := ({ T with top := ((paramI ac.params 0) - 1), bot := T.grid.h } : TS)) hS506 hB503 rfl rfl rfl rfl
    have hA512 : TermAt w502 t ({ T with top := ((paramI ac.params 0) - 1), bot := T.grid.h } : TS) F := ⟨_, _, _, _, _, _, _, _, _, _, _, _, hI511⟩
    have hpre513 : Ch F w w502 := hS506.mono (fun i _ h => h ▸ hFt)
    have hly514 := hB510.lt
    have hL515 : Lim W H ({ T with top := ((paramI ac.params 0) - 1), bot := T.grid.h } : TS) := { hL with tb := ⟨(show (0 : Int) ≤ ((paramI ac.params 0) - 1) by omega), (show (((paramI ac.params 0) - 1) : Int) < T.grid.h by omega), (show (T.grid.h : Int) ≤ H by omega)⟩ }
    have hI516 := hI511.scalar (T' := ({ T with top := ((paramI ac.params 0) - 1), bot := T.grid.h } : TS)) (Ch.refl (fun j => j = t) w502) hB503 rfl rfl rfl rfl
    have hX517 : Ch F w502 w502 := Ch.trans (Ch.refl F w502) (Ch.refl (fun j => j = t) w502) (fun i _ h => h ▸ hFt)
    have hA518 : TermAt w502 t ({ T with top := ((paramI ac.params 0) - 1), bot := T.grid.h } : TS) (more F w502 w502) := ⟨_, _, _, _, _, _, _, _, _, _, _, _, hI516.mono (fun _ h => .inl h) (hI511.moreOk hX517.size)⟩
    refine yo (yQ (home_lim hA518 hT508.tb hL515  (1) (1) (by constructor <;> omega) (by constructor <;> omega)) ?_)
    rintro w524 ⟨hB519, hc520⟩
    obtain ⟨hN521, hX522⟩ := TermAt.next hA512 hX517 hc520 hB519
    have hL528 : Lim W H (homeT ({ T with top := ((paramI ac.params 0) - 1), bot := T.grid.h } : TS) (1) (1)) := (lim_home hL515 (1) (1))
    generalize hE528 : (homeT ({ T with top := ((paramI ac.params 0) - 1), bot := T.grid.h } : TS) (1) (1)) = T528 at hN521 hL528
    have hM528 := hL528
    obtain ⟨⟨hwa528, hwb528⟩, ⟨hha528, hhb528⟩, ⟨hgw528, hgh528⟩, ⟨how528, hoh528⟩, ⟨⟨hcx528, hcX528⟩, hcy528, hcY528⟩, ⟨⟨hsx528, hsX528⟩, hsy528, hsY528⟩, ⟨⟨hax528, haX528⟩, hay528, haY528⟩, ⟨htp528, htb528, hbh528⟩, hbk528, hrp528⟩ := hM528
    obtain ⟨g528, o528, ba528, bn528, bc528, pa528, pn528, pc528, F1528, F2528, FB528, FP528, hI523⟩ := hN521
    obtain ⟨gv528, hgd529⟩ := hI523.g1.head
    have htg530 : Df t g528 := fun e => hI523.t1 (e ▸ hI523.g1.inF)
    refine yE (nB (yR0' ?_))
    have hX531 : Ch F w502 w524 := Ch.trans hX522 (Ch.refl (fun j => j = t) w524) (fun i _ h => h ▸ hFt)
    have hA532 : TermAt w524 t T528 (more F w502 w524) := ⟨_, _, _, _, _, _, _, _, _, _, _, _, hI523.mono (fun b hb => hb.elim .inl (fun h2 => .inr ⟨h2.1, by have := Ch.size (Ch.refl (fun j => j = t) w524); omega⟩)) (hI511.moreOk hX531.size)⟩
    subst hE528
    refine ⟨rfl, TermAt.eq' (hA532.mono (more_le hpre513.size) (hI.moreOk (Nat.le_trans hpre513.size hX531.size))) ?_, Ch.trans hpre513 hX531 iZ⟩
    simp only [plainT, eq_false hpp0, eq_false hpp1, eq_false hpp2, eq_false hpp3, eq_false hpp4, eq_false hpp5, eq_false hpp6, eq_false hpp7, eq_false hpp8, eq_false hpp9, eq_false hpp10, eq_false hpp11, hpp12, eq_true hpp13, eq_false hpp14, eq_true hpp15, hnl, ↓reduceIte, Int.reduceEq, Int.reduceLT, Int.reduceLE, Bool.and_true, Bool.true_and, Bool.and_false, Bool.false_and, Bool.false_eq_true, Bool.true_eq_false, and_true, true_and, and_false, false_and, or_true, true_or, or_false, false_or]
   have hpp15 := hC492
   refine x_skip (nB (yR0' ?_))
   have hI533 := hI.scalar (T' := T) hS35 ht37 rfl rfl rfl rfl
   have hX534 : Ch F w w32 := Ch.trans (Ch.refl F w) hS35 (fun i _ h => h ▸ hFt)
   have hA535 : TermAt w32 t T (more F w w32) := ⟨_, _, _, _, _, _, _, _, _, _, _, _, hI533.mono (fun _ h => .inl h) (hI.moreOk hX534.size)⟩
   refine ⟨rfl, TermAt.eq' hA535 ?_, hX534⟩
   simp only [plainT, eq_false hpp0, eq_false hpp1, eq_false hpp2, eq_false hpp3, eq_false hpp4, eq_false hpp5, eq_false hpp6, eq_false hpp7, eq_false hpp8, eq_false hpp9, eq_false hpp10, eq_false hpp11, hpp12, eq_true hpp13, eq_false hpp14, eq_false hpp15, hnl, ↓reduceIte, Int.reduceEq, Int.reduceLT, Int.reduceLE, Bool.and_true, Bool.true_and, Bool.and_false, Bool.false_and, Bool.false_eq_true, Bool.true_eq_false, and_true, true_and, and_false, false_and, or_true, true_or, or_false, false_or]
  have hpp13 := hC436
  refine yp 11 [] .z <| ye <| ycf <| yk <| ysr <| yp 3 [] .z <| ye <| yc (rL (paramI ac.params 0) T.grid.h) (fun hC536 => ?_) fun hC536 => ?_
  ·have hpp14 := hC536
   refine ysr <| yp 7 [] (.q6 ((paramI ac.params 0) - 1) .z) <| yo (e_store 26 [iX ((paramI ac.params 0) - 1)] none (by kernel_rfl) ht37 (of_ble (by kernel_rfl)) ?_)
   intro w537 hB538 hc539
   replace hB538 : Blk w537 t (TS.vals ({ T with top := ((paramI ac.params 0) - 1) } : TS) g o (.slice ba bn bc) (.slice pa pn pc)) tTerm := Blk.to hB538 (by kernel_rfl)
   have hS541 := Ch.trans hS35 hc539 (fun i hi (h : i = t) => h)
   have hT543 := lt_ch hc539 hT39 (fun b (h : b = t) => h ▸ hI.hi t hFt)
   have hB545 := hB41.ch hc539 (fun (h : b11 = t) => by have := hI.blk.lt; omega)
   refine yp 10 [] .z <| yo (e_store 27 [iX T.grid.h] none (by kernel_rfl) hB538 (of_ble (by kernel_rfl)) ?_)
   intro w546 hB547 hc548
   replace hB547 : Blk w546 t (TS.vals ({ T with top := ((paramI ac.params 0) - 1), bot := T.grid.h } : TS) g o (.slice ba bn bc) (.slice pa pn pc)) tTerm := Blk.to hB547 (by kernel_rfl)
   have hS550 := Ch.trans hS541 hc548 (fun i hi (h : i = t) => h)
   have hT552 := lt_ch hc548 hT543 (fun b (h : b = t) => h ▸ hI.hi t hFt)
   have hB554 := hB545.ch hc548 (fun (h : b11 = t) => by have := hI.blk.lt; omega)
   refine ye <| x_region <| yp 1 [] .z ?_
   have hI555 := hI.scalar (T' := ({ T with top := ((paramI ac.params 0) - 1), bot := T.grid.h } : TS)) hS550 hB547 rfl rfl rfl rfl
   have hA556 : TermAt w546 t ({ T with top := ((paramI ac.params 0) - 1), bot := T.grid.h } : TS) F := ⟨_, _, _, _, _, _, _, _, _, _, _, _, hI555⟩
   have hpre557 : Ch F w w546 := hS550.mono (fun i _ h => h ▸ hFt)
   have hly558 := hB554.lt
   have hL559 : Lim W H ({ T with top := ((paramI ac.params 0) - 1), bot := T.grid.h } : TS) := { hL with tb := ⟨(show (0 : Int) ≤ ((paramI ac.params 0) - 1) by omega), (show (((paramI ac.params 0) - 1) : Int) < T.grid.h by omega), (show (T.grid.h : Int) ≤ H by omega)⟩ }
   have hI560 := hI555.scalar (T' := ({ T with top := ((paramI ac.params 0) - 1), bot := T.grid.h } : TS)) (Ch.refl (fun j => j = t) w546) hB547 rfl rfl rfl rfl
   have hX561 : Ch F w546 w546 := Ch.trans (Ch.refl F w546) (Ch.refl (fun j => j = t) w546) (fun i _ h => h ▸ hFt)
   have hA562 : TermAt w546 t ({ T with top := ((paramI ac.params 0) - 1), bot := T.grid.h } : TS) (more F w546 w546) := ⟨_, _, _, _, _, _, _, _, _, _, _, _, hI560.mono (fun _ h => .inl h) (hI555.moreOk hX561.size)⟩
   refine yo (yQ (home_lim hA562 hT552.tb hL559  (1) (1) (by constructor <;> omega) (by constructor <;> omega)) ?_)
   rintro w568 ⟨hB563, hc564⟩
   obtain ⟨hN565, hX566⟩ := TermAt.next hA556 hX561 hc564 hB563
   have hL572 : Lim W H (homeT ({ T with top := ((paramI ac.params 0) - 1), bot := T.grid.h } : TS) (1) (1)) := (lim_home hL559 (1) (1))
   generalize hE572 : (homeT ({ T with top := ((paramI ac.params 0) - 1), bot := T.grid.h } : TS) (1) (1)) = T572 at hN565 hL572
   have hM572 := hL572
   obtain ⟨⟨hwa572, hwb572⟩, ⟨hha572, hhb572⟩, ⟨hgw572, hgh572⟩, ⟨how572, hoh572⟩, ⟨⟨hcx572, hcX572⟩, hcy572, hcY572⟩, ⟨⟨hsx572, hsX572⟩, hsy572, hsY572⟩, ⟨⟨hax572, haX572⟩, hay572, haY572⟩, ⟨htp572, htb572, hbh572⟩, hbk572, hrp572⟩ := hM572
   obtain ⟨g572, o572, ba572, bn572, bc572, pa572, pn572, pc572, F1572, F2572, FB572, FP572, hI567⟩ := hN565
   obtain ⟨gv572, hgd573⟩ := hI567.g1.head
   have htg574 : Df t g572 := fun e => hI567.t1 (e ▸ hI567.g1.inF)
   refine yE (nB (yR0' ?_))
   have hX575 : Ch F w546 w568 := Ch.trans hX566 (Ch.refl (fun j => j = t) w568) (fun i _ h => h ▸ hFt)
   have hA576 : TermAt w568 t T572 (more F w546 w568) := ⟨_, _, _, _, _, _, _, _, _, _, _, _, hI567.mono (fun b hb => hb.elim .inl (fun h2 => .inr ⟨h2.1, by have := Ch.size (Ch.refl (fun j => j = t) w568); omega⟩)) (hI555.moreOk hX575.size)⟩
   subst hE572
   refine ⟨rfl, TermAt.eq' (hA576.mono (more_le hpre557.size) (hI.moreOk (Nat.le_trans hpre557.size hX575.size))) ?_, Ch.trans hpre557 hX575 iZ⟩
   simp only [plainT, eq_false hpp0, eq_false hpp1, eq_false hpp2, eq_false hpp3, eq_false hpp4, eq_false hpp5, eq_false hpp6, eq_false hpp7, eq_false hpp8, eq_false hpp9, eq_false hpp10, eq_false hpp11, hpp12, eq_false hpp13, eq_true hpp14, hnl, ↓reduceIte, Int.reduceEq, Int.reduceLT, Int.reduceLE, Bool.and_true, Bool.true_and, Bool.and_false, Bool.false_and, Bool.false_eq_true, Bool.true_eq_false, and_true, true_and, and_false, false_and, or_true, true_or, or_false, false_or]
  have hpp14 := hC536
  refine x_skip (nB (yR0' ?_))
  have hI577 := hI.scalar (T' := T) hS35 ht37 rfl rfl rfl rfl
  have hX578 : Ch F w w32 := Ch.trans (Ch.refl F w) hS35 (fun i _ h => h ▸ hFt)
  have hA579 : TermAt w32 t T (more F w w32) := ⟨_, _, _, _, _, _, _, _, _, _, _, _, hI577.mono (fun _ h => .inl h) (hI.moreOk hX578.size)⟩
  refine ⟨rfl, TermAt.eq' hA579 ?_, hX578⟩
  simp only [plainT, eq_false hpp0, eq_false hpp1, eq_false hpp2, eq_false hpp3, eq_false hpp4, eq_false hpp5, eq_false hpp6, eq_false hpp7, eq_false hpp8, eq_false hpp9, eq_false hpp10, eq_false hpp11, hpp12, eq_false hpp13, eq_false hpp14, hnl, ↓reduceIte, Int.reduceEq, Int.reduceLT, Int.reduceLE, Bool.and_true, Bool.true_and, Bool.and_false, Bool.false_and, Bool.false_eq_true, Bool.true_eq_false, and_true, true_and, and_false, false_and, or_true, true_or, or_false, false_or]
 have hpp12 := hC390
 refine x_region <| yp 3 [] (.a (hB41.cs 0 6) .z) ?_
 have hI580 := hI.scalar (T' := T) hS35 ht37 rfl rfl rfl rfl
 have hA581 : TermAt w32 t T F := ⟨_, _, _, _, _, _, _, _, _, _, _, _, hI580⟩
 have hpre582 : Ch F w w32 := hS35.mono (fun i _ h => h ▸ hFt)
 have hly583 := hB41.lt
 have hX584 : Ch F w32 w32 := Ch.trans (Ch.refl F w32) (Ch.refl (fun j => j = t) w32) (fun i _ h => h ▸ hFt)
 have hA585 : TermAt w32 t T (more F w32 w32) := ⟨_, _, _, _, _, _, _, _, _, _, _, _, hI580.mono (fun _ h => .inl h) (hI580.moreOk hX584.size)⟩
 have hVa586 := hV40.mono (K' := fun b => ¬ more F w32 w32 b ∧ b < w32.heap.size) (fun b hb => ⟨fun h => h.elim hb.1 (fun h => by have := hb.2; have := Ch.size hpre582; omega), by have := hb.2; have := Ch.size hX584; have := Ch.size hpre582; omega⟩)
 refine yo (yQ (edit_at hA585 hT39 hL  hVa586 hV8 hVb ((paramI ac.params 0)) (by omega)) ?_)
 rintro w592 ⟨hB587, hc588⟩
 obtain ⟨hN589, hX590⟩ := TermAt.next hA581 hX584 hc588 hB587
 have hL596 : Lim W H (editT T ac.last (paramI ac.params 0) ac.params) := (lim_edit hL _ _ _)
 generalize hE596 : (editT T ac.last (paramI ac.params 0) ac.params) = T596 at hN589 hL596
 have hM596 := hL596
 obtain ⟨⟨hwa596, hwb596⟩, ⟨hha596, hhb596⟩, ⟨hgw596, hgh596⟩, ⟨how596, hoh596⟩, ⟨⟨hcx596, hcX596⟩, hcy596, hcY596⟩, ⟨⟨hsx596, hsX596⟩, hsy596, hsY596⟩, ⟨⟨hax596, haX596⟩, hay596, haY596⟩, ⟨htp596, htb596, hbh596⟩, hbk596, hrp596⟩ := hM596
 obtain ⟨g596, o596, ba596, bn596, bc596, pa596, pn596, pc596, F1596, F2596, FB596, FP596, hI591⟩ := hN589
 obtain ⟨gv596, hgd597⟩ := hI591.g1.head
 have htg598 : Df t g596 := fun e => hI591.t1 (e ▸ hI591.g1.inF)
 refine yE (nB (yR0' ?_))
 have hX599 : Ch F w32 w592 := Ch.trans hX590 (Ch.refl (fun j => j = t) w592) (fun i _ h => h ▸ hFt)
 have hA600 : TermAt w592 t T596 (more F w32 w592) := ⟨_, _, _, _, _, _, _, _, _, _, _, _, hI591.mono (fun b hb => hb.elim .inl (fun h2 => .inr ⟨h2.1, by have := Ch.size (Ch.refl (fun j => j = t) w592); omega⟩)) (hI580.moreOk hX599.size)⟩
 subst hE596
 refine ⟨rfl, TermAt.eq' (hA600.mono (more_le hpre582.size) (hI.moreOk (Nat.le_trans hpre582.size hX599.size))) ?_, Ch.trans hpre582 hX599 iZ⟩
 simp only [plainT, eq_false hpp0, eq_false hpp1, eq_false hpp2, eq_false hpp3, eq_false hpp4, eq_false hpp5, eq_false hpp6, eq_false hpp7, eq_false hpp8, eq_false hpp9, eq_false hpp10, eq_false hpp11, eq_false hpp12, ↓reduceIte, Int.reduceEq, Int.reduceLT, Int.reduceLE, Bool.and_true, Bool.true_and, Bool.and_false, Bool.false_and, Bool.false_eq_true, Bool.true_eq_false, and_true, true_and, and_false, false_and, or_true, true_or, or_false, false_or]
end Go.Proofs.YteoejhjfbfacdaaDoor.X
