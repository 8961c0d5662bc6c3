/- What the proof of TermBounds needs, part 5: the walks of the program's functions and the plain laws about them. -/
import Derived.Test.YteoejhjfbfacdaaGreatDoorQB4
import Derived.Laws.IdiomStrings
set_option linter.unusedSimpArgs false
set_option linter.unusedVariables false
namespace Go.Proofs.YteoejhjfbfacdaaGreatDoor.X
open Go Go.RowKit Go.Proofs.YteoejhjfbfacdaaGreatDoor
theorem up_lim {w : World} {t : Nat} {W H : Int} {T : TS} {F : Nat → Prop} (hA : TermAt w t T F) (hT : Tables w) (hL : Lim W H T) : Calls Tryz.prog 84 [pX t].toArray w fun e w' => e = .returned (.tuple #[]) ∧ TermAt w' t (upT T) (more F w w') ∧ Ch F w w' :=
  up_at hA hT (by have := hL.cu; have := hL.hb; omega)
set_option maxHeartbeats 4000000 in
theorem esc_at {w : World} {t : Nat} {W H : Int} {T : TS} {F : Nat → Prop} (hA0 : TermAt w t T F) (hT : LT w) (hL : Lim W H T) {ao : Option Nat} {an cc : Nat} {ac : Ac} (hV : IntsAt w .i64 ao an cc ac.params (fun b => ¬ F b ∧ b < w.heap.size)) (hV8 : an ≤ 8) (hVb : ∀ x ∈ ac.params, 0 ≤ x ∧ x ≤ 9999) : Calls Tryz.prog 52 [pX t, .agg #[iX ac.kind, rX ac.rune, uX ac.last, .string ac.marks, .slice (ao.map at0) an cc, .string ac.text]].toArray w fun e w' => e = .returned (.tuple #[]) ∧ TermAt w' t (escT T ac) (more F w w') ∧ Ch F w w' := by
 obtain ⟨g, o, ba, bn, bc, pa, pn, pc, F1, F2, FB, FP, hI⟩ := hA0
 have hA0 : TermAt w t T F := ⟨g, o, ba, bn, bc, pa, pn, pc, F1, F2, FB, FP, hI⟩
 have hFt := hI.inF.1
 obtain ⟨gv, hgd⟩ := hI.g1.head
 have htg : Df t g := fun e => hI.t1 (e ▸ hI.g1.inF)
 obtain ⟨⟨hw1, hw2⟩, ⟨hh1, hh2⟩, hll, hall⟩ := hI.g1.ok
 have hL0 := hL
 have hla := hL0.all
 refine yA Tryz.func52 rfl <| ysr <| yo (yN [iX ac.kind, rX ac.rune, uX ac.last, .string ac.marks, .slice (ao.map at0) an cc, .string ac.text] 78 fun w10 b11 hb12 hz13 hB14 hc15 => ?_)
 have hlo16 : w.heap.size ≤ b11 := by rw [hb12]; exact Ch.size (Ch.refl (fun j => j = t) w)
 have hS17 := Ch.trans (Ch.refl (fun j => j = t) w) hc15 eZ
 have ht19 := hI.blk.ch hc15 id
 have hg20 := hgd.ch hc15 id
 have hT21 := lt_ch hc15 hT (fun _ h => h.elim)
 refine ye <| ys <| ysr <| yp 4 [] (.l (hB14.c 3) .z) <| yw [7] (rY ((ac.marks).toList == ((⟨#[40]⟩ : ByteArray)).toList)) (fun hC23 => ?_) fun hC23 => ?_
 ·have hpp0 := hC23
  obtain ⟨hms, hmb⟩ := mark40 hC23
  refine yp 8 [] .z <| ye <| yct <| ys <| ysr <| yp 4 [] (.l (hB14.c 2) .z) <| yw [15] (rE ac.last 48) (fun hC24 => ?_) fun hC24 => ?_
  ·have hpp1 := hC24
   refine yp 8 [] .z <| ye <| yct <| yD [11] fun w25 hH26 hc27 => ?_
   have hS28 := Ch.trans hS17 hc27 eZ
   have ht30 := ht19.ch hc27 id
   have hB34 := hB14.ch hc27 id
   refine yd (uL 0 11) [4] (.l (hB34.c 3) (.i 0 ((ac.marks).size) (.p (q := InR .u8 ((bt ac.marks 0) - 40)) (in8 (by omega) (by omega)) (.l (hB34.c 2) (.i ((bt ac.marks 0) - 40) (2) .z))))) ?_
   have hz : (((bt ac.marks 0) - 40) : Int).toNat = 0 := by omega
   refine yK 11 (e_store (92 + (((bt ac.marks 0) - 40) : Int).toNat * 1) [.bool ((ac.last : Int) == 48)] none (by kernel_rfl) ht30 (by rw [tvals_len]; simp only [List.length_cons, List.length_nil]; omega) ?_)
   intro w35 hB36 hc37
   rw [hz] at hB36
   replace hB36 : Blk w35 t (TS.vals ({ T with draw0 := ((ac.last : Int) == 48) } : TS) g o (.slice ba bn bc) (.slice pa pn pc)) tTerm := Blk.to hB36 (by kernel_rfl)
   have hS38 := Ch.trans hS28 hc37 (fun i hi (h : i = t) => h)
   refine x_killed <| yDe (nS ?_)
   refine x_ret (rS (yR0 ?_))
   have hI43 := hI.scalar (T' := ({ T with draw0 := ((ac.last : Int) == 48) } : TS)) hS38 hB36 rfl rfl rfl rfl
   have hX44 := hI.cht hS38
   have hA45 := hI43.pk1 hI hX44
   refine ⟨rfl, TermAt.eq' hA45 ?_, hX44⟩
   simp only [escT, lateT, hpp0, hpp1, ↓reduceIte, Int.reduceEq, Int.reduceLT, Int.reduceLE, Bool.and_true, Bool.true_and, Bool.and_false, Bool.false_and, Bool.false_eq_true, Bool.true_eq_false, and_true, true_and, and_false, false_and, or_true, true_or, or_false, false_or]
  have hpp1 := hC24
  refine yp 8 [] (.l (hB14.c 2) .z) <| ye <| yc (rE ac.last 66) (fun hC46 => ?_) fun hC46 => ?_
  ·have hpp2 := hC46
   refine yD [11] fun w47 hH48 hc49 => ?_
   have hS50 := Ch.trans hS17 hc49 eZ
   have ht52 := ht19.ch hc49 id
   have hB56 := hB14.ch hc49 id
   refine yd (uL 0 11) [4] (.l (hB56.c 3) (.i 0 ((ac.marks).size) (.p (q := InR .u8 ((bt ac.marks 0) - 40)) (in8 (by omega) (by omega)) (.l (hB56.c 2) (.i ((bt ac.marks 0) - 40) (2) .z))))) ?_
   have hz : (((bt ac.marks 0) - 40) : Int).toNat = 0 := by omega
   refine yK 11 (e_store (92 + (((bt ac.marks 0) - 40) : Int).toNat * 1) [.bool ((ac.last : Int) == 48)] none (by kernel_rfl) ht52 (by rw [tvals_len]; simp only [List.length_cons, List.length_nil]; omega) ?_)
   intro w57 hB58 hc59
   rw [hz] at hB58
   replace hB58 : Blk w57 t (TS.vals ({ T with draw0 := ((ac.last : Int) == 48) } : TS) g o (.slice ba bn bc) (.slice pa pn pc)) tTerm := Blk.to hB58 (by kernel_rfl)
   have hS60 := Ch.trans hS50 hc59 (fun i hi (h : i = t) => h)
   refine x_killed <| yDe (nS ?_)
   refine x_ret (rS (yR0 ?_))
   have hI65 := hI.scalar (T' := ({ T with draw0 := ((ac.last : Int) == 48) } : TS)) hS60 hB58 rfl rfl rfl rfl
   have hX66 := hI.cht hS60
   have hA67 := hI65.pk1 hI hX66
   refine ⟨rfl, TermAt.eq' hA67 ?_, hX66⟩
   simp only [escT, lateT, hpp0, hpp1, hpp2, ↓reduceIte, Int.reduceEq, Int.reduceLT, Int.reduceLE, Bool.and_true, Bool.true_and, Bool.and_false, Bool.false_and, Bool.false_eq_true, Bool.true_eq_false, and_true, true_and, and_false, false_and, or_true, true_or, or_false, false_or]
  have hpp2 := hC46
  refine yk <| x_ret (rS (yR0 ?_))
  have hI68 := hI.scalar (T' := T) hS17 ht19 rfl rfl rfl rfl
  have hX69 := hI.cht hS17
  have hA70 := hI68.pk1 hI hX69
  refine ⟨rfl, TermAt.eq' hA70 ?_, hX69⟩
  simp only [escT, lateT, hpp0, hpp1, hpp2, ↓reduceIte, Int.reduceEq, Int.reduceLT, Int.reduceLE, Bool.and_true, Bool.true_and, Bool.and_false, Bool.false_and, Bool.false_eq_true, Bool.true_eq_false, and_true, true_and, and_false, false_and, or_true, true_or, or_false, false_or]
 have hpp0 := hC23
 refine yp 8 [] (.l (hB14.c 3) .z) <| ye <| yc (rY ((ac.marks).toList == ((⟨#[41]⟩ : ByteArray)).toList)) (fun hC71 => ?_) fun hC71 => ?_
 ·have hpp1 := hC71
  obtain ⟨hms, hmb⟩ := mark41 hC71
  refine ys <| ysr <| yp 4 [] (.l (hB14.c 2) .z) <| yw [15] (rE ac.last 48) (fun hC72 => ?_) fun hC72 => ?_
  ·have hpp2 := hC72
   refine yp 8 [] .z <| ye <| yct <| yD [11] fun w73 hH74 hc75 => ?_
   have hS76 := Ch.trans hS17 hc75 eZ
   have ht78 := ht19.ch hc75 id
   have hB82 := hB14.ch hc75 id
   refine yd (uL 0 11) [4] (.l (hB82.c 3) (.i 0 ((ac.marks).size) (.p (q := InR .u8 ((bt ac.marks 0) - 40)) (in8 (by omega) (by omega)) (.l (hB82.c 2) (.i ((bt ac.marks 0) - 40) (2) .z))))) ?_
   have hz : (((bt ac.marks 0) - 40) : Int).toNat = 1 := by omega
   refine yK 11 (e_store (92 + (((bt ac.marks 0) - 40) : Int).toNat * 1) [.bool ((ac.last : Int) == 48)] none (by kernel_rfl) ht78 (by rw [tvals_len]; simp only [List.length_cons, List.length_nil]; omega) ?_)
   intro w83 hB84 hc85
   rw [hz] at hB84
   replace hB84 : Blk w83 t (TS.vals ({ T with draw1 := ((ac.last : Int) == 48) } : TS) g o (.slice ba bn bc) (.slice pa pn pc)) tTerm := Blk.to hB84 (by kernel_rfl)
   have hS86 := Ch.trans hS76 hc85 (fun i hi (h : i = t) => h)
   refine x_killed <| yDe (nS ?_)
   refine x_ret (rS (yR0 ?_))
   have hI91 := hI.scalar (T' := ({ T with draw1 := ((ac.last : Int) == 48) } : TS)) hS86 hB84 rfl rfl rfl rfl
   have hX92 := hI.cht hS86
   have hA93 := hI91.pk1 hI hX92
   refine ⟨rfl, TermAt.eq' hA93 ?_, hX92⟩
   simp only [escT, lateT, hpp0, hpp1, hpp2, ↓reduceIte, Int.reduceEq, Int.reduceLT, Int.reduceLE, Bool.and_true, Bool.true_and, Bool.and_false, Bool.false_and, Bool.false_eq_true, Bool.true_eq_false, and_true, true_and, and_false, false_and, or_true, true_or, or_false, false_or]
  have hpp2 := hC72
  refine yp 8 [] (.l (hB14.c 2) .z) <| ye <| yc (rE ac.last 66) (fun hC94 => ?_) fun hC94 => ?_
  ·have hpp3 := hC94
   refine yD [11] fun w95 hH96 hc97 => ?_
   have hS98 := Ch.trans hS17 hc97 eZ
   have ht100 := ht19.ch hc97 id
   have hB104 := hB14.ch hc97 id
   refine yd (uL 0 11) [4] (.l (hB104.c 3) (.i 0 ((ac.marks).size) (.p (q := InR .u8 ((bt ac.marks 0) - 40)) (in8 (by omega) (by omega)) (.l (hB104.c 2) (.i ((bt ac.marks 0) - 40) (2) .z))))) ?_
   have hz : (((bt ac.marks 0) - 40) : Int).toNat = 1 := by omega
   refine yK 11 (e_store (92 + (((bt ac.marks 0) - 40) : Int).toNat * 1) [.bool ((ac.last : Int) == 48)] none (by kernel_rfl) ht100 (by rw [tvals_len]; simp only [List.length_cons, List.length_nil]; omega) ?_)
   intro w105 hB106 hc107
   rw [hz] at hB106
   replace hB106 : Blk w105 t (TS.vals ({ T with draw1 := ((ac.last : Int) == 48) } : TS) g o (.slice ba bn bc) (.slice pa pn pc)) tTerm := Blk.to hB106 (by kernel_rfl)
   have hS108 := Ch.trans hS98 hc107 (fun i hi (h : i = t) => h)
   refine x_killed <| yDe (nS ?_)
   refine x_ret (rS (yR0 ?_))
   have hI113 := hI.scalar (T' := ({ T with draw1 := ((ac.last : Int) == 48) } : TS)) hS108 hB106 rfl rfl rfl rfl
   have hX114 := hI.cht hS108
   have hA115 := hI113.pk1 hI hX114
   refine ⟨rfl, TermAt.eq' hA115 ?_, hX114⟩
   simp only [escT, lateT, hpp0, hpp1, hpp2, hpp3, ↓reduceIte, Int.reduceEq, Int.reduceLT, Int.reduceLE, Bool.and_true, Bool.true_and, Bool.and_false, Bool.false_and, Bool.false_eq_true, Bool.true_eq_false, and_true, true_and, and_false, false_and, or_true, true_or, or_false, false_or]
  have hpp3 := hC94
  refine yk <| x_ret (rS (yR0 ?_))
  have hI116 := hI.scalar (T' := T) hS17 ht19 rfl rfl rfl rfl
  have hX117 := hI.cht hS17
  have hA118 := hI116.pk1 hI hX117
  refine ⟨rfl, TermAt.eq' hA118 ?_, hX117⟩
  simp only [escT, lateT, hpp0, hpp1, hpp2, hpp3, ↓reduceIte, Int.reduceEq, Int.reduceLT, Int.reduceLE, Bool.and_true, Bool.true_and, Bool.and_false, Bool.false_and, Bool.false_eq_true, Bool.true_eq_false, and_true, true_and, and_false, false_and, or_true, true_or, or_false, false_or]
 have hpp1 := hC71
 refine yk <| ys <| ysr <| yp 3 [] (.l (hB14.c 3) .z) <| ye <| yc (rN (rY ((ac.marks).toList == (ByteArray.empty).toList))) (fun hC119 => ?_) fun hC119 => ?_
 ·have hpp2 := hC119
  refine x_ret (rS (yR0 ?_))
  have hI120 := hI.scalar (T' := T) hS17 ht19 rfl rfl rfl rfl
  have hX121 := hI.cht hS17
  have hA122 := hI120.pk1 hI hX121
  refine ⟨rfl, TermAt.eq' hA122 ?_, hX121⟩
  simp only [escT, lateT, hpp0, hpp1, hpp2, ↓reduceIte, Int.reduceEq, Int.reduceLT, Int.reduceLE, Bool.and_true, Bool.true_and, Bool.and_false, Bool.false_and, Bool.false_eq_true, Bool.true_eq_false, and_true, true_and, and_false, false_and, or_true, true_or, or_false, false_or]
 have hpp2 := hC119
 refine yk <| ysr <| yp 2 [] (.l (hB14.c 2) .z) <| ye <| x_block <| ysr <| yp 2 [] .z <| ye <| yc (rE ac.last 55) (fun hC123 => ?_) fun hC123 => ?_
 ·have hpp3 := hC123
  refine x_region <| yp 7 [] (.a (ht19.cs 2 8) .z) <| yo (yS ht19 fun w124 hB125 hc126 => ?_)
  have hS128 := Ch.trans hS17 hc126 (fun i hi (h : i = t) => h)
  refine yE (nB (yR0' ?_))
  have hI133 := hI.scalar (T' := ({ T with saved := T.cursor } : TS)) hS128 (Blk.to hB125 (by kernel_rfl)) rfl rfl rfl rfl
  have hX134 := hI.cht hS128
  have hA135 := hI133.pk1 hI hX134
  refine ⟨rfl, TermAt.eq' hA135 ?_, hX134⟩
  simp only [escT, lateT, hpp0, hpp1, hpp2, hpp3, ↓reduceIte, Int.reduceEq, Int.reduceLT, Int.reduceLE, Bool.and_true, Bool.true_and, Bool.and_false, Bool.false_and, Bool.false_eq_true, Bool.true_eq_false, and_true, true_and, and_false, false_and, or_true, true_or, or_false, false_or]
 have hpp3 := hC123
 refine ysr <| yp 2 [] .z <| ye <| yc (rE ac.last 56) (fun hC136 => ?_) fun hC136 => ?_
 ·have hpp4 := hC136
  refine x_region <| yp 7 [] (.a (ht19.cs 10 8) .z) <| yo (yS ht19 fun w137 hB138 hc139 => ?_)
  have hS141 := Ch.trans hS17 hc139 (fun i hi (h : i = t) => h)
  refine yE (nB (yR0' ?_))
  have hI146 := hI.scalar (T' := ({ T with cursor := T.saved } : TS)) hS141 (Blk.to hB138 (by kernel_rfl)) rfl rfl rfl rfl
  have hX147 := hI.cht hS141
  have hA148 := hI146.pk1 hI hX147
  refine ⟨rfl, TermAt.eq' hA148 ?_, hX147⟩
  simp only [escT, lateT, hpp0, hpp1, hpp2, hpp3, hpp4, ↓reduceIte, Int.reduceEq, Int.reduceLT, Int.reduceLE, Bool.and_true, Bool.true_and, Bool.and_false, Bool.false_and, Bool.false_eq_true, Bool.true_eq_false, and_true, true_and, and_false, false_and, or_true, true_or, or_false, false_or]
 have hpp4 := hC136
 refine ysr <| yp 2 [] .z <| ye <| yc (rE ac.last 68) (fun hC149 => ?_) fun hC149 => ?_
 ·have hpp5 := hC149
  refine ysr <| yp 1 [] .z ?_
  have hI150 := hI.scalar (T' := T) hS17 ht19 rfl rfl rfl rfl
  have hA151 : TermAt w10 t T F := ⟨_, _, _, _, _, _, _, _, _, _, _, _, hI150⟩
  have hpre152 : Ch F w w10 := hS17.mono (fun i _ h => h ▸ hFt)
  have hly153 := hB14.lt
  have hX154 := hI150.cht (Ch.refl (fun j => j = t) w10)
  have hA155 := hI150.pk1 hI150 hX154
  refine yo (yQ (down_lim hA155 hT21.tb hL  ) ?_)
  rintro w161 ⟨hB156, hc157⟩
  obtain ⟨hN158, hX159⟩ := TermAt.next hA151 hX154 hc157 hB156
  have hL165 : Lim W H (downT T) := (lim_down hL)
  generalize hE165 : (downT T) = T165 at hN158 hL165
  have hM165 := hL165
  have hla165 := hM165.all
  obtain ⟨g165, o165, ba165, bn165, bc165, pa165, pn165, pc165, F1165, F2165, FB165, FP165, hI160⟩ := hN158
  obtain ⟨gv165, hgd166⟩ := hI160.g1.head
  have htg167 : Df t g165 := fun e => hI160.t1 (e ▸ hI160.g1.inF)
  refine ye <| x_region <| yp 4 [] .z <| yo (yS hI160.blk fun w168 hB169 hc170 => ?_)
  have hS172 := Ch.trans (Ch.refl (fun j => j = t) w161) hc170 (fun i hi (h : i = t) => h)
  refine yE (nB (yR0' ?_))
  have hI177 := hI160.scalar (T' := ({ T165 with cursor := (Cur.mk T165.cursor.x T165.cursor.y false T165.cursor.sty) } : TS)) hS172 (Blk.to hB169 (by kernel_rfl)) rfl rfl rfl rfl
  have hX178 := Ch.on hX159 hS172 hFt
  have hA179 := hI177.pk2 hS172 hI150 hX178
  subst hE165
  refine ⟨rfl, TermAt.eq' (hA179.mono (more_le hpre152.size) (hI.moreOk (Nat.le_trans hpre152.size hX178.size))) ?_, Ch.trans hpre152 hX178 iZ⟩
  simp only [escT, lateT, hpp0, hpp1, hpp2, hpp3, hpp4, hpp5, ↓reduceIte, Int.reduceEq, Int.reduceLT, Int.reduceLE, Bool.and_true, Bool.true_and, Bool.and_false, Bool.false_and, Bool.false_eq_true, Bool.true_eq_false, and_true, true_and, and_false, false_and, or_true, true_or, or_false, false_or]
 have hpp5 := hC149
 refine ysr <| yp 2 [] .z <| ye <| yc (rE ac.last 69) (fun hC180 => ?_) fun hC180 => ?_
 ·have hpp6 := hC180
  refine ysr <| yp 1 [] .z ?_
  have hI181 := hI.scalar (T' := T) hS17 ht19 rfl rfl rfl rfl
  have hA182 : TermAt w10 t T F := ⟨_, _, _, _, _, _, _, _, _, _, _, _, hI181⟩
  have hpre183 : Ch F w w10 := hS17.mono (fun i _ h => h ▸ hFt)
  have hly184 := hB14.lt
  have hX185 := hI181.cht (Ch.refl (fun j => j = t) w10)
  have hA186 := hI181.pk1 hI181 hX185
  refine yo (yQ (down_lim hA186 hT21.tb hL  ) ?_)
  rintro w192 ⟨hB187, hc188⟩
  obtain ⟨hN189, hX190⟩ := TermAt.next hA182 hX185 hc188 hB187
  have hT193 := lt_ch hc188 hT21 (fun b hb => (hI181.moreOk hX185.size b hb).2)
  have hL196 : Lim W H (downT T) := (lim_down hL)
  generalize hE196 : (downT T) = T196 at hN189 hL196
  have hM196 := hL196
  have hla196 := hM196.all
  obtain ⟨g196, o196, ba196, bn196, bc196, pa196, pn196, pc196, F1196, F2196, FB196, FP196, hI191⟩ := hN189
  obtain ⟨gv196, hgd197⟩ := hI191.g1.head
  have htg198 : Df t g196 := fun e => hI191.t1 (e ▸ hI191.g1.inF)
  refine ye <| x_region <| yp 6 [] (.l (hI191.blk.c 3) .z) ?_
  have hX199 := Ch.on hX190 (Ch.refl (fun j => j = t) w192) hFt
  have hA200 := hI191.pk2 (Ch.refl (fun j => j = t) w192) hI181 hX199
  refine yo (yQ (move_lim hA200 hT193.tb hL196  (0) (T196.cursor.y)) ?_)
  rintro w206 ⟨hB201, hc202⟩
  obtain ⟨hN203, hX204⟩ := TermAt.next hA182 hX199 hc202 hB201
  have hL210 : Lim W H (moveT T196 (0) (T196.cursor.y)) := (lim_move hL196 (0) (T196.cursor.y))
  generalize hE210 : (moveT T196 (0) (T196.cursor.y)) = T210 at hN203 hL210
  have hM210 := hL210
  have hla210 := hM210.all
  obtain ⟨g210, o210, ba210, bn210, bc210, pa210, pn210, pc210, F1210, F2210, FB210, FP210, hI205⟩ := hN203
  obtain ⟨gv210, hgd211⟩ := hI205.g1.head
  have htg212 : Df t g210 := fun e => hI205.t1 (e ▸ hI205.g1.inF)
  refine yE (nB (yR0' ?_))
  have hX213 := Ch.on hX204 (Ch.refl (fun j => j = t) w206) hFt
  have hA214 := hI205.pk2 (Ch.refl (fun j => j = t) w206) hI181 hX213
  subst hE210
  subst hE196
  refine ⟨rfl, TermAt.eq' (hA214.mono (more_le hpre183.size) (hI.moreOk (Nat.le_trans hpre183.size hX213.size))) ?_, Ch.trans hpre183 hX213 iZ⟩
  simp only [escT, lateT, hpp0, hpp1, hpp2, hpp3, hpp4, hpp5, hpp6, ↓reduceIte, Int.reduceEq, Int.reduceLT, Int.reduceLE, Bool.and_true, Bool.true_and, Bool.and_false, Bool.false_and, Bool.false_eq_true, Bool.true_eq_false, and_true, true_and, and_false, false_and, or_true, true_or, or_false, false_or]
 have hpp6 := hC180
 refine ysr <| yp 2 [] .z <| ye <| yc (rE ac.last 77) (fun hC215 => ?_) fun hC215 => ?_
 ·have hpp7 := hC215
  refine ysr <| yp 1 [] .z ?_
  have hI216 := hI.scalar (T' := T) hS17 ht19 rfl rfl rfl rfl
  have hA217 : TermAt w10 t T F := ⟨_, _, _, _, _, _, _, _, _, _, _, _, hI216⟩
  have hpre218 : Ch F w w10 := hS17.mono (fun i _ h => h ▸ hFt)
  have hly219 := hB14.lt
  have hX220 := hI216.cht (Ch.refl (fun j => j = t) w10)
  have hA221 := hI216.pk1 hI216 hX220
  refine yo (yQ (up_lim hA221 hT21.tb hL  ) ?_)
  rintro w227 ⟨hB222, hc223⟩
  obtain ⟨hN224, hX225⟩ := TermAt.next hA217 hX220 hc223 hB222
  have hL231 : Lim W H (upT T) := (lim_up hL)
  generalize hE231 : (upT T) = T231 at hN224 hL231
  have hM231 := hL231
  have hla231 := hM231.all
  obtain ⟨g231, o231, ba231, bn231, bc231, pa231, pn231, pc231, F1231, F2231, FB231, FP231, hI226⟩ := hN224
  obtain ⟨gv231, hgd232⟩ := hI226.g1.head
  have htg233 : Df t g231 := fun e => hI226.t1 (e ▸ hI226.g1.inF)
  refine ye <| x_region <| yp 4 [] .z <| yo (yS hI226.blk fun w234 hB235 hc236 => ?_)
  have hS238 := Ch.trans (Ch.refl (fun j => j = t) w227) hc236 (fun i hi (h : i = t) => h)
  refine yE (nB (yR0' ?_))
  have hI243 := hI226.scalar (T' := ({ T231 with cursor := (Cur.mk T231.cursor.x T231.cursor.y false T231.cursor.sty) } : TS)) hS238 (Blk.to hB235 (by kernel_rfl)) rfl rfl rfl rfl
  have hX244 := Ch.on hX225 hS238 hFt
  have hA245 := hI243.pk2 hS238 hI216 hX244
  subst hE231
  refine ⟨rfl, TermAt.eq' (hA245.mono (more_le hpre218.size) (hI.moreOk (Nat.le_trans hpre218.size hX244.size))) ?_, Ch.trans hpre218 hX244 iZ⟩
  simp only [escT, lateT, hpp0, hpp1, hpp2, hpp3, hpp4, hpp5, hpp6, hpp7, ↓reduceIte, Int.reduceEq, Int.reduceLT, Int.reduceLE, Bool.and_true, Bool.true_and, Bool.and_false, Bool.false_and, Bool.false_eq_true, Bool.true_eq_false, and_true, true_and, and_false, false_and, or_true, true_or, or_false, false_or]
 have hpp7 := hC215
 refine ysr <| yp 2 [] .z <| ye <| yc (rE ac.last 72) (fun hC246 => ?_) fun hC246 => ?_
 ·have hpp8 := hC246
  refine yD [9] fun w247 hH248 hc249 => ?_
  have hS250 := Ch.trans hS17 hc249 eZ
  have ht252 := ht19.ch hc249 id
  refine yd (uL 0 9) [] (.l (ht252.c 2) (.i T.cursor.x (60) .z)) <| yK 9 (e_store (28 + (T.cursor.x : Int).toNat * 1) [.bool true] none (by kernel_rfl) ht252 (by rw [tvals_len]; simp only [List.length_cons, List.length_nil]; omega) ?_)
  intro w257 hB258 hc259
  replace hB258 : Blk w257 t (TS.vals ({ T with tabs := (fun i => if i = (T.cursor.x : Int).toNat then true else T.tabs i) } : TS) g o (.slice ba bn bc) (.slice pa pn pc)) tTerm := Blk.to hB258 (tabs_put T _ _ _ _ _ (by omega) _)
  have hS260 := Ch.trans hS250 hc259 (fun i hi (h : i = t) => h)
  refine x_killed <| yDe (nB (yR0' ?_))
  have hI265 := hI.scalar (T' := ({ T with tabs := (fun i => if i = (T.cursor.x : Int).toNat then true else T.tabs i) } : TS)) hS260 hB258 rfl rfl rfl rfl
  have hX266 := hI.cht hS260
  have hA267 := hI265.pk1 hI hX266
  refine ⟨rfl, TermAt.eq' hA267 ?_, hX266⟩
  simp only [escT, lateT, hpp0, hpp1, hpp2, hpp3, hpp4, hpp5, hpp6, hpp7, hpp8, ↓reduceIte, Int.reduceEq, Int.reduceLT, Int.reduceLE, Bool.and_true, Bool.true_and, Bool.and_false, Bool.false_and, Bool.false_eq_true, Bool.true_eq_false, and_true, true_and, and_false, false_and, or_true, true_or, or_false, false_or]
 have hpp8 := hC246
 refine ysr <| yp 2 [] .z <| ye <| yc (rE ac.last 99) (fun hC268 => ?_) fun hC268 => ?_
 ·have hpp9 := hC268
  refine yD [15] fun w269 hH270 hc271 => ?_
  have hS272 := Ch.trans hS17 hc271 eZ
  have ht274 := ht19.ch hc271 id
  have hg275 := hg20.ch hc271 id
  have hT276 := lt_ch hc271 hT21 (fun _ h => h.elim)
  have hB278 := hB14.ch hc271 id
  refine yd (uL 0 15) [] (.l (ht274.c 0) (.l (hg275.c 0) (.l (ht274.c 0) (.l (hg275.c 1) .z)))) ?_
  have hI279 := hI.scalar (T' := T) hS272 ht274 rfl rfl rfl rfl
  have hA280 : TermAt w269 t T F := ⟨_, _, _, _, _, _, _, _, _, _, _, _, hI279⟩
  have hpre281 : Ch F w w269 := hS272.mono (fun i _ h => h ▸ hFt)
  have hly282 := hB278.lt
  have hX283 := hI279.cht (Ch.refl (fun j => j = t) w269)
  have hA284 := hI279.pk1 hI279 hX283
  refine yK 15 (yQ (start_at hA284 hT276 hL  (T.grid.w) (T.grid.h)) ?_)
  rintro w290 ⟨hB285, hc286⟩
  obtain ⟨hN287, hX288⟩ := TermAt.next hA280 hX283 hc286 hB285
  have hL294 : Lim W H (startT T (T.grid.w) (T.grid.h)) := (lim_start' hL)
  generalize hE294 : (startT T (T.grid.w) (T.grid.h)) = T294 at hN287 hL294
  have hM294 := hL294
  have hla294 := hM294.all
  obtain ⟨g294, o294, ba294, bn294, bc294, pa294, pn294, pc294, F1294, F2294, FB294, FP294, hI289⟩ := hN287
  obtain ⟨gv294, hgd295⟩ := hI289.g1.head
  have htg296 : Df t g294 := fun e => hI289.t1 (e ▸ hI289.g1.inF)
  refine x_killed <| yDe (nB (yR0' ?_))
  have hX297 := Ch.on hX288 (Ch.refl (fun j => j = t) w290) hFt
  have hA298 := hI289.pk2 (Ch.refl (fun j => j = t) w290) hI279 hX297
  subst hE294
  refine ⟨rfl, TermAt.eq' (hA298.mono (more_le hpre281.size) (hI.moreOk (Nat.le_trans hpre281.size hX297.size))) ?_, Ch.trans hpre281 hX297 iZ⟩
  simp only [escT, lateT, hpp0, hpp1, hpp2, hpp3, hpp4, hpp5, hpp6, hpp7, hpp8, hpp9, ↓reduceIte, Int.reduceEq, Int.reduceLT, Int.reduceLE, Bool.and_true, Bool.true_and, Bool.and_false, Bool.false_and, Bool.false_eq_true, Bool.true_eq_false, and_true, true_and, and_false, false_and, or_true, true_or, or_false, false_or]
 have hpp9 := hC268
 refine x_skip (nB (yR0' ?_))
 have hI299 := hI.scalar (T' := T) hS17 ht19 rfl rfl rfl rfl
 have hX300 := hI.cht hS17
 have hA301 := hI299.pk1 hI hX300
 refine ⟨rfl, TermAt.eq' hA301 ?_, hX300⟩
 simp only [escT, lateT, hpp0, hpp1, hpp2, hpp3, hpp4, hpp5, hpp6, hpp7, hpp8, hpp9, ↓reduceIte, Int.reduceEq, Int.reduceLT, Int.reduceLE, Bool.and_true, Bool.true_and, Bool.and_false, Bool.false_and, Bool.false_eq_true, Bool.true_eq_false, and_true, true_and, and_false, false_and, or_true, true_or, or_false, false_or]
set_option maxHeartbeats 4000000 in
theorem act_at {w : World} {t : Nat} {W H : Int} {T : TS} {F : Nat → Prop} (hA0 : TermAt w t T F) (hT : LT w) (hL : Lim W H T) {ao : Option Nat} {an cc : Nat} {ac : Ac} (hV : IntsAt w .i64 ao an cc ac.params (fun b => ¬ F b ∧ b < w.heap.size)) (hV8 : an ≤ 8) (hVb : ∀ x ∈ ac.params, 0 ≤ x ∧ x ≤ 9999) (hat : ac.text.size ≤ 1000) : Calls Tryz.prog 25 [pX t, .agg #[iX ac.kind, rX ac.rune, uX ac.last, .string ac.marks, .slice (ao.map at0) an cc, .string ac.text]].toArray w fun e w' => e = .returned (.tuple #[]) ∧ TermAt w' t (actT T ac) (more F w w') ∧ Ch F w w' := by
 obtain ⟨g, o, ba, bn, bc, pa, pn, pc, F1, F2, FB, FP, hI⟩ := hA0
 have hA0 : TermAt w t T F := ⟨g, o, ba, bn, bc, pa, pn, pc, F1, F2, FB, FP, hI⟩
 have hFt := hI.inF.1
 obtain ⟨gv, hgd⟩ := hI.g1.head
 have htg : Df t g := fun e => hI.t1 (e ▸ hI.g1.inF)
 obtain ⟨⟨hw1, hw2⟩, ⟨hh1, hh2⟩, hll, hall⟩ := hI.g1.ok
 have hL0 := hL
 have hla := hL0.all
 refine yA Tryz.func25 rfl <| ysr <| yo (yN [iX ac.kind, rX ac.rune, uX ac.last, .string ac.marks, .slice (ao.map at0) an cc, .string ac.text] 78 fun w10 b11 hb12 hz13 hB14 hc15 => ?_)
 have hlo16 : w.heap.size ≤ b11 := by rw [hb12]; exact Ch.size (Ch.refl (fun j => j = t) w)
 have hS17 := Ch.trans (Ch.refl (fun j => j = t) w) hc15 eZ
 have ht19 := hI.blk.ch hc15 id
 have hT21 := lt_ch hc15 hT (fun _ h => h.elim)
 have hV22 := hV.ch hc15 iZ
 refine ye <| ysr <| yp 2 [] (.l (hB14.c 0) .z) <| ye <| x_block <| ysr <| yp 2 [] .z <| ye <| yc (rE ac.kind 0) (fun hC23 => ?_) fun hC23 => ?_
 ·have hpp0 := hC23
  refine x_region <| yp 3 [] (.l (hB14.c 1) .z) ?_
  have hI24 := hI.scalar (T' := T) hS17 ht19 rfl rfl rfl rfl
  have hA25 : TermAt w10 t T F := ⟨_, _, _, _, _, _, _, _, _, _, _, _, hI24⟩
  have hpre26 : Ch F w w10 := hS17.mono (fun i _ h => h ▸ hFt)
  have hly27 := hB14.lt
  have hX28 := hI24.cht (Ch.refl (fun j => j = t) w10)
  have hA29 := hI24.pk1 hI24 hX28
  refine yo (yQ (print_at hA29 hT21.tb hL  (ac.rune)) ?_)
  rintro w35 ⟨hB30, hc31⟩
  obtain ⟨hN32, hX33⟩ := TermAt.next hA25 hX28 hc31 hB30
  have hL39 : Lim W H (printT T (ac.rune)) := (lim_print hL _)
  generalize hE39 : (printT T (ac.rune)) = T39 at hN32 hL39
  have hM39 := hL39
  have hla39 := hM39.all
  obtain ⟨g39, o39, ba39, bn39, bc39, pa39, pn39, pc39, F139, F239, FB39, FP39, hI34⟩ := hN32
  obtain ⟨gv39, hgd40⟩ := hI34.g1.head
  have htg41 : Df t g39 := fun e => hI34.t1 (e ▸ hI34.g1.inF)
  refine yE (nB (yR0' ?_))
  have hX42 := Ch.on hX33 (Ch.refl (fun j => j = t) w35) hFt
  have hA43 := hI34.pk2 (Ch.refl (fun j => j = t) w35) hI24 hX42
  subst hE39
  refine ⟨rfl, TermAt.eq' (hA43.mono (more_le hpre26.size) (hI.moreOk (Nat.le_trans hpre26.size hX42.size))) ?_, Ch.trans hpre26 hX42 iZ⟩
  simp only [actT, oscT, hpp0, ↓reduceIte, Int.reduceEq, Int.reduceLT, Int.reduceLE, Bool.and_true, Bool.true_and, Bool.and_false, Bool.false_and, Bool.false_eq_true, Bool.true_eq_false, and_true, true_and, and_false, false_and, or_true, true_or, or_false, false_or]
 have hpp0 := hC23
 refine ysr <| yp 2 [] .z <| ye <| yc (rE ac.kind 1) (fun hC44 => ?_) fun hC44 => ?_
 ·have hpp1 := hC44
  refine x_region <| yp 3 [] (.l (hB14.c 2) .z) ?_
  have hI45 := hI.scalar (T' := T) hS17 ht19 rfl rfl rfl rfl
  have hA46 : TermAt w10 t T F := ⟨_, _, _, _, _, _, _, _, _, _, _, _, hI45⟩
  have hpre47 : Ch F w w10 := hS17.mono (fun i _ h => h ▸ hFt)
  have hly48 := hB14.lt
  have hX49 := hI45.cht (Ch.refl (fun j => j = t) w10)
  have hA50 := hI45.pk1 hI45 hX49
  refine yo (yQ (exec_at hA50 hT21.tb hL  (ac.last)) ?_)
  rintro w56 ⟨hB51, hc52⟩
  obtain ⟨hN53, hX54⟩ := TermAt.next hA46 hX49 hc52 hB51
  have hL60 : Lim W H (execT T (ac.last)) := (lim_exec hL _)
  generalize hE60 : (execT T (ac.last)) = T60 at hN53 hL60
  have hM60 := hL60
  have hla60 := hM60.all
  obtain ⟨g60, o60, ba60, bn60, bc60, pa60, pn60, pc60, F160, F260, FB60, FP60, hI55⟩ := hN53
  obtain ⟨gv60, hgd61⟩ := hI55.g1.head
  have htg62 : Df t g60 := fun e => hI55.t1 (e ▸ hI55.g1.inF)
  refine yE (nB (yR0' ?_))
  have hX63 := Ch.on hX54 (Ch.refl (fun j => j = t) w56) hFt
  have hA64 := hI55.pk2 (Ch.refl (fun j => j = t) w56) hI45 hX63
  subst hE60
  refine ⟨rfl, TermAt.eq' (hA64.mono (more_le hpre47.size) (hI.moreOk (Nat.le_trans hpre47.size hX63.size))) ?_, Ch.trans hpre47 hX63 iZ⟩
  simp only [actT, oscT, hpp0, hpp1, ↓reduceIte, Int.reduceEq, Int.reduceLT, Int.reduceLE, Bool.and_true, Bool.true_and, Bool.and_false, Bool.false_and, Bool.false_eq_true, Bool.true_eq_false, and_true, true_and, and_false, false_and, or_true, true_or, or_false, false_or]
 have hpp1 := hC44
 refine ysr <| yp 2 [] .z <| ye <| yc (rE ac.kind 2) (fun hC65 => ?_) fun hC65 => ?_
 ·have hpp2 := hC65
  refine x_region <| yp 2 [] (.a (hB14.cs 0 6) .z) ?_
  have hI66 := hI.scalar (T' := T) hS17 ht19 rfl rfl rfl rfl
  have hA67 : TermAt w10 t T F := ⟨_, _, _, _, _, _, _, _, _, _, _, _, hI66⟩
  have hpre68 : Ch F w w10 := hS17.mono (fun i _ h => h ▸ hFt)
  have hly69 := hB14.lt
  have hX70 := hI66.cht (Ch.refl (fun j => j = t) w10)
  have hA71 := hI66.pk1 hI66 hX70
  have hVa72 := hV22.mono (K' := fun b => ¬ more F w10 w10 b ∧ b < w10.heap.size) (fun b hb => ⟨fun h => h.elim hb.1 (fun h => by have := hb.2; have := Ch.size hpre68; omega), by have := hb.2; have := Ch.size hX70; have := Ch.size hpre68; omega⟩)
  refine yo (yQ (esc_at hA71 hT21 hL  hVa72 hV8 hVb) ?_)
  rintro w78 ⟨hB73, hc74⟩
  obtain ⟨hN75, hX76⟩ := TermAt.next hA67 hX70 hc74 hB73
  have hL82 : Lim W H (escT T ac) := (lim_esc hL _)
  generalize hE82 : (escT T ac) = T82 at hN75 hL82
  have hM82 := hL82
  have hla82 := hM82.all
  obtain ⟨g82, o82, ba82, bn82, bc82, pa82, pn82, pc82, F182, F282, FB82, FP82, hI77⟩ := hN75
  obtain ⟨gv82, hgd83⟩ := hI77.g1.head
  have htg84 : Df t g82 := fun e => hI77.t1 (e ▸ hI77.g1.inF)
  refine yE (nB (yR0' ?_))
  have hX85 := Ch.on hX76 (Ch.refl (fun j => j = t) w78) hFt
  have hA86 := hI77.pk2 (Ch.refl (fun j => j = t) w78) hI66 hX85
  subst hE82
  refine ⟨rfl, TermAt.eq' (hA86.mono (more_le hpre68.size) (hI.moreOk (Nat.le_trans hpre68.size hX85.size))) ?_, Ch.trans hpre68 hX85 iZ⟩
  simp only [actT, oscT, hpp0, hpp1, hpp2, ↓reduceIte, Int.reduceEq, Int.reduceLT, Int.reduceLE, Bool.and_true, Bool.true_and, Bool.and_false, Bool.false_and, Bool.false_eq_true, Bool.true_eq_false, and_true, true_and, and_false, false_and, or_true, true_or, or_false, false_or]
 have hpp2 := hC65
 refine ysr <| yp 2 [] .z <| ye <| yc (rE ac.kind 3) (fun hC87 => ?_) fun hC87 => ?_
 ·have hpp3 := hC87
  refine x_region <| yp 2 [] (.a (hB14.cs 0 6) .z) ?_
  have hI88 := hI.scalar (T' := T) hS17 ht19 rfl rfl rfl rfl
  have hA89 : TermAt w10 t T F := ⟨_, _, _, _, _, _, _, _, _, _, _, _, hI88⟩
  have hpre90 : Ch F w w10 := hS17.mono (fun i _ h => h ▸ hFt)
  have hly91 := hB14.lt
  have hX92 := hI88.cht (Ch.refl (fun j => j = t) w10)
  have hA93 := hI88.pk1 hI88 hX92
  have hVa94 := hV22.mono (K' := fun b => ¬ more F w10 w10 b ∧ b < w10.heap.size) (fun b hb => ⟨fun h => h.elim hb.1 (fun h => by have := hb.2; have := Ch.size hpre90; omega), by have := hb.2; have := Ch.size hX92; have := Ch.size hpre90; omega⟩)
  refine yo (yQ (csi_at hA93 hT21 hL  hVa94 hV8 hVb) ?_)
  rintro w100 ⟨hB95, hc96⟩
  obtain ⟨hN97, hX98⟩ := TermAt.next hA89 hX92 hc96 hB95
  have hL104 : Lim W H (csiT T ac) := (lim_csi hL _)
  generalize hE104 : (csiT T ac) = T104 at hN97 hL104
  have hM104 := hL104
  have hla104 := hM104.all
  obtain ⟨g104, o104, ba104, bn104, bc104, pa104, pn104, pc104, F1104, F2104, FB104, FP104, hI99⟩ := hN97
  obtain ⟨gv104, hgd105⟩ := hI99.g1.head
  have htg106 : Df t g104 := fun e => hI99.t1 (e ▸ hI99.g1.inF)
  refine yE (nB (yR0' ?_))
  have hX107 := Ch.on hX98 (Ch.refl (fun j => j = t) w100) hFt
  have hA108 := hI99.pk2 (Ch.refl (fun j => j = t) w100) hI88 hX107
  subst hE104
  refine ⟨rfl, TermAt.eq' (hA108.mono (more_le hpre90.size) (hI.moreOk (Nat.le_trans hpre90.size hX107.size))) ?_, Ch.trans hpre90 hX107 iZ⟩
  simp only [actT, oscT, hpp0, hpp1, hpp2, hpp3, ↓reduceIte, Int.reduceEq, Int.reduceLT, Int.reduceLE, Bool.and_true, Bool.true_and, Bool.and_false, Bool.false_and, Bool.false_eq_true, Bool.true_eq_false, and_true, true_and, and_false, false_and, or_true, true_or, or_false, false_or]
 have hpp3 := hC87
 refine ysr <| yp 2 [] .z <| ye <| yc (rE ac.kind 4) (fun hC109 => ?_) fun hC109 => ?_
 ·have hpp4 := hC109
  refine ysr <| yp 5 [] (.l (hB14.c 5) .z) <| yw [34] (rM 2 ((ac.text).size : Int)) (fun hC110 => ?_) fun hC110 => ?_
  ·have hpp5 := hC110
   refine yp 10 [] (.l (hB14.c 5) (.j 2 ((ac.text).size) .z)) <| yw [39] (rY ((((ac.text).extract 0 (2 : Int).toNat)).toList == ((⟨#[48, 59]⟩ : ByteArray)).toList)) (fun hC111 => ?_) fun hC111 => ?_
   ·have hpp6 := hC111
    refine yp 16 [] .z <| ye <| yct <| x_region <| yp 6 [] (.l (hB14.c 5) (.j 2 ((ac.text).size) .z)) <| yo (yS ht19 fun w112 hB113 hc114 => ?_)
    have hS116 := Ch.trans hS17 hc114 (fun i hi (h : i = t) => h)
    refine yE (nB (yR0' ?_))
    have hI121 := hI.scalar (T' := ({ T with title := ((ac.text).extract (2 : Int).toNat (ac.text).size) } : TS)) hS116 (Blk.to hB113 (by kernel_rfl)) rfl rfl rfl rfl
    have hX122 := hI.cht hS116
    have hA123 := hI121.pk1 hI hX122
    refine ⟨rfl, TermAt.eq' hA123 ?_, hX122⟩
    simp only [actT, oscT, hpp0, hpp1, hpp2, hpp3, hpp4, hpp5, hpp6, ↓reduceIte, Int.reduceEq, Int.reduceLT, Int.reduceLE, Bool.and_true, Bool.true_and, Bool.and_false, Bool.false_and, Bool.false_eq_true, Bool.true_eq_false, and_true, true_and, and_false, false_and, or_true, true_or, or_false, false_or]
   have hpp6 := hC111
   refine yp 16 [] (.l (hB14.c 5) (.j 2 ((ac.text).size) .z)) <| ye <| yc (rY ((((ac.text).extract 0 (2 : Int).toNat)).toList == ((⟨#[50, 59]⟩ : ByteArray)).toList)) (fun hC124 => ?_) fun hC124 => ?_
   ·have hpp7 := hC124
    refine x_region <| yp 6 [] (.l (hB14.c 5) (.j 2 ((ac.text).size) .z)) <| yo (yS ht19 fun w125 hB126 hc127 => ?_)
    have hS129 := Ch.trans hS17 hc127 (fun i hi (h : i = t) => h)
    refine yE (nB (yR0' ?_))
    have hI134 := hI.scalar (T' := ({ T with title := ((ac.text).extract (2 : Int).toNat (ac.text).size) } : TS)) hS129 (Blk.to hB126 (by kernel_rfl)) rfl rfl rfl rfl
    have hX135 := hI.cht hS129
    have hA136 := hI134.pk1 hI hX135
    refine ⟨rfl, TermAt.eq' hA136 ?_, hX135⟩
    simp only [actT, oscT, hpp0, hpp1, hpp2, hpp3, hpp4, hpp5, hpp6, hpp7, ↓reduceIte, Int.reduceEq, Int.reduceLT, Int.reduceLE, Bool.and_true, Bool.true_and, Bool.and_false, Bool.false_and, Bool.false_eq_true, Bool.true_eq_false, and_true, true_and, and_false, false_and, or_true, true_or, or_false, false_or]
   have hpp7 := hC124
   refine x_skip (nB (yR0' ?_))
   have hI137 := hI.scalar (T' := T) hS17 ht19 rfl rfl rfl rfl
   have hX138 := hI.cht hS17
   have hA139 := hI137.pk1 hI hX138
   refine ⟨rfl, TermAt.eq' hA139 ?_, hX138⟩
   simp only [actT, oscT, hpp0, hpp1, hpp2, hpp3, hpp4, hpp5, hpp6, hpp7, ↓reduceIte, Int.reduceEq, Int.reduceLT, Int.reduceLE, Bool.and_true, Bool.true_and, Bool.and_false, Bool.false_and, Bool.false_eq_true, Bool.true_eq_false, and_true, true_and, and_false, false_and, or_true, true_or, or_false, false_or]
  have hpp5 := hC110
  refine yp 16 [] .z <| ye <| ycf <| x_skip (nB (yR0' ?_))
  have hI140 := hI.scalar (T' := T) hS17 ht19 rfl rfl rfl rfl
  have hX141 := hI.cht hS17
  have hA142 := hI140.pk1 hI hX141
  refine ⟨rfl, TermAt.eq' hA142 ?_, hX141⟩
  simp only [actT, oscT, hpp0, hpp1, hpp2, hpp3, hpp4, hpp5, ↓reduceIte, Int.reduceEq, Int.reduceLT, Int.reduceLE, Bool.and_true, Bool.true_and, Bool.and_false, Bool.false_and, Bool.false_eq_true, Bool.true_eq_false, and_true, true_and, and_false, false_and, or_true, true_or, or_false, false_or]
 have hpp4 := hC109
 refine x_skip (nB (yR0' ?_))
 have hI143 := hI.scalar (T' := T) hS17 ht19 rfl rfl rfl rfl
 have hX144 := hI.cht hS17
 have hA145 := hI143.pk1 hI hX144
 refine ⟨rfl, TermAt.eq' hA145 ?_, hX144⟩
 simp only [actT, oscT, hpp0, hpp1, hpp2, hpp3, hpp4, ↓reduceIte, Int.reduceEq, Int.reduceLT, Int.reduceLE, Bool.and_true, Bool.true_and, Bool.and_false, Bool.false_and, Bool.false_eq_true, Bool.true_eq_false, and_true, true_and, and_false, false_and, or_true, true_or, or_false, false_or]
end Go.Proofs.YteoejhjfbfacdaaGreatDoor.X
namespace Go.Proofs.YteoejhjfbfacdaaGreatDoor.X
open Go Go.RowKit Go.Proofs.YteoejhjfbfacdaaGreatDoor
def feedT (T : TS) (c : Int) : TS := (feedP T.parser c).2.foldl actT { T with parser := (feedP T.parser c).1 }
def writeN (T : TS) (s : ByteArray) : Nat → TS
 | 0 => T
 | k + 1 => feedT (writeN T s k) (bt s ((k : Nat) : Int))
def writeT (T : TS) (s : ByteArray) : TS := writeN T s s.size
structure AcOk (a : Ac) : Prop where
 n : a.params.length ≤ 8
 b : ∀ x ∈ a.params, 0 ≤ x ∧ x ≤ 9999
 t : a.text.size ≤ 40
theorem acok_nil {k r l : Int} {m u : ByteArray} (h : u.size ≤ 40) : AcOk ⟨k, r, l, m, [], u⟩ := ⟨by simp, (fun x hx => by cases hx), h⟩
theorem plim_at (s : Int) : (atP s).lim := ⟨u0_ok, (by decide : (0 : Nat) ≤ 2), (by decide : (0 : Nat) ≤ 40), (by decide : (0 : Nat) ≤ 8), fun x hx => by cases hx⟩
def FedOk (r : PS × List Ac) : Prop := r.1.lim ∧ ∀ a ∈ r.2, AcOk a
theorem fedok_nil {p : PS} (h : p.lim) : FedOk (p, []) := ⟨h, fun a ha => by cases ha⟩
theorem fedok_one {p : PS} {a : Ac} (h : p.lim) (ha : AcOk a) : FedOk (p, [a]) := ⟨h, fun b hb => by obtain rfl := List.mem_singleton.1 hb; exact ha⟩
theorem acok_acP (l : List Int) : ∀ a ∈ l.map acP, AcOk a := fun a ha => by
 obtain ⟨r, _, rfl⟩ := List.mem_map.1 ha
 exact acok_nil (by decide)
theorem acok_app {l m : List Ac} (h : ∀ a ∈ l, AcOk a) (h' : ∀ a ∈ m, AcOk a) : ∀ a ∈ l ++ m, AcOk a := fun a ha => (List.mem_append.1 ha).elim (h a) (h' a)
theorem ite_fed {P : PS × List Ac → Prop} {c : Prop} [Decidable c] {a b : PS × List Ac} (h1 : c → P a) (h2 : ¬ c → P b) : P (if c then a else b) := by
 by_cases h : c
 ·rw [if_pos h]; exact h1 h
 ·rw [if_neg h]; exact h2 h
theorem fed_finish {p : PS} (h : p.lim) (s : Int) : FedOk (finishP p s) := fedok_one (plim_at 0) (acok_nil h.t)
theorem fed_escape {p : PS} (h : p.lim) (c : Int) : FedOk (escapeP p c) := by
 unfold escapeP
 refine ite_fed (fun _ => fedok_nil ?_) fun _ => ite_fed (fun _ => fedok_nil (plim_at 3)) fun _ => ite_fed (fun _ => fedok_nil (plim_at 5)) fun _ => ite_fed (fun _ => fedok_nil (plim_at 6)) fun _ => fedok_one (plim_at 0) (acok_nil (by decide))
 split
 ·exact ⟨h.u, by show (p.marks ++ bytesOf [c]).size ≤ 2; rw [ByteArray.size_append, bytesOf_one]; omega, h.t, h.n, h.b⟩
 ·exact ⟨h.u, h.m, h.t, h.n, h.b⟩
theorem fed_string {p : PS} (h : p.lim) (c : Int) : FedOk (stringP p c) := by
 unfold stringP
 refine ite_fed (fun _ => fedok_nil ⟨h.u, h.m, h.t, h.n, h.b⟩) fun _ => ite_fed (fun _ => fed_finish h 5) fun _ => ite_fed (fun _ => fedok_nil (plim_at 0)) fun _ => ite_fed (fun h3 => fedok_nil ⟨h.u, h.m, ?_, h.n, h.b⟩) fun _ => fedok_nil h
 show (p.text ++ bytesOf [c]).size ≤ 40
 rw [ByteArray.size_append, bytesOf_one]; omega
theorem someL_bd {l : List Int} (h : ∀ x ∈ l, 0 ≤ x ∧ x ≤ 9999) : ∀ x ∈ someL l, 0 ≤ x ∧ x ≤ 9999 := fun x hx => by
 unfold someL at hx
 split at hx
 ·simp at hx; omega
 ·exact h x hx
theorem fed_csi {p : PS} (h : p.lim) (c : Int) : FedOk (csiP p c) := by
 have h1 := someL_len p.params
 have h2 := someL_bd h.b
 have h3 := lastI_bd h.b
 have h4 := h.n
 unfold csiP
 refine ite_fed (fun hc => fedok_nil ⟨h.u, h.m, h.t, ?_, ?_⟩) fun _ => ite_fed (fun _ => fedok_nil ?_) fun _ => ite_fed (fun _ => ite_fed (fun _ => fedok_nil (plim_at 0)) fun _ => fedok_one (plim_at 0) ⟨h.n, h.b, (by decide : (0 : Nat) ≤ 40)⟩) fun _ => ite_fed (fun _ => fedok_nil ⟨h.u, h.m, h.t, h.n, h.b⟩) fun h5 => fedok_nil ⟨h.u, ?_, h.t, h.n, h.b⟩
 ·show (setLast _ _).length ≤ 8
  unfold setLast; rw [List.length_set]; omega
 ·intro x hx
  have hx' : x ∈ (someL p.params).set ((someL p.params).length - 1) (min (10 * lastI (someL p.params) + (c - 48)) 9999) := hx
  rcases List.mem_or_eq_of_mem_set hx' with hx | rfl
  ·exact h2 x hx
  ·omega
 ·split
  ·refine ⟨h.u, h.m, h.t, ?_, ?_⟩
   ·show (someL p.params ++ [0]).length ≤ 8
    rw [List.length_append]; simp only [List.length_cons, List.length_nil]; omega
   ·intro x hx
    rcases List.mem_append.1 hx with hx | hx
    ·exact h2 x hx
    ·simp at hx; omega
  ·exact ⟨h.u, h.m, h.t, by show (someL p.params).length ≤ 8; omega, h2⟩
 ·show (p.marks ++ bytesOf [c]).size ≤ 2
  have := h.m
  rw [ByteArray.size_append, bytesOf_one]; omega
theorem feedU_ok {u : US} (h : u.ok) {c : Int} (hc : 0 ≤ c ∧ c ≤ 255) : (feedU u c).1.ok := by
 have hb : ∀ x ∈ u.pend ++ [c], 0 ≤ x ∧ x ≤ 255 := fun x hx => (List.mem_append.1 hx).elim (h.pend x) (fun h => by simp at h; omega)
 exact mkU_ok (fun x hx => itU_bytes hb 4 x (List.mem_of_mem_take hx)) (by rw [List.length_take]; omega)
theorem fed_ground {p : PS} (h : p.lim) {c : Int} (hc : 0 ≤ c ∧ c ≤ 255) : FedOk (groundP p c) := by
 unfold groundP
 refine ite_fed (fun _ => ite_fed (fun _ => ⟨plim_at 1, acok_acP _⟩) fun _ => ite_fed (fun _ => ⟨⟨u0_ok, h.m, h.t, h.n, h.b⟩, acok_app (acok_acP _) fun a ha => by obtain rfl := List.mem_singleton.1 ha; exact acok_nil (by decide)⟩) fun _ => ⟨⟨feedU_ok u0_ok hc, h.m, h.t, h.n, h.b⟩, acok_app (acok_acP _) (acok_acP _)⟩) fun _ => ⟨⟨feedU_ok h.u hc, h.m, h.t, h.n, h.b⟩, acok_acP _⟩
theorem fed_feed1 {p : PS} (h : p.lim) {c : Int} (hc : 0 ≤ c ∧ c ≤ 255) : FedOk (feedP1 p c) := by
 unfold feedP1
 exact ite_fed (fun _ => fed_ground h hc) fun _ => ite_fed (fun _ => fed_string h c) fun _ => ite_fed (fun _ => fedok_nil (plim_at 0)) fun _ => ite_fed (fun _ => fedok_nil (plim_at 1)) fun _ => ite_fed (fun _ => fedok_one h (acok_nil (by decide))) fun _ => ite_fed (fun _ => fedok_nil h) fun _ => ite_fed (fun _ => fed_csi h c) fun _ => fed_escape h c
theorem fed_feed {p : PS} (h : p.lim) {c : Int} (hc : 0 ≤ c ∧ c ≤ 255) : FedOk (feedP p c) := by
 unfold feedP
 exact ite_fed (fun _ => ite_fed (fun _ => fed_finish h _) fun _ => fed_feed1 (plim_at 1) hc) fun _ => fed_feed1 h hc
theorem fed_len {p : PS} (h : p.lim) (c : Int) : (feedP p c).2.length ≤ 8 := by
 have hf : (flushL p.utf).length ≤ 3 := by unfold flushL; rw [List.length_replicate]; have := h.u.n; omega
 have hu := feedU_len h.u c
 have h0 := feedU_len u0_ok c
 have l1 : ∀ (q : PS) (s : Int), (finishP q s).2.length ≤ 8 := fun _ _ => by simp [finishP]
 have l2 : ∀ q : PS, (escapeP q c).2.length ≤ 8 := fun q => by
  unfold escapeP
  exact ite_fed (P := fun r => r.2.length ≤ 8) (fun _ => by simp) fun _ => ite_fed (P := fun r => r.2.length ≤ 8) (fun _ => by simp) fun _ => ite_fed (P := fun r => r.2.length ≤ 8) (fun _ => by simp) fun _ => ite_fed (P := fun r => r.2.length ≤ 8) (fun _ => by simp) fun _ => by simp
 have l3 : ∀ q : PS, (stringP q c).2.length ≤ 8 := fun q => by
  unfold stringP
  exact ite_fed (P := fun r => r.2.length ≤ 8) (fun _ => by simp) fun _ => ite_fed (P := fun r => r.2.length ≤ 8) (fun _ => l1 _ _) fun _ => ite_fed (P := fun r => r.2.length ≤ 8) (fun _ => by simp) fun _ => ite_fed (P := fun r => r.2.length ≤ 8) (fun _ => by simp) fun _ => by simp
 have l4 : ∀ q : PS, (csiP q c).2.length ≤ 8 := fun q => by
  unfold csiP
  exact ite_fed (P := fun r => r.2.length ≤ 8) (fun _ => by simp) fun _ => ite_fed (P := fun r => r.2.length ≤ 8) (fun _ => by simp) fun _ => ite_fed (P := fun r => r.2.length ≤ 8) (fun _ => ite_fed (P := fun r => r.2.length ≤ 8) (fun _ => by simp) fun _ => by simp) fun _ => ite_fed (P := fun r => r.2.length ≤ 8) (fun _ => by simp) fun _ => by simp
 have l5 : (groundP p c).2.length ≤ 8 := by
  unfold groundP
  exact ite_fed (P := fun r => r.2.length ≤ 8) (fun _ => ite_fed (P := fun r => r.2.length ≤ 8) (fun _ => by simp; omega) fun _ => ite_fed (P := fun r => r.2.length ≤ 8) (fun _ => by simp; omega) fun _ => by simp; omega) fun _ => by simp; omega
 have l6 : ∀ q : PS, (groundP q c).2.length ≤ 8 → (feedP1 q c).2.length ≤ 8 := fun q hq => by
  unfold feedP1
  exact ite_fed (P := fun r => r.2.length ≤ 8) (fun _ => hq) fun _ => ite_fed (P := fun r => r.2.length ≤ 8) (fun _ => l3 _) fun _ => ite_fed (P := fun r => r.2.length ≤ 8) (fun _ => by simp) fun _ => ite_fed (P := fun r => r.2.length ≤ 8) (fun _ => by simp) fun _ => ite_fed (P := fun r => r.2.length ≤ 8) (fun _ => by simp) fun _ => ite_fed (P := fun r => r.2.length ≤ 8) (fun _ => by simp) fun _ => ite_fed (P := fun r => r.2.length ≤ 8) (fun _ => l4 _) fun _ => l2 _
 have l7 : (groundP (atP 1) c).2.length ≤ 8 := by
  have hz : (flushL (atP 1).utf).length ≤ 3 := by simp [flushL, atP]
  have hv : (feedU (atP 1).utf c).2.length ≤ 4 := h0
  unfold groundP
  exact ite_fed (P := fun r => r.2.length ≤ 8) (fun _ => ite_fed (P := fun r => r.2.length ≤ 8) (fun _ => by simp; omega) fun _ => ite_fed (P := fun r => r.2.length ≤ 8) (fun _ => by simp; omega) fun _ => by simp; omega) fun _ => by simp; omega
 unfold feedP
 exact ite_fed (P := fun r => r.2.length ≤ 8) (fun _ => ite_fed (P := fun r => r.2.length ≤ 8) (fun _ => l1 _ _) fun _ => l6 _ l7) fun _ => l6 _ l5
end Go.Proofs.YteoejhjfbfacdaaGreatDoor.X
namespace Go.Proofs.YteoejhjfbfacdaaGreatDoor.X
open Go Go.RowKit Go.Proofs.YteoejhjfbfacdaaGreatDoor
theorem TermIn.newPs {w w' : World} {t g o : Nat} {ba : Option Addr} {bn bc : Nat} {pa : Option Addr} {pn pc : Nat} {T : TS} {F F1 F2 FB FP K : Nat → Prop} (h : TermIn w t g o ba bn bc pa pn pc T F F1 F2 FB FP) (hc : Ch (fun j => j = t) w w') {p' : PS} {po : Option Nat} {pn' pc' : Nat}
  (hb : Blk w' t (({ T with parser := p' } : TS).vals g o (.slice ba bn bc) (.slice (po.map at0) pn' pc')) tTerm) (hp : IntsAt w' .i64 po pn' pc' p'.params K) (hK : ∀ b, po = some b → FP b ∨ (¬ F b ∧ gTop ≤ b)) :
  TermIn w' t g o ba bn bc (po.map at0) pn' pc' ({ T with parser := p' } : TS) (fun b => F b ∨ po = some b) F1 F2 FB (fun b => FP b ∨ po = some b) := by
 obtain ⟨rows, hL, hl⟩ := h.bk
 have key : ∀ (X : Nat → Prop), (∀ b, X b → F b) → (∀ b, X b → ¬ FP b) → ∀ b, X b → ¬ (FP b ∨ po = some b) := fun X h1 h2 b hx hy => hy.elim (h2 b hx) fun e => (hK b e).elim (h2 b hx) fun h3 => h3.1 (h1 b hx)
 exact
 {blk := hb
  g1 := h.g1.ch hc fun b hb e => h.t1 (e ▸ hb)
  g2 := h.g2.ch hc fun b hb e => h.t2 (e ▸ hb)
  bk := ⟨rows, hL.ch hc fun b hb e => h.tB (e ▸ hb), hl⟩
  bcap := h.bcap
  ps := ⟨hp.1, hp.2.1, (fun e => hp.2.2.1 (by cases po <;> simp_all)), fun ad e => by
   cases po with
   | none => cases e
   | some b => cases e; exact .inr rfl⟩
  pz := ⟨po, rfl⟩
  bz := h.bz
  t1 := h.t1, t2 := h.t2, tB := h.tB
  tP := key (fun b => b = t) (fun b e => e ▸ h.inF.1) (fun b e => e ▸ h.tP) t rfl
  a12 := h.a12, a1B := h.a1B, a2B := h.a2B
  a1P := key F1 h.inF.2.1 h.a1P
  a2P := key F2 h.inF.2.2.1 h.a2P
  inF := ⟨.inl h.inF.1, fun b hb => .inl (h.inF.2.1 b hb), fun b hb => .inl (h.inF.2.2.1 b hb), fun b hb => .inl (h.inF.2.2.2.1 b hb), fun b hb => hb.imp (h.inF.2.2.2.2 b) id⟩
  lt := fun b hb => hb.elim (fun hb => Nat.lt_of_lt_of_le (h.lt b hb) hc.size) fun e => (hp.2.2.2 b e).2
  hi := fun b hb => hb.elim (h.hi b) fun e => (hK b e).elim (fun hb => h.hi b (h.inF.2.2.2.2 b hb)) fun h3 => h3.2 }
theorem TermIn.ints {w : World} {t g o : Nat} {ba : Option Addr} {bn bc : Nat} {pa : Option Addr} {pn pc : Nat} {T : TS} {F F1 F2 FB FP : Nat → Prop} (h : TermIn w t g o ba bn bc pa pn pc T F F1 F2 FB FP) :
  ∃ po : Option Nat, pa = po.map at0 ∧ IntsAt w .i64 po pn pc T.parser.params (fun b => po = some b) ∧ ∀ b, po = some b → FP b := by
 obtain ⟨po, rfl⟩ := h.pz
 have hf : ∀ b, po = some b → FP b := fun b e => by subst e; exact h.ps.2.2.2 _ rfl
 refine ⟨po, rfl, ⟨h.ps.1, h.ps.2.1, fun e => h.ps.2.2.1 (by rw [e]; rfl), fun b e => ⟨e, h.lt b (h.inF.2.2.2.2 b (hf b e))⟩⟩, hf⟩
theorem ActsAt.at {w : World} {b n c : Nat} {l : List Ac} {K : Nat → Prop} (h : ActsAt w (some b) n c l K) {j : Nat} (hj : j < n) : ∃ ac ao an cc, l[j]? = some ac ∧ IntsAt w .i64 ao an cc ac.params K ∧
  w.cell? ⟨b, (0 + ((j : Nat) : Int).toNat * 6), none⟩ = some (.int .i64 ac.kind) ∧ w.cell? ⟨b, (0 + ((j : Nat) : Int).toNat * 6) + 1, none⟩ = some (.int .i32 ac.rune) ∧ w.cell? ⟨b, (0 + ((j : Nat) : Int).toNat * 6) + 2, none⟩ = some (.int .u8 ac.last) ∧
  w.cell? ⟨b, (0 + ((j : Nat) : Int).toNat * 6) + 3, none⟩ = some (.string ac.marks) ∧ w.cell? ⟨b, (0 + ((j : Nat) : Int).toNat * 6) + 4, none⟩ = some (.slice (ao.map at0) an cc) ∧ w.cell? ⟨b, (0 + ((j : Nat) : Int).toNat * 6) + 5, none⟩ = some (.string ac.text) := by
 obtain ⟨vss, h1, h2, h3⟩ := h.ex
 have hl := h.len
 have hj1 : j < l.length := by omega
 have hj2 : j < vss.length := by omega
 obtain ⟨ao, an, cc, e, hv⟩ := h3 j hj1 hj2
 have h6 : ∀ v ∈ vss, v.length = 6 := fun v hv => by
  obtain ⟨i, hi, rfl⟩ := List.getElem_of_mem hv
  exact (h3 i (by omega) hi).len
 have key : ∀ k, k < 6 → ∀ v, (l[j].vals (.slice (ao.map at0) an cc))[k]? = some v → w.cell? ⟨b, 0 + (j * 6 + k), none⟩ = some v := fun k hk v hv => rd_at h1.rd _ _ (by rw [flatten_at h6 hj2 hk, e]; exact hv)
 refine ⟨l[j], ao, an, cc, List.getElem?_eq_getElem hj1, hv, ?_⟩
 rw [Int.toNat_natCast, Nat.zero_add]
 have k0 := key 0 (by decide) _ rfl
 have k1 := key 1 (by decide) _ rfl
 have k2 := key 2 (by decide) _ rfl
 have k3 := key 3 (by decide) _ rfl
 have k4 := key 4 (by decide) _ rfl
 have k5 := key 5 (by decide) _ rfl
 simp only [Nat.zero_add, Nat.add_zero] at k0 k1 k2 k3 k4 k5
 exact ⟨k0, k1, k2, k3, k4, k5⟩
theorem acts_next {l : List Ac} {j : Nat} {ac : Ac} (h : l[j]? = some ac) (T : TS) : (l.take (j + 1)).foldl actT T = actT ((l.take j).foldl actT T) ac := by
 obtain ⟨hj, rfl⟩ := List.getElem?_eq_some_iff.1 h
 rw [List.take_succ_eq_append_getElem hj, List.foldl_append]
 rfl
theorem more_in {F F2 : Nat → Prop} {w u v : World} (h : ∀ b, F2 b → more F w u b) (h1 : w.heap.size ≤ u.heap.size) (h2 : u.heap.size ≤ v.heap.size) : ∀ b, more F2 u v b → more F w v b := fun b hb => hb.elim (fun hb => (h b hb).imp id fun h => ⟨h.1, by omega⟩) fun hb => .inr ⟨by omega, hb.2⟩
theorem ch_in {F F2 : Nat → Prop} {w u v : World} (hc : Ch F w u) (h : ∀ b, F2 b → more F w u b) (hc2 : Ch F2 u v) : Ch F w v := hc.trans hc2 fun i hi h2 => (h i h2).elim id fun h => by omega
theorem lim_acts {W H : Int} {T : TS} (h : Lim W H T) (l : List Ac) : Lim W H (l.foldl actT T) := by
 induction l generalizing T with
 | nil => exact h
 | cons a l ih => exact ih (lim_act h a)
theorem lim_parser {W H : Int} {T : TS} (h : Lim W H T) (p : PS) : Lim W H { T with parser := p } := h.flags rfl rfl rfl rfl rfl rfl rfl rfl rfl
theorem lim_feed {W H : Int} {T : TS} (h : Lim W H T) (c : Int) : Lim W H (feedT T c) := lim_acts (lim_parser h _) _
theorem lim_write {W H : Int} {T : TS} (h : Lim W H T) (s : ByteArray) (k : Nat) : Lim W H (writeN T s k) := by
 induction k with
 | zero => exact h
 | succ k ih => exact lim_feed ih _
theorem ite_p {c : Prop} [Decidable c] {a b : TS} {p : PS} (h1 : a.parser = p) (h2 : b.parser = p) : (if c then a else b).parser = p := by
 split <;> assumption
theorem scrollT_p (T : TS) (n : Int) : (scrollT T n).parser = T.parser := ite_p rfl rfl
theorem homeT_p (T : TS) (x y : Int) : (homeT T x y).parser = T.parser := ite_p rfl rfl
theorem downT_p (T : TS) : (downT T).parser = T.parser := ite_p (scrollT_p T 1) (ite_p rfl rfl)
theorem upT_p (T : TS) : (upT T).parser = T.parser := ite_p rfl (ite_p rfl rfl)
theorem printT_p (T : TS) (r : Int) : (printT T r).parser = T.parser := by
 have hA : ∀ T, (printA T).parser = T.parser := fun T => ite_p (downT_p _) rfl
 have hB : ∀ T n, (printB T n).parser = T.parser := fun T n => ite_p (ite_p (downT_p _) rfl) rfl
 have hC : ∀ T n, (printC T n).parser = T.parser := fun T n => ite_p rfl rfl
 have hE : ∀ T n, (printE T n).parser = T.parser := fun T n => ite_p rfl rfl
 unfold printT
 rw [hE]
 exact (hC _ _).trans ((hB _ _).trans (hA _))
theorem execT_p (T : TS) (c : Int) : (execT T c).parser = T.parser :=
 ite_p rfl (ite_p rfl (ite_p (downT_p T) (ite_p (downT_p T) (ite_p (downT_p T) (ite_p rfl (ite_p rfl (ite_p rfl rfl)))))))
theorem escT_p (T : TS) (a : Ac) : (escT T a).parser = T.parser :=
 ite_p (ite_p rfl rfl) (ite_p (ite_p rfl rfl) (ite_p rfl (ite_p rfl (ite_p rfl (ite_p (downT_p T) (ite_p (downT_p T) (ite_p (upT_p T) (ite_p rfl (ite_p rfl rfl)))))))))
theorem replyT_p (T : TS) (s : ByteArray) : (replyT T s).parser = T.parser := ite_p rfl rfl
theorem tellT_p (T : TS) (c k : Int) : (tellT T c k).parser = T.parser := ite_p rfl (ite_p rfl (ite_p rfl (ite_p (replyT_p _ _) (ite_p (replyT_p _ _) (ite_p (replyT_p _ _) rfl)))))
theorem eraseN_p (T : TS) (k x y : Int) (s : Sty) (a : Int) (j : Nat) : (eraseN T k x y s a j).parser = T.parser := by
 induction j with
 | zero => rfl
 | succ j ih => exact (ite_p rfl (ite_p rfl (ite_p rfl rfl)) : (erase1 (eraseN T k x y s a j) k x y s (a + (j : Int))).parser = _).trans ih
theorem eraseT_p (T : TS) (k a b : Int) : (eraseT T k a b).parser = T.parser := eraseN_p _ _ _ _ _ _ _
theorem editT_p (T : TS) (c n : Int) (l : List Int) : (editT T c n l).parser = T.parser :=
 ite_p rfl (ite_p rfl (ite_p rfl (ite_p (eraseT_p _ _ _ _) (ite_p (ite_p (eraseT_p _ _ _ _) (eraseT_p _ _ _ _)) (ite_p (ite_p rfl rfl) (ite_p (ite_p rfl rfl) (ite_p (scrollT_p _ _) (ite_p rfl (tellT_p _ _ _)))))))))
theorem plainT_p (T : TS) (c : Int) (l : List Int) : (plainT T c l).parser = T.parser :=
 ite_p rfl (ite_p rfl (ite_p rfl (ite_p rfl (ite_p rfl (ite_p (homeT_p _ _ _) (ite_p (homeT_p _ _ _) (ite_p rfl (ite_p (ite_p (homeT_p _ _ _) rfl) (editT_p _ _ _ _)))))))))
theorem turnT_p (T : TS) (b : Bool) : (turnT T b).parser = T.parser := ite_p rfl (ite_p rfl rfl)
theorem modeT_p (T : TS) (n : Int) (b : Bool) : (modeT T n b).parser = T.parser := ite_p (homeT_p _ _ _) (ite_p rfl (ite_p rfl (ite_p (turnT_p _ _) rfl)))
theorem modes_p (T : TS) (l : List Int) (b : Bool) : (l.foldl (fun T n => modeT T n b) T).parser = T.parser := by
 induction l generalizing T with
 | nil => rfl
 | cons n l ih => exact (ih _).trans (modeT_p _ _ _)
theorem csiT_p (T : TS) (a : Ac) : (csiT T a).parser = T.parser := ite_p (plainT_p _ _ _) (ite_p (modes_p _ _ _) rfl)
theorem actT_p (T : TS) (a : Ac) : (actT T a).parser = T.parser := ite_p (printT_p _ _) (ite_p (execT_p _ _) (ite_p (escT_p _ _) (ite_p (csiT_p _ _) (ite_p (ite_p rfl rfl) rfl))))
theorem acts_p (T : TS) (l : List Ac) : (l.foldl actT T).parser = T.parser := by
 induction l generalizing T with
 | nil => rfl
 | cons a l ih => exact (ih _).trans (actT_p _ _)
theorem feedT_p (T : TS) (c : Int) : (feedT T c).parser = (feedP T.parser c).1 := acts_p _ _
theorem plim_write {T : TS} (h : T.parser.lim) (s : ByteArray) (k : Nat) : (writeN T s k).parser.lim := by
 induction k with
 | zero => exact h
 | succ k ih => exact (feedT_p _ _) ▸ (fed_feed ih (bt_range s _)).1
end Go.Proofs.YteoejhjfbfacdaaGreatDoor.X
namespace Go.Proofs.YteoejhjfbfacdaaGreatDoor.X
open Go Go.RowKit Go.Proofs.YteoejhjfbfacdaaGreatDoor
def zeroT : TS := { grid := ⟨0, 0, []⟩, other := ⟨0, 0, []⟩, cursor := cur0, saved := cur0, away := cur0, top := 0, bot := 0, tabs := fun _ => false, wrap := false, origin := false, insert := false, hidden := false, draw0 := false, draw1 := false, shift := false, alt := false, title := ByteArray.empty, back := [], parser := ⟨0, ⟨0, 0, 0, 0⟩, ByteArray.empty, [], ByteArray.empty, 0⟩, reply := ByteArray.empty }
set_option maxHeartbeats 4000000 in
theorem tnew_any (p1 p2 : Int) (w : World) (hT : LT w) (h7 : gTop ≤ w.heap.size) : Calls Tryz.prog 7 [iX p1, iX p2].toArray w fun e w' => ∃ t, e = .returned (pX t) ∧ TermAt w' t (startT zeroT p1 p2) (fun b => w.heap.size ≤ b ∧ b < w'.heap.size) ∧ Ch (fun _ => False) w w' := by
 refine yA Tryz.func7 rfl <| ysr <| yp 1 [] .z <| ye <| ysr <| yp 1 [] .z <| yo (yN [.pointer none, .pointer none, iX 0, iX 0, .bool false, .bool false, .bool false, .bool false, iX 0, iX 0, iX 0, iX 0, .bool false, .bool false, .bool false, .bool false, iX 0, iX 0, iX 0, iX 0, .bool false, .bool false, .bool false, .bool false, iX 0, iX 0, iX 0, iX 0, .bool false, .bool false, .bool false, .bool false, .bool false, .bool false, .bool false, .bool false, .bool false, .bool false, .bool false, .bool false, .bool false, .bool false, .bool false, .bool false, .bool false, .bool false, .bool false, .bool false, .bool false, .bool false, .bool false, .bool false, .bool false, .bool false, .bool false, .bool false, .bool false, .bool false, .bool false, .bool false, .bool false, .bool false, .bool false, .bool false, .bool false, .bool false, .bool false, .bool false, .bool false, .bool false, .bool false, .bool false, .bool false, .bool false, .bool false, .bool false, .bool false, .bool false, .bool false, .bool false, .bool false, .bool false, .bool false, .bool false, .bool false, .bool false, .bool false, .bool false, .bool false, .bool false, .bool false, .bool false, .bool false, .bool false, .bool false, .bool false, .string ByteArray.empty, .slice none 0 0, iX 0, uX 0, uX 0, uX 0, iX 0, .string ByteArray.empty, .slice none 0 0, .string ByteArray.empty, iX 0, .string ByteArray.empty] 56 fun w10 b11 hb12 hz13 hB14 hc15 => ?_)
 have hlo16 : w.heap.size ≤ b11 := by rw [hb12]; exact Ch.size (Up.refl w.heap.size w)
 have hu17 := Up.step (Up.refl w.heap.size w) hc15 iZ
 refine yp 3 [] .z <| ye <| ysr <| yp 3 [] .z ?_
 have hBz : Blk w10 b11 (zeroT.valsG (.pointer none) (.pointer none) (.slice none 0 0) (.slice none 0 0)) tTerm := Blk.to hB14 (by kernel_rfl)
 have hszb := Ch.size hu17
 have hPz : PsAt w10 b11 none 0 0 zeroT.parser.params (fun _ => False) := ⟨⟨Rd.nil _ _, rfl, fun _ => rfl, fun ad e => by cases e⟩, ⟨none, rfl⟩, fun b h => h.elim⟩
 have hT20 := lt_ch (Up.ch hu17) hT (fun _ h => h.elim)
 refine yo (yQ (start_any hBz hPz (by omega) hT20 (by decide) p1 p2) ?_)
 rintro w21 ⟨hA18, hc19⟩
 refine ye <| ysr <| yp 2 [] .z <| ye <| x_ret (yR1 (pX b11) ?_)
 refine ⟨b11, rfl, TermAt.mono hA18 (fun b hb => ?_) (fun b hb => ⟨hb.2, by omega⟩), Ch.trans (Up.ch hu17) hc19 (fun i hi h => ?_)⟩
 ·have hz := Ch.size hc19
  rcases hb with rfl | hb | hb
  ·exact ⟨by omega, by have := hBz.lt; omega⟩
  ·exact hb.elim
  exact ⟨by omega, hb.2⟩
 rcases h with rfl | h
 ·omega
 exact h
theorem feed_anyX {X : PS × List Ac} {w : World} {po : Option Nat} {pn pc : Nat} {p : PS} {c : Int} (hX : feedP p c = X) (hP : IntsAt w .i64 po pn pc p.params (fun b => po = some b)) (hcB : 0 ≤ c ∧ c ≤ 255) (hU : UTabs w) (hp : p.lim) (hn8 : pn ≤ 8) : Calls Tryz.prog 24 [.agg #[iX p.state, uX p.utf.b0, uX p.utf.b1, uX p.utf.b2, iX p.utf.n, .string p.marks, .slice (po.map at0) pn pc, .string p.text, iX p.within], uX c].toArray w fun e w' => Fed w w' e po X.1 X.2 := by
 subst hX
 exact feed_any hP c hcB hU hp hn8
set_option maxHeartbeats 4000000 in
theorem write_at {w : World} {t : Nat} {W H : Int} {T : TS} {F : Nat → Prop} (hA0 : TermAt w t T F) (hT : LT w) (hL : Lim W H T) (hp : T.parser.lim) (s : ByteArray) (hs : s.size ≤ 1000000) : Calls Tryz.prog 9 [pX t, .string s].toArray w fun e w' => e = .returned (.tuple #[]) ∧ TermAt w' t (writeT T s) (more F w w') ∧ Ch F w w' := by
 obtain ⟨g, o, ba, bn, bc, pa, pn, pc, F1, F2, FB, FP, hI⟩ := hA0
 have hA0 : TermAt w t T F := ⟨g, o, ba, bn, bc, pa, pn, pc, F1, F2, FB, FP, hI⟩
 have hFt := hI.inF.1
 obtain ⟨gv, hgd⟩ := hI.g1.head
 have htg : Df t g := fun e => hI.t1 (e ▸ hI.g1.inF)
 obtain ⟨⟨hw1, hw2⟩, ⟨hh1, hh2⟩, hll, hall⟩ := hI.g1.ok
 have hL0 := hL
 have hla := hL0.all
 refine yA Tryz.func9 rfl <| ysr <| yp 3 [] .z <| ye <| x_block ?_
 have hX10 := hI.cht (Ch.refl (fun j => j = t) w)
 have hA11 := hI.pk1 hI hX10
 refine ykeep [0, 1, 9, 10] (f' := [(0, pX t), (1, .string s), (9, iX ((s).size : Int)), (10, iX 0)]) <| x_loop (σ := Nat) (fun k => [(0, pX t), (1, .string s), (9, iX ((s).size : Int)), (10, iX ((k : Nat) : Int))]) (fun k u => k ≤ s.size ∧ (TermAt u t (writeN T s k) (more F w u) ∧ Ch F w u)) (fun k => s.size - k) 0 rfl ?_ ?_
 ·exact ⟨Nat.zero_le _, (TermAt.eq' hA11 rfl), hX10⟩
 intro k w12 hI13 K14 hL15
 obtain ⟨hk, hN16, hX17⟩ := hI13
 have hT19 := lt_ch hX17 hT (fun b hb => hI.hi b hb)
 have hL21 : Lim W H (writeN T s k) := (lim_write hL s k)
 generalize hE21 : (writeN T s k) = T21 at hN16 hL21
 have hM21 := hL21
 have hla21 := hM21.all
 obtain ⟨g21, o21, ba21, bn21, bc21, pa21, pn21, pc21, F121, F221, FB21, FP21, hI20⟩ := hN16
 obtain ⟨gv21, hgd22⟩ := hI20.g1.head
 have htg23 : Df t g21 := fun e => hI20.t1 (e ▸ hI20.g1.inF)
 obtain ⟨po24, hpo24, hpi24, hpf24⟩ := hI20.ints
 subst hpo24
 refine ysr <| yp 1 [] .z <| ye <| ys <| yc (rL ((k : Nat) : Int) ((s).size : Int)) (fun hC25 => ?_) fun hC25 => ?_
 ·refine yk <| ys <| x_block <| ysr <| yp 2 [] .z <| ye <| ysr <| yp 1 [] .z <| ye <| ys <| yD [8, 14] fun w26 hH27 hc28 => ?_
  have hS29 := Ch.trans (Ch.refl (fun j => j = t) w12) hc28 eZ
  have hT30 := lt_ch hc28 hT19 (fun _ h => h.elim)
  have ht31 := hI20.blk.ch hc28 id
  have hpi33 := hpi24.ch hc28 iZ
  refine yd (uL 0 8) [] (.a (ht31.cs 98 9) (.i ((k : Nat) : Int) ((s).size) .z)) ?_
  have hI34 := hI20.scalar (T' := T21) hS29 ht31 rfl rfl rfl rfl
  have hI44 := hI20.scalar (T' := T21) hS29 ht31 rfl rfl rfl rfl
  have hX45 := Ch.on hX17 hS29 hFt
  have hA46 := hI44.pk2 hS29 hI hX45
  have hI47 := hI44.mono (F' := more F w w26) (fun b hb => hb.elim .inl (fun h2 => .inr ⟨h2.1, by have := Ch.size hS29; omega⟩)) (hI.moreOk hX45.size)
  obtain ⟨X48, hX49⟩ : ∃ X, feedP T21.parser (bt s ((k : Nat) : Int)) = X := ⟨_, rfl⟩
  have hpl : (T21.parser).lim := (hE21 ▸ plim_write hp s k)
  have hfok := fed_feed hpl (bt_range s ((k : Nat) : Int))
  have hfl := fed_len hpl (bt s ((k : Nat) : Int))
  rw [hX49] at hfok hfl
  refine yK 8 (yC ((feed_anyX hX49 (p := T21.parser) hpi33 (bt_range s _) hT30.ut hpl (by have := hpl.n; have := hpi33.2.1; omega))) ?_)
  rintro _ w54 ⟨qo35, qn36, qc37, ao38, an39, ac40, rfl, hq41, ha42, hc43⟩
  refine ⟨_, rfl, ?_⟩
  have hsz1 := Ch.size hc43
  have hT56 := lt_ch hc43 hT30 (fun _ h => h.elim)
  have ht57 := ht31.ch hc43 id
  refine x_killed <| yd (uL 9 5) [] .z ?_
  have hI63 := hI47.same hc43 iZ
  refine yK 14 (e_store 98 [iX X48.1.state, uX X48.1.utf.b0, uX X48.1.utf.b1, uX X48.1.utf.b2, iX X48.1.utf.n, .string X48.1.marks, .slice (qo35.map at0) qn36 qc37, .string X48.1.text, iX X48.1.within] none (by kernel_rfl) ht57 (of_ble (by kernel_rfl)) ?_)
  intro w60 hB61 hc62
  replace hB61 : Blk w60 t (TS.vals ({ T21 with parser := X48.1 } : TS) g21 o21 (.slice ba21 bn21 bc21) (.slice (qo35.map at0) qn36 qc37)) tTerm := Blk.to hB61 (by kernel_rfl)
  have hqK : ∀ b, qo35 = some b → po24 = some b ∨ (w26.heap.size ≤ b ∧ b < w54.heap.size) := fun b e => (hq41.2.2.2 b e).1
  have hFlt : ∀ b, more F w w26 b → b < w26.heap.size ∧ gTop ≤ b := hI.moreOk hX45.size
  have hq2 : ∀ b, qo35 = some b → ¬ b = t := fun b e h => (hqK b e).elim (fun h2 => hI63.tP (h ▸ hpf24 b h2)) (fun h2 => by have := (hFlt t (.inl hFt)).1; omega)
  have hq3 := hq41.ch hc62 (fun b hb (h : b = t) => hb.elim (fun h2 => hI63.tP (h ▸ hpf24 b h2)) (fun h2 => by have := (hFlt t (.inl hFt)).1; omega))
  have hI5 := hI63.newPs hc62 (p' := X48.1) hB61 hq3 (fun b e => (hqK b e).imp (fun h => hpf24 b h) (fun h => ⟨fun h2 => by have := (hFlt b h2).1; omega, by have := (hFlt t (.inl hFt)).2; have := (hFlt t (.inl hFt)).1; omega⟩))
  obtain ⟨F2, hF2⟩ : ∃ F' : Nat → Prop, F' = fun b => more F w w26 b ∨ qo35 = some b := ⟨_, rfl⟩
  rw [← hF2] at hI5
  have hF2in : ∀ b, F2 b → more F w w60 b := fun b hb => by
   rw [hF2] at hb
   rcases hb with hb | hb
   ·exact hb.imp id fun h => ⟨h.1, by have := Ch.size hc62; omega⟩
   rcases hqK b hb with h | h
   ·exact (hI63.inF.2.2.2.2 b (hpf24 b h)).imp id fun h => ⟨h.1, by have := Ch.size hc62; omega⟩
   exact .inr ⟨by have := Ch.size hX45; omega, by have := Ch.size hc62; omega⟩
  have hcw2 : Ch F w w60 := Ch.trans (Ch.trans hX45 hc43 eZ) hc62 (fun i _ h => h ▸ hFt)
  have hKlt : ∀ b, ((w26.heap.size ≤ b ∧ b < w54.heap.size) ∧ qo35 ≠ some b) → b < w60.heap.size := fun b hb => by have := Ch.size hc62; omega
  have hKF : ∀ b, ((w26.heap.size ≤ b ∧ b < w54.heap.size) ∧ qo35 ≠ some b) → ¬ F2 b := fun b hb h => by
   rw [hF2] at h
   rcases h with h | h
   ·have := (hFlt b h).1; omega
   exact hb.2 h
  have hT65 := lt_ch hc62 hT56 (fun b (h : b = t) => h ▸ hI.hi t hFt)
  have hac66 := ha42.ch hc62 (fun b hb (h : b = t) => by have := (hFlt t (.inl hFt)).1; omega)
  have hFt2 : F2 t := hI5.inF.1
  have hA5 : TermAt w60 t ({ T21 with parser := X48.1 } : TS) F2 := ⟨_, _, _, _, _, _, _, _, _, _, _, _, hI5⟩
  have hL67 : Lim W H ({ T21 with parser := X48.1 } : TS) := lim_parser hL21 _
  generalize hE68 : ({ T21 with parser := X48.1 } : TS) = T68 at hI5 hA5 hL67
  obtain ⟨gv68, hgd69⟩ := hI5.g1.head
  have htg70 : Df t g21 := fun e => hI5.t1 (e ▸ hI5.g1.inF)
  refine x_killed <| yd [15] [] .z <| yDe (nS ?_)
  refine ysr <| yp 3 [] .z <| ye <| x_block ?_
  rcases ao38 with _ | ab
  ·have hnl : X48.2.length = an39 := hac66.len
   have hn0 : an39 = 0 := by
    obtain ⟨vss, h1, h2, h3⟩ := hac66.ex
    exact (h1.2.2.2.1 rfl).1
   have hX71 := hI5.cht (Ch.refl (fun j => j = t) w60)
   have hA72 := hI5.pk1 hI5 hX71
   refine ykeep [0, 1, 9, 10, 27, 28, 29] (f' := [(0, pX t), (1, .string s), (9, iX ((s).size : Int)), (10, iX ((k : Nat) : Int)), (27, .slice none an39 ac40), (28, iX ((an39 : Nat) : Int)), (29, iX 0)]) <| x_loop (σ := Nat) (fun j => [(0, pX t), (1, .string s), (9, iX ((s).size : Int)), (10, iX ((k : Nat) : Int)), (27, .slice none an39 ac40), (28, iX ((an39 : Nat) : Int)), (29, iX ((j : Nat) : Int))]) (fun j v => j ≤ an39 ∧ (TermAt v t ((X48.2.take j).foldl actT T68) (more F2 w60 v) ∧ Ch F2 w60 v)) (fun j => an39 - j) 0 rfl ?_ ?_
   ·exact ⟨Nat.zero_le _, (TermAt.eq' hA72 rfl), hX71⟩
   intro j w73 hI74 K75 hL76
   obtain ⟨hj, hN77, hX78⟩ := hI74
   have hL83 : Lim W H ((X48.2.take j).foldl actT T68) := (lim_acts hL67 _)
   generalize hE83 : ((X48.2.take j).foldl actT T68) = T83 at hN77 hL83
   have hM83 := hL83
   have hla83 := hM83.all
   obtain ⟨g83, o83, ba83, bn83, bc83, pa83, pn83, pc83, F183, F283, FB83, FP83, hI82⟩ := hN77
   obtain ⟨gv83, hgd84⟩ := hI82.g1.head
   have htg85 : Df t g83 := fun e => hI82.t1 (e ▸ hI82.g1.inF)
   refine ysr <| yp 1 [] .z <| ye <| ys <| yc (rL ((j : Nat) : Int) ((an39 : Nat) : Int)) (fun hC86 => ?_) fun hC86 => ?_
   ·exfalso; omega
   have hjn : j = an39 := by omega
   have hX87 := Ch.on hX78 (Ch.refl (fun j => j = t) w73) hFt2
   have hA88 := hI82.pk2 (Ch.refl (fun j => j = t) w73) hI5 hX87
   have hN89 := hA88.mono (more_in hF2in (Ch.size hcw2) (Ch.size hX87)) (hI.moreOk (Nat.le_trans (Ch.size hcw2) (Ch.size hX87)))
   have hX90 := ch_in hcw2 hF2in hX87
   have hL92 : Lim W H T83 := hL83
   generalize hE92 : T83 = T92 at hN89 hL92
   have hM92 := hL92
   have hla92 := hM92.all
   obtain ⟨g92, o92, ba92, bn92, bc92, pa92, pn92, pc92, F192, F292, FB92, FP92, hI91⟩ := hN89
   obtain ⟨gv92, hgd93⟩ := hI91.g1.head
   have htg94 : Df t g92 := fun e => hI91.t1 (e ▸ hI91.g1.inF)
   refine x_exit (eS (then_exit (block_exit (nB (nS ?_)))))
   refine x_region <| yp 2 [] (.q6 (((k : Nat) : Int) + 1) .z) ?_
   have hX95 := Ch.on hX90 (Ch.refl (fun j => j = t) w73) hFt
   have hA96 := hI91.pk2 (Ch.refl (fun j => j = t) w73) hI hX95
   refine yE (fun a ha => hL15 (k + 1) _ ⟨(by omega), (TermAt.eq' hA96 (by subst hE92; subst hE83; subst hE68; subst hE21; show feedT _ _ = _; unfold feedT; rw [hX49, hjn, ← hnl, List.take_length])), hX95⟩ (by show s.size - (k + 1) < s.size - k; omega) a (ha.kp [0, 1, 9, 10]))
  have hnl : X48.2.length = an39 := hac66.len
  have hX97 := hI5.cht (Ch.refl (fun j => j = t) w60)
  have hA98 := hI5.pk1 hI5 hX97
  refine ykeep [0, 1, 9, 10, 27, 28, 29] (f' := [(0, pX t), (1, .string s), (9, iX ((s).size : Int)), (10, iX ((k : Nat) : Int)), (27, .slice (some ⟨ab, 0, none⟩) an39 ac40), (28, iX ((an39 : Nat) : Int)), (29, iX 0)]) <| x_loop (σ := Nat) (fun j => [(0, pX t), (1, .string s), (9, iX ((s).size : Int)), (10, iX ((k : Nat) : Int)), (27, .slice (some ⟨ab, 0, none⟩) an39 ac40), (28, iX ((an39 : Nat) : Int)), (29, iX ((j : Nat) : Int))]) (fun j v => j ≤ an39 ∧ (TermAt v t ((X48.2.take j).foldl actT T68) (more F2 w60 v) ∧ Ch F2 w60 v)) (fun j => an39 - j) 0 rfl ?_ ?_
  ·exact ⟨Nat.zero_le _, (TermAt.eq' hA98 rfl), hX97⟩
  intro j w99 hI100 K101 hL102
  obtain ⟨hj, hN103, hX104⟩ := hI100
  have hT106 := lt_ch hX104 hT65 (fun b hb => hI5.hi b hb)
  have hac107 := hac66.ch hX104 (fun b hb h => hKF b hb h)
  have hL109 : Lim W H ((X48.2.take j).foldl actT T68) := (lim_acts hL67 _)
  generalize hE109 : ((X48.2.take j).foldl actT T68) = T109 at hN103 hL109
  have hM109 := hL109
  have hla109 := hM109.all
  obtain ⟨g109, o109, ba109, bn109, bc109, pa109, pn109, pc109, F1109, F2109, FB109, FP109, hI108⟩ := hN103
  obtain ⟨gv109, hgd110⟩ := hI108.g1.head
  have htg111 : Df t g109 := fun e => hI108.t1 (e ▸ hI108.g1.inF)
  refine ysr <| yp 1 [] .z <| ye <| ys <| yc (rL ((j : Nat) : Int) ((an39 : Nat) : Int)) (fun hC112 => ?_) fun hC112 => ?_
  ·obtain ⟨ac, ao, an, cc, hac0, hVa, hk0, hk1, hk2, hk3, hk4, hk5⟩ := hac107.at (j := j) (by omega)
   have hok := hfok.2 ac (List.mem_of_getElem? hac0)
   refine yk <| ys <| x_block <| ysr <| yp 2 [] (.i ((j : Nat) : Int) (an39) (.m hk0 (.m hk1 (.m hk2 (.m hk3 (.m hk4 (.m hk5 (.e .z)))))))) <| yo (yN [iX 0, rX 0, uX 0, .string ByteArray.empty, .slice none 0 0, .string ByteArray.empty] 78 fun w113 b114 hb115 hz116 hB117 hc118 => ?_)
   have hlo119 : w99.heap.size ≤ b114 := by rw [hb115]; exact Ch.size (Ch.refl (fun j => j = t) w99)
   have hS120 := Ch.trans (Ch.refl (fun j => j = t) w99) hc118 eZ
   have hT121 := lt_ch hc118 hT106 (fun _ h => h.elim)
   have ht123 := hI108.blk.ch hc118 id
   have hac125 := hVa.ch hc118 iZ
   refine yo (yS hB117 fun w126 hB127 hc128 => ?_)
   have hS129 := Ch.trans hS120 hc128 (fun i hi (h : i = b114) => by omega)
   have hT130 := lt_ch hc128 hT121 (fun b (h : b = b114) => by have := hI.hi t hFt; have := hI108.blk.lt; omega)
   have ht132 := ht123.ch hc128 (fun (h : t = b114) => by have := hI108.blk.lt; omega)
   have hac134 := hac125.ch hc128 (fun b hb (h : b = b114) => by have := hKlt b hb; have := Ch.size hX104; omega)
   replace hB127 : Blk w126 b114 [iX ac.kind, rX ac.rune, uX ac.last, .string ac.marks, .slice (ao.map at0) an cc, .string ac.text] _ := Blk.to hB127 (by kernel_rfl)
   refine ye <| x_region <| yp 2 [] (.a (hB127.cs 0 6) .z) ?_
   have hI136 := hI108.scalar (T' := T109) hS129 ht132 rfl rfl rfl rfl
   have hX137 := Ch.on hX104 hS129 hFt2
   have hA138 := hI136.pk2 hS129 hI5 hX137
   have hVb135 := hac134.mono (K' := fun b => ¬ more F2 w60 w126 b ∧ b < w126.heap.size) (fun b hb => ⟨fun h => h.elim (hKF b hb) (fun h => by have := hKlt b hb; omega), by have := hKlt b hb; have := Ch.size hX137; omega⟩)
   have hI139 := hI108.scalar (T' := T109) hS129 ht132 rfl rfl rfl rfl
   have hX140 := Ch.on hX104 hS129 hFt2
   have hA141 := hI139.pk2 hS129 hI5 hX140
   refine yo (yQ (act_at hA141 hT130 hL109  hVb135 (by have := hok.n; have := hVb135.2.1; omega) hok.b (by have := hok.t; omega)) ?_)
   rintro w147 ⟨hB142, hc143⟩
   obtain ⟨hN144, hX145⟩ := TermAt.next hA5 hX140 hc143 hB142
   have hL150 : Lim W H (actT T109 ac) := (lim_act hL109 ac)
   generalize hE150 : (actT T109 ac) = T150 at hN144 hL150
   have hM150 := hL150
   have hla150 := hM150.all
   obtain ⟨g150, o150, ba150, bn150, bc150, pa150, pn150, pc150, F1150, F2150, FB150, FP150, hI146⟩ := hN144
   obtain ⟨gv150, hgd151⟩ := hI146.g1.head
   have htg152 : Df t g150 := fun e => hI146.t1 (e ▸ hI146.g1.inF)
   refine yE (nB (nS ?_))
   refine x_region <| yp 2 [] (.q6 (((j : Nat) : Int) + 1) .z) ?_
   have hX153 := Ch.on hX145 (Ch.refl (fun j => j = t) w147) hFt2
   have hA154 := hI146.pk2 (Ch.refl (fun j => j = t) w147) hI5 hX153
   refine yE (fun a ha => hL102 (j + 1) _ ⟨(by omega), (TermAt.eq' hA154 (by subst hE150; subst hE109; exact acts_next hac0 _)), hX153⟩ (by show an39 - (j + 1) < an39 - j; omega) a (ha.kp [0, 1, 9, 10, 27, 28, 29]))
  have hjn : j = an39 := by omega
  have hX155 := Ch.on hX104 (Ch.refl (fun j => j = t) w99) hFt2
  have hA156 := hI108.pk2 (Ch.refl (fun j => j = t) w99) hI5 hX155
  have hN157 := hA156.mono (more_in hF2in (Ch.size hcw2) (Ch.size hX155)) (hI.moreOk (Nat.le_trans (Ch.size hcw2) (Ch.size hX155)))
  have hX158 := ch_in hcw2 hF2in hX155
  have hL160 : Lim W H T109 := hL109
  generalize hE160 : T109 = T160 at hN157 hL160
  have hM160 := hL160
  have hla160 := hM160.all
  obtain ⟨g160, o160, ba160, bn160, bc160, pa160, pn160, pc160, F1160, F2160, FB160, FP160, hI159⟩ := hN157
  obtain ⟨gv160, hgd161⟩ := hI159.g1.head
  have htg162 : Df t g160 := fun e => hI159.t1 (e ▸ hI159.g1.inF)
  refine x_exit (eS (then_exit (block_exit (nB (nS ?_)))))
  refine x_region <| yp 2 [] (.q6 (((k : Nat) : Int) + 1) .z) ?_
  have hX163 := Ch.on hX158 (Ch.refl (fun j => j = t) w99) hFt
  have hA164 := hI159.pk2 (Ch.refl (fun j => j = t) w99) hI hX163
  refine yE (fun a ha => hL15 (k + 1) _ ⟨(by omega), (TermAt.eq' hA164 (by subst hE160; subst hE109; subst hE68; subst hE21; show feedT _ _ = _; unfold feedT; rw [hX49, hjn, ← hnl, List.take_length])), hX163⟩ (by show s.size - (k + 1) < s.size - k; omega) a (ha.kp [0, 1, 9, 10]))
 have hkn : k = s.size := by omega
 refine x_exit (eS (then_exit (block_exit (yR0' ?_))))
 have hX165 := Ch.on hX17 (Ch.refl (fun j => j = t) w12) hFt
 have hA166 := hI20.pk2 (Ch.refl (fun j => j = t) w12) hI hX165
 subst hE21
 subst hkn
 exact ⟨rfl, hA166, hX165⟩
end Go.Proofs.YteoejhjfbfacdaaGreatDoor.X

namespace Go.Proofs.YteoejhjfbfacdaaGreatDoor.X
open Go Go.RowKit Go.Proofs.YteoejhjfbfacdaaGreatDoor
def Fine (T : TS) : Prop := (∃ W H, Lim W H T) ∧ T.parser.lim
theorem fine_start (p1 p2 : Int) : Fine (startT zeroT p1 p2) := ⟨⟨_, _, lim_start zeroT p1 p2 (by decide)⟩, plim_at 0⟩
theorem fine_write {T : TS} (h : Fine T) (s : ByteArray) : Fine (writeT T s) := by
 obtain ⟨⟨W, H, h⟩, hp⟩ := h
 exact ⟨⟨W, H, lim_write h s _⟩, plim_write hp s _⟩
theorem fine_take {T : TS} (h : Fine T) : Fine ({ T with reply := ByteArray.empty } : TS) := by
 obtain ⟨⟨W, H, h⟩, hp⟩ := h
 exact ⟨⟨W, H, { h with rp := Nat.zero_le _ }⟩, hp⟩
structure Sys (w0 w : World) (bs : List (Nat × List Value × TypeId)) (ts : List (Nat × TS)) : Prop where
 ch : Ch (fun _ => False) w0 w
 lt : LT w
 top : gTop ≤ w0.heap.size
 blk : ∀ (i : Nat) x, bs[i]? = some x → Blk w x.1 x.2.1 x.2.2
 lo : ∀ (i : Nat) x, bs[i]? = some x → w0.heap.size ≤ x.1
 df : ∀ (i j : Nat) x y, bs[i]? = some x → bs[j]? = some y → i ≠ j → x.1 ≠ y.1
 tm : ∃ F : Nat → Nat → Prop, (∀ (i : Nat) x, ts[i]? = some x → TermAt w x.1 x.2 (F i) ∧ Fine x.2) ∧ (∀ i j, i ≠ j → ∀ b, F i b → ¬ F j b) ∧ (∀ i b, F i b → w0.heap.size ≤ b ∧ b < w.heap.size) ∧ ∀ (i j : Nat) x, bs[i]? = some x → ¬ F j x.1
section
variable {w0 w w' : World} {bs : List (Nat × List Value × TypeId)} {ts : List (Nat × TS)}
theorem Sys.start (h : LT w) (h7 : gTop ≤ w.heap.size) : Sys w w [] [] := ⟨Ch.refl _ _, h, h7, fun i x e => by simp at e, fun i x e => by simp at e, fun i j x y e => by simp at e, fun _ _ => False, fun i x e => by simp at e, fun _ _ _ _ h => h.elim, fun _ _ h => h.elim, fun _ _ _ _ h => h.elim⟩
theorem Sys.same (h : Sys w0 w bs ts) (hc : Ch (fun _ => False) w w') : Sys w0 w' bs ts := by
 obtain ⟨F, h1, h2, h3, h4⟩ := h.tm
 exact ⟨h.ch.trans hc (fun _ _ h => h), lt_ch hc h.lt (fun _ h => h.elim), h.top, fun i x e => (h.blk i x e).ch hc (fun h => h), h.lo, h.df, F, fun i x e => ⟨(h1 i x e).1.ch hc (fun _ _ h => h), (h1 i x e).2⟩, h2, fun i b hb => ⟨(h3 i b hb).1, Nat.lt_of_lt_of_le (h3 i b hb).2 hc.size⟩, h4⟩
theorem Sys.box (h : Sys w0 w bs ts) (hc : Ch (fun _ => False) w w') {b : Nat} {vs : List Value} {ty : TypeId} (hb : Blk w' b vs ty) (hz : w.heap.size ≤ b) : Sys w0 w' (bs ++ [(b, vs, ty)]) ts := by
 have h' := h.same hc
 obtain ⟨F, h1, h2, h3, h4⟩ := h.tm
 obtain ⟨F', g1, g2, g3, g4⟩ := h'.tm
 have one : ∀ i x, (bs ++ [(b, vs, ty)])[i]? = some x → bs[i]? = some x ∨ (i = bs.length ∧ x = (b, vs, ty)) := fun i x e => by
  rcases Nat.lt_or_ge i bs.length with hi | hi
  ·rw [List.getElem?_append_left hi] at e; exact .inl e
  ·rw [List.getElem?_append_right hi] at e
   rcases Nat.eq_zero_or_pos (i - bs.length) with h0 | h0
   ·rw [h0] at e; exact .inr ⟨by omega, (Option.some.inj e).symm⟩
   ·rw [List.getElem?_eq_none (by simp only [List.length_cons, List.length_nil]; omega)] at e; cases e
 refine ⟨h'.ch, h'.lt, h'.top, fun i x e => ?_, fun i x e => ?_, fun i j x y e e' hne => ?_, F, fun i x e => ⟨(h1 i x e).1.ch hc (fun _ _ h => h), (h1 i x e).2⟩, h2, fun i b hb => ⟨(h3 i b hb).1, Nat.lt_of_lt_of_le (h3 i b hb).2 hc.size⟩, fun i j x e => ?_⟩
 ·rcases one i x e with e | ⟨_, rfl⟩
  ·exact h'.blk i x e
  ·exact hb
 ·rcases one i x e with e | ⟨_, rfl⟩
  ·exact h.lo i x e
  ·have := h.ch.size; dsimp only; omega
 ·rcases one i x e with e1 | ⟨h1, rfl⟩
  ·rcases one j y e' with e2 | ⟨h2, rfl⟩
   ·exact h.df i j x y e1 e2 hne
   ·have := (h.blk i x e1).lt; dsimp only; omega
  ·rcases one j y e' with e2 | ⟨h2, rfl⟩
   ·have := (h.blk j y e2).lt; dsimp only; omega
   ·omega
 ·rcases one i x e with e | ⟨_, rfl⟩
  ·exact h4 i j x e
  ·exact fun hf => by have := (h3 j b hf).2; omega
theorem Sys.set (h : Sys w0 w bs ts) (i : Nat) {b : Nat} {vs vs' : List Value} {ty : TypeId} (hi : bs[i]? = some (b, vs, ty)) (hc : Ch (fun j => j = b) w w') (hb : Blk w' b vs' ty) : Sys w0 w' (bs.set i (b, vs', ty)) ts := by
 obtain ⟨F, h1, h2, h3, h4⟩ := h.tm
 have hlo := h.lo i _ hi
 have hlen : i < bs.length := (List.getElem?_eq_some_iff.1 hi).1
 have key : ∀ j x, (bs.set i (b, vs', ty))[j]? = some x → (j = i ∧ x = (b, vs', ty)) ∨ (j ≠ i ∧ bs[j]? = some x) := fun j x e => by
  by_cases hj : j = i
  ·subst hj; rw [List.getElem?_set_self hlen] at e; exact .inl ⟨rfl, (Option.some.inj e).symm⟩
  ·rw [List.getElem?_set_ne (fun h => hj h.symm)] at e; exact .inr ⟨hj, e⟩
 have nF : ∀ j, ¬ F j b := fun j => h4 i j _ hi
 refine ⟨h.ch.trans hc (fun k hk e => by dsimp only at hlo; omega), lt_ch hc h.lt (fun k e => by have := h.top; dsimp only at hlo; omega), h.top, fun j x e => ?_, fun j x e => ?_, fun j k x y e e' hne => ?_, F, fun j x e => ⟨(h1 j x e).1.ch hc (fun k hk e' => nF j (e' ▸ hk)), (h1 j x e).2⟩, h2, fun j k hk => ⟨(h3 j k hk).1, Nat.lt_of_lt_of_le (h3 j k hk).2 hc.size⟩, fun j k x e => ?_⟩
 ·rcases key j x e with ⟨_, rfl⟩ | ⟨hj, e⟩
  ·exact hb
  ·exact (h.blk j x e).ch hc (h.df j i x _ e hi hj)
 ·rcases key j x e with ⟨_, rfl⟩ | ⟨hj, e⟩
  ·exact hlo
  ·exact h.lo j x e
 ·rcases key j x e with ⟨h5, rfl⟩ | ⟨hj, e⟩
  ·rcases key k y e' with ⟨h6, rfl⟩ | ⟨hk, e'⟩
   ·omega
   ·exact h.df i k (b, vs, ty) y hi e' (by omega)
  ·rcases key k y e' with ⟨h6, rfl⟩ | ⟨hk, e'⟩
   ·exact h.df j i x (b, vs, ty) e hi hj
   ·exact h.df j k x y e e' hne
 ·rcases key j x e with ⟨_, rfl⟩ | ⟨hj, e⟩
  ·exact nF k
  ·exact h4 j k x e
theorem Sys.pre {bs' : List (Nat × List Value × TypeId)} (h : Sys w0 w (bs ++ bs') ts) : Sys w0 w bs ts := by
 obtain ⟨F, h1, h2, h3, h4⟩ := h.tm
 have key : ∀ (i : Nat) x, bs[i]? = some x → (bs ++ bs')[i]? = some x := fun i x e => by rw [List.getElem?_append_left (List.getElem?_eq_some_iff.1 e).1]; exact e
 exact ⟨h.ch, h.lt, h.top, fun i x e => h.blk i x (key i x e), fun i x e => h.lo i x (key i x e), fun i j x y e e' => h.df i j x y (key i x e) (key j y e'), F, h1, h2, h3, fun i j x e => h4 i j x (key i x e)⟩
theorem Sys.new (h : Sys w0 w bs ts) (p1 p2 : Int) : Calls Tryz.prog 7 [.int .i64 p1, .int .i64 p2].toArray w fun e w' => ∃ t, e = .returned (.pointer (some ⟨t, 0, none⟩)) ∧ Sys w0 w' bs (ts ++ [(t, startT zeroT p1 p2)]) ∧ Ch (fun _ => False) w w' := by
 refine (tnew_any p1 p2 w h.lt (Nat.le_trans h.top h.ch.size)).mono fun e w' ⟨t, he, hA, hc⟩ => ⟨t, he, ?_, hc⟩
 obtain ⟨F, h1, h2, h3, h4⟩ := h.tm
 have h' := h.same hc
 have hz := hc.size
 have hz0 := h.ch.size
 have ht : TermAt w' t (startT zeroT p1 p2) (fun b => w.heap.size ≤ b ∧ b < w'.heap.size) := hA
 refine ⟨h'.ch, h'.lt, h'.top, h'.blk, h'.lo, h'.df, fun i b => if i = ts.length then w.heap.size ≤ b ∧ b < w'.heap.size else i < ts.length ∧ F i b, fun i x e => ?_, fun i j hij b hb hb' => ?_, fun i b hb => ?_, fun i j x e hb => ?_⟩
 ·rcases Nat.lt_or_ge i ts.length with hi | hi
  ·rw [List.getElem?_append_left hi] at e
   refine ⟨?_, (h1 i x e).2⟩
   have e2 : (fun b => if i = ts.length then w.heap.size ≤ b ∧ b < w'.heap.size else i < ts.length ∧ F i b) = F i := by
    funext b; rw [if_neg (by omega)]; exact propext ⟨fun h => h.2, fun h => ⟨hi, h⟩⟩
   show TermAt w' x.1 x.2 (fun b => if i = ts.length then w.heap.size ≤ b ∧ b < w'.heap.size else i < ts.length ∧ F i b)
   rw [e2]
   exact (h1 i x e).1.ch hc (fun _ _ h => h)
  ·rw [List.getElem?_append_right hi] at e
   rcases Nat.eq_zero_or_pos (i - ts.length) with h0 | h0
   ·rw [h0] at e
    obtain rfl := (Option.some.inj e).symm
    obtain rfl : i = ts.length := by omega
    simp only [if_true]
    exact ⟨ht, fine_start p1 p2⟩
   ·rw [List.getElem?_eq_none (by simp only [List.length_cons, List.length_nil]; omega)] at e; cases e
 ·dsimp only at hb hb'
  split at hb
  ·split at hb'
   ·omega
   ·have := (h3 j b hb'.2).2; omega
  ·split at hb'
   ·have := (h3 i b hb.2).2; omega
   ·exact h2 i j hij b hb.2 hb'.2
 ·dsimp only at hb
  split at hb
  ·omega
  ·have := h3 i b hb.2; omega
 ·dsimp only at hb
  split at hb
  ·have := (h.blk i x e).lt; omega
  ·exact h4 i j x e hb.2
theorem Sys.step (h : Sys w0 w bs ts) {i t : Nat} {T T' : TS} (hi : ts[i]? = some (t, T)) {k : FuncId} {args : Array Value} {v : Value}
  (hk : ∀ F, TermAt w t T F → LT w → Fine T → Calls Tryz.prog k args w fun e w' => e = .returned v ∧ TermAt w' t T' (more F w w') ∧ Ch F w w') (hf : Fine T → Fine T') :
  Calls Tryz.prog k args w fun e w' => e = .returned v ∧ Sys w0 w' bs (ts.set i (t, T')) := by
 obtain ⟨F, h1, h2, h3, h4⟩ := h.tm
 have hlen : i < ts.length := (List.getElem?_eq_some_iff.1 hi).1
 refine (hk (F i) (h1 i _ hi).1 h.lt (h1 i _ hi).2).mono fun e w' ⟨he, hA, hc⟩ => ⟨he, ?_⟩
 have hz := hc.size
 refine ⟨Ch.trans h.ch hc (fun b hb hb' => ?_), lt_ch hc h.lt (fun b hb => by have := h3 i b hb; have := h.top; omega), h.top, fun j x e => (h.blk j x e).ch hc (h4 j i x e), h.lo, h.df, fun j b => if j = i then more (F i) w w' b else F j b, fun j x e => ?_, fun j k hjk b hb hb' => ?_, fun j b hb => ?_, fun j k x e hb => ?_⟩
 ·have := (h3 i b hb').1; omega
 ·by_cases hj : j = i
  ·subst hj
   rw [List.getElem?_set_self hlen] at e
   obtain rfl := (Option.some.inj e).symm
   simp only [if_true]
   exact ⟨hA, hf (h1 j _ hi).2⟩
  ·rw [List.getElem?_set_ne (fun h => hj h.symm)] at e
   simp only [if_neg hj]
   exact ⟨(h1 j x e).1.ch hc (fun b hb => h2 j i hj b hb), (h1 j x e).2⟩
 ·dsimp only at hb hb'
  split at hb
  ·rename_i hji
   subst hji
   rw [if_neg (fun h => hjk h.symm)] at hb'
   rcases hb with hb | hb
   ·exact h2 j k hjk b hb hb'
   ·have := (h3 k b hb').2; omega
  ·split at hb'
   ·rename_i hji hki
    subst hki
    rcases hb' with hb' | hb'
    ·exact h2 j k hjk b hb hb'
    ·have := (h3 j b hb).2; omega
   ·exact h2 j k hjk b hb hb'
 ·dsimp only at hb
  have hz0 := h.ch.size
  split at hb
  ·rcases hb with hb | hb
   ·have := h3 i b hb; omega
   ·omega
  ·have := h3 j b hb; omega
 ·dsimp only at hb
  split at hb
  ·rcases hb with hb | hb
   ·exact h4 j i x e hb
   ·have := (h.blk j x e).lt; omega
  ·exact h4 j k x e hb
theorem Sys.write (h : Sys w0 w bs ts) {i t : Nat} {T : TS} (hi : ts[i]? = some (t, T)) (s : ByteArray) (hs : s.size ≤ 1000000) : Calls Tryz.prog 9 [.pointer (some ⟨t, 0, none⟩), .string s].toArray w fun e w' => e = .returned (.tuple #[]) ∧ Sys w0 w' bs (ts.set i (t, writeT T s)) :=
 h.step hi (fun F hA hl hf => by obtain ⟨⟨W, H, hL⟩, hp⟩ := hf; exact write_at hA hl hL hp s hs) (fun hf => fine_write hf s)
theorem Sys.take (h : Sys w0 w bs ts) {i t : Nat} {T : TS} (hi : ts[i]? = some (t, T)) : Calls Tryz.prog 15 [.pointer (some ⟨t, 0, none⟩)].toArray w fun e w' => e = .returned (.string T.reply) ∧ Sys w0 w' bs (ts.set i (t, { T with reply := ByteArray.empty })) :=
 h.step hi (fun F hA _ _ => take_at hA) fine_take
theorem Sys.at (h : Sys w0 w bs ts) {i t : Nat} {T : TS} (hi : ts[i]? = some (t, T)) : ∃ F, TermAt w t T F := by
 obtain ⟨F, h1, _⟩ := h.tm
 exact ⟨_, (h1 i _ hi).1⟩
theorem Sys.fine (h : Sys w0 w bs ts) {i t : Nat} {T : TS} (hi : ts[i]? = some (t, T)) : Fine T := by
 obtain ⟨F, h1, _⟩ := h.tm
 exact (h1 i _ hi).2
theorem Sys.cell (h : Sys w0 w bs ts) {i t : Nat} {T : TS} (hi : ts[i]? = some (t, T)) (c : Nat) {v : Value} (hv : ∀ g o bk ps, (T.vals g o bk ps)[c]? = some v) : w.cell? ⟨t, c, none⟩ = some v := by
 obtain ⟨F, g, o, ba, bn, bc, pa, pn, pc, F1, F2, FB, FP, hI⟩ := h.at hi
 exact (hI.blk.cell c).trans (hv _ _ _ _)
theorem Sys.grid (h : Sys w0 w bs ts) {i t : Nat} {T : TS} (hi : ts[i]? = some (t, T)) : ∃ g F, w.cell? ⟨t, 0, none⟩ = some (.pointer (some ⟨g, 0, none⟩)) ∧ GridAt w g T.grid F := by
 obtain ⟨F, g, o, ba, bn, bc, pa, pn, pc, F1, F2, FB, FP, hI⟩ := h.at hi
 exact ⟨g, F1, (hI.blk.cell 0).trans rfl, hI.g1⟩
theorem Sys.other (h : Sys w0 w bs ts) {i t : Nat} {T : TS} (hi : ts[i]? = some (t, T)) : ∃ g F, w.cell? ⟨t, 1, none⟩ = some (.pointer (some ⟨g, 0, none⟩)) ∧ GridAt w g T.other F := by
 obtain ⟨F, g, o, ba, bn, bc, pa, pn, pc, F1, F2, FB, FP, hI⟩ := h.at hi
 exact ⟨o, F2, (hI.blk.cell 1).trans rfl, hI.g2⟩
theorem Sys.outs (h : Sys w0 w bs ts) {i t : Nat} {T : TS} (hi : ts[i]? = some (t, T)) : ∃ ba bn bc rows FB, w.cell? ⟨t, 97, none⟩ = some (.slice ba bn bc) ∧ bn = T.back.length ∧ LinesAt w ba bn rows FB ∧ rows.map Row.l = T.back ∧ (ba = none ∨ ∃ b off, ba = some ⟨b, off, none⟩) := by
 obtain ⟨F, g, o, ba, bn, bc, pa, pn, pc, F1, F2, FB, FP, hI⟩ := h.at hi
 obtain ⟨rows, hL, hm⟩ := hI.bk
 exact ⟨ba, bn, bc, rows, FB, (hI.blk.cell 97).trans (by kernel_rfl), by rw [← hm, List.length_map, hL.len], hL, hm, hI.bz⟩
theorem Fine.back {T : TS} (h : Fine T) : T.back.length ≤ 1000 := by obtain ⟨⟨W, H, h⟩, _⟩ := h; exact Nat.le_trans h.bk (by decide)
theorem Fine.params {T : TS} (h : Fine T) : T.parser.params.length ≤ 1000 := Nat.le_trans h.2.n (by decide)
end
end Go.Proofs.YteoejhjfbfacdaaGreatDoor.X
namespace Go.Proofs.YteoejhjfbfacdaaGreatDoor.X
open Go Go.RowKit Go.Proofs.YteoejhjfbfacdaaGreatDoor
def fitT : TS := writeT (startT zeroT 3 2) (⟨#[27, 91, 50, 59, 51, 72, 120]⟩ : ByteArray)
theorem fit_facts : (atG fitT.grid 2 1).rune = 120 ∧ fitT.cursor.late = true ∧ fitT.grid.w = 3 ∧ fitT.grid.h = 2 ∧ fitT.other.h = 2 := by decide +kernel
set_option maxHeartbeats 4000000 in
theorem lawfit_any (w : World) (hT : LT w) (h7 : gTop ≤ w.heap.size) : Calls Tryz.prog 6 [].toArray w fun e w' => e = .returned (.bool true) ∧ Ch (fun _ => False) w w' := by
 have hS := Sys.start hT h7
 refine yA Tryz.func6 rfl <| ysr <| yp 1 [] .z <| ye <| ysr <| yo (yC (hS.new (3) (2)) ?_)
 rintro _ w13 ⟨t10, rfl, hS11, hc12⟩
 refine ⟨_, rfl, ?_⟩
 replace hS11 : Sys w w13 [] [(t10, (startT zeroT (3) (2)))] := hS11
 refine yp 2 [] .z <| ye <| ys <| ysr ?_
 obtain ⟨g14, F15, hg16, hG17⟩ := hS11.grid (i := 0) rfl
 obtain ⟨r18, rc19, rows20, hI21⟩ := hG17
 have hlenhI21 := hI21.len
 obtain ⟨g22, F23, hg24, hG25⟩ := hS11.other (i := 0) rfl
 obtain ⟨r26, rc27, rows28, hI29⟩ := hG25
 have hlenhI29 := hI29.len
 refine yp 16 [] (.l hg16 (.l hg24 .z)) <| ye <| ycf <| yk <| ysr <| yp 1 [] .z <| yo (yQ (hS11.write (i := 0) rfl (⟨#[27, 91, 50, 59, 51, 72, 120]⟩ : ByteArray) (by first | decide | omega)) fun w31 hS30 => ?_)
 replace hS30 : Sys w w31 [] [(t10, fitT)] := hS30
 refine ye <| ysr ?_
 obtain ⟨g32, F33, hg34, hG35⟩ := hS30.grid (i := 0) rfl
 obtain ⟨r36, rc37, rows38, hI39⟩ := hG35
 have hlenhI39 := hI39.len
 refine yp 4 [] (.l hg34 .z) <| yo (yQ (at_any _ _ _ (2) (1) _ hS30.lt.tb ⟨_, _, _, hI39⟩) fun w41 hc40 => ?_)
 have hS42 := hS30.same hc40
 have hg43 := cell_ch hc40 hg34 id
 have hI44 := hI39.ch hc40 iZ
 refine yp 8 [] .z <| yw [28] (rE (atG fitT.grid (2) (1)).rune 120) (fun hC45 => ?_) fun hC45 => ?_
 ·refine yp 15 [] (.l (v := .bool fitT.cursor.late) (hS42.cell (i := 0) (t := t10) (T := fitT) rfl 4 (fun _ _ _ _ => by kernel_rfl)) .z) <| yw [35] (rY fitT.cursor.late) (fun hC46 => ?_) fun hC46 => ?_
  ·refine yp 25 [] (.l hg43 (.l (hI44.head.c 0) .z)) <| yw [45] (rE fitT.grid.w 3) (fun hC47 => ?_) fun hC47 => ?_
   ·refine yp 36 [] (.l hg43 (.l (hI44.head.c 2) .z)) <| yw [56] (rE ((rows38.length : Nat) : Int) 2) (fun hC48 => ?_) fun hC48 => ?_
    ·obtain ⟨g49, F50, hg51, hG52⟩ := hS42.other (i := 0) rfl
     obtain ⟨r53, rc54, rows55, hI56⟩ := hG52
     have hlenhI56 := hI56.len
     refine yp 47 [] (.l hg51 (.l (hI56.head.c 2) .z)) <| ye <| x_ret (yR1 (.bool ((((rows55.length : Nat) : Int) : Int) == 2)) ?_)
     refine ⟨congrArg Ending.returned (congrArg Value.bool ?_), hS42.ch⟩
     obtain ⟨f1, f2, f3, f4, f5⟩ := fit_facts
     rw [beq_iff_eq]; omega
    exfalso; obtain ⟨f1, f2, f3, f4, f5⟩ := fit_facts; first | omega | (rw [f2] at hC48; cases hC48)
   exfalso; obtain ⟨f1, f2, f3, f4, f5⟩ := fit_facts; first | omega | (rw [f2] at hC47; cases hC47)
  exfalso; obtain ⟨f1, f2, f3, f4, f5⟩ := fit_facts; first | omega | (rw [f2] at hC46; cases hC46)
 exfalso; obtain ⟨f1, f2, f3, f4, f5⟩ := fit_facts; first | omega | (rw [f2] at hC45; cases hC45)
end Go.Proofs.YteoejhjfbfacdaaGreatDoor.X

namespace Go.Proofs.YteoejhjfbfacdaaGreatDoor.X
open Go Go.RowKit Go.Proofs.YteoejhjfbfacdaaGreatDoor
def PS.gr (p : PS) : Prop := p.state = 0 → p = { atP 0 with utf := p.utf }
end Go.Proofs.YteoejhjfbfacdaaGreatDoor.X

namespace Go.Proofs.YteoejhjfbfacdaaGreatDoor.X
open Go Go.RowKit Go.Proofs.YteoejhjfbfacdaaGreatDoor
structure Kp (T U : TS) : Prop where
 alt : U.alt = true
 other : U.other = T.other
 away : U.away = T.away
 saved : U.saved = T.saved
 top : U.top = T.top
 bot : U.bot = T.bot
 title : U.title = T.title
 back : U.back = T.back
theorem Kp.refl {T : TS} (h : T.alt = true) : Kp T T := ⟨h, rfl, rfl, rfl, rfl, rfl, rfl, rfl⟩
theorem Kp.trans {T U V : TS} (h : Kp T U) (k : Kp U V) : Kp T V := ⟨k.alt, k.other.trans h.other, k.away.trans h.away, k.saved.trans h.saved, k.top.trans h.top, k.bot.trans h.bot, k.title.trans h.title, k.back.trans h.back⟩
theorem GridIn.asLines {w : World} {g r cap : Nat} {rows : List Row} {G : Gr} {F : Nat → Prop} (h : GridIn w g r cap rows G F) : LinesAt w (some ⟨r, 0, none⟩) rows.length rows F :=
 ⟨h.body.rd, rfl, h.line, h.inF.2.2, (fun ad e => by obtain rfl := Option.some.inj e; exact h.inF.2.1), h.lt, h.hi⟩
end Go.Proofs.YteoejhjfbfacdaaGreatDoor.X
namespace Go.Proofs.YteoejhjfbfacdaaGreatDoor.X
open Go Go.RowKit Go.Proofs.YteoejhjfbfacdaaGreatDoor
section
variable {w w' : World} {t g o : Nat} {ba : Option Addr} {bn bc : Nat} {pa : Option Addr} {pn pc : Nat} {T : TS} {F F1 F2 FB FP : Nat → Prop}
theorem TermIn.grid2 (h : TermIn w t g o ba bn bc pa pn pc T F F1 F2 FB FP) (hc : Ch F2 w w') {G' : Gr} {F2' : Nat → Prop} (hG : GridAt w' o G' F2') (hF : ∀ b, F2' b → more F2 w w' b) :
  TermIn w' t g o ba bn bc pa pn pc ({ T with other := G' } : TS) (more F w w') F1 F2' FB FP := by
 have hlt1 : ∀ b, F1 b → b < w.heap.size := h.g1.lt
 have hltF : ∀ b, F b → b < w.heap.size := h.lt
 have htl := h.blk.lt
 obtain ⟨rows, hL, hl⟩ := h.bk
 have ap : ∀ (X : Nat → Prop), (∀ b, X b → F b) → (∀ b, F2 b → ¬ X b) → ∀ b, F2' b → ¬ X b := fun X hX ha b hb hx => by
  rcases hF b hb with h1 | h1
  ·exact ha b h1 hx
  ·have := hltF b (hX b hx); omega
 exact
 {blk := h.blk.ch hc h.t2
  g1 := h.g1.ch hc fun b h1 h2 => h.a12 b h1 h2
  g2 := hG
  bk := ⟨rows, hL.ch hc fun b hb h1 => h.a2B b h1 hb, hl⟩
  bcap := h.bcap
  ps := ⟨h.ps.1.ch hc fun ad e h1 => h.a2P _ h1 (h.ps.2.2.2 ad e), h.ps.2⟩
  pz := h.pz
  bz := h.bz
  t1 := h.t1
  t2 := fun hb => by
   rcases hF t hb with h1 | h1
   ·exact h.t2 h1
   ·omega
  tB := h.tB, tP := h.tP
  a12 := fun b h1 h2 => ap F1 h.inF.2.1 (fun b h2 h1 => h.a12 b h1 h2) b h2 h1
  a1B := h.a1B
  a2B := ap FB h.inF.2.2.2.1 h.a2B
  a1P := h.a1P
  a2P := ap FP h.inF.2.2.2.2 h.a2P
  inF := ⟨.inl h.inF.1, fun b hb => .inl (h.inF.2.1 b hb), fun b hb => (hF b hb).elim (fun h1 => .inl (h.inF.2.2.1 b h1)) .inr, fun b hb => .inl (h.inF.2.2.2.1 b hb), fun b hb => .inl (h.inF.2.2.2.2 b hb)⟩
  lt := fun b hb => hb.elim (fun hb => Nat.lt_of_lt_of_le (hltF b hb) hc.size) fun hb => hb.2
  hi := fun b hb => hb.elim (h.hi b) fun hb => by have := h.hi t h.inF.1; omega }
theorem TermIn.chF2 (h : TermIn w t g o ba bn bc pa pn pc T F F1 F2 FB FP) (hc : Ch F2 w w') : Ch F w w' := hc.mono fun b _ hb => h.inF.2.2.1 b hb
end
def hgtI (p : Int) : Int := min (max p 1) 60
def upI (T : TS) (p2 : Int) : Int := max (T.cursor.y - hgtI p2 + 1) 0
def fixC (c : Cur) (w h : Int) : Cur := ⟨min c.x (w - 1), min c.y (h - 1), c.late && ((c.x : Int) == w - 1), c.sty⟩
def rs1 (T : TS) (p1 p2 : Int) : TS :=
 if T.alt = true then { T with grid := resizeG T.grid p1 (hgtI p2) (upI T p2) }
 else { T with grid := resizeG T.grid p1 (hgtI p2) (upI T p2), back := keepB T.back (T.grid.lines.take (topI T.grid (upI T p2)).toNat) }
def rs2 (T : TS) (p1 p2 : Int) : TS := { rs1 T p1 p2 with other := resizeG (rs1 T p1 p2).other p1 (hgtI p2) 0 }
def resizeT (T : TS) (p1 p2 : Int) : TS :=
 {rs2 T p1 p2 with
  top := 0, bot := (rs2 T p1 p2).grid.h
  cursor := fixC ⟨(rs2 T p1 p2).cursor.x, (rs2 T p1 p2).cursor.y - upI T p2, (rs2 T p1 p2).cursor.late, (rs2 T p1 p2).cursor.sty⟩ (rs2 T p1 p2).grid.w (rs2 T p1 p2).grid.h
  saved := fixC (rs2 T p1 p2).saved (rs2 T p1 p2).grid.w (rs2 T p1 p2).grid.h
  away := fixC (rs2 T p1 p2).away (rs2 T p1 p2).grid.w (rs2 T p1 p2).grid.h }
theorem rs1_f (T : TS) (p1 p2 : Int) : (rs1 T p1 p2).cursor = T.cursor ∧ (rs1 T p1 p2).saved = T.saved ∧ (rs1 T p1 p2).away = T.away ∧ (rs1 T p1 p2).other = T.other ∧ (rs1 T p1 p2).reply = T.reply ∧ (rs1 T p1 p2).parser = T.parser ∧ (rs1 T p1 p2).alt = T.alt ∧
  (rs1 T p1 p2).grid.w = sideI p1 ∧ (rs1 T p1 p2).grid.h = sideI (hgtI p2) := by
 unfold rs1
 split <;> exact ⟨rfl, rfl, rfl, rfl, rfl, rfl, rfl, rfl, rfl⟩
theorem hgtI_bd (p : Int) : 1 ≤ hgtI p ∧ hgtI p ≤ 60 ∧ sideI (hgtI p) = hgtI p ∧ sideI p = hgtI p := by unfold hgtI sideI; omega
theorem rs2_f (T : TS) (p1 p2 : Int) : (rs2 T p1 p2).cursor = T.cursor ∧ (rs2 T p1 p2).saved = T.saved ∧ (rs2 T p1 p2).away = T.away ∧ (rs2 T p1 p2).grid.w = sideI p1 ∧ (rs2 T p1 p2).grid.h = hgtI p2 ∧ (rs2 T p1 p2).reply = T.reply ∧ (rs2 T p1 p2).parser = T.parser := by
 obtain ⟨h1, h2, h3, h4, h5, h6, h7, h8, h9⟩ := rs1_f T p1 p2
 have hb := hgtI_bd p2
 exact ⟨h1, h2, h3, h8, by show (rs1 T p1 p2).grid.h = _; omega, h5, h6⟩
theorem rs1_back {W H : Int} {T : TS} (h : Lim W H T) (p1 p2 : Int) : (rs1 T p1 p2).back.length ≤ 20 := by
 unfold rs1
 split
 ·exact h.bk
 ·exact keepB_len _ _
theorem lim_resize {W H : Int} {T : TS} (h : Lim W H T) (p1 p2 : Int) : Lim (sideI p1) (sideI p2) (resizeT T p1 p2) := by
 obtain ⟨e1, e2, e3, e4, e5, e6, e7⟩ := rs2_f T p1 p2
 have hb := hgtI_bd p2
 have hs1 : 1 ≤ sideI p1 ∧ sideI p1 ≤ 60 := by unfold sideI; omega
 obtain ⟨⟨c1, c2⟩, c3, c4⟩ := h.cu
 obtain ⟨⟨s1, s2⟩, s3, s4⟩ := h.sa
 obtain ⟨⟨a1, a2⟩, a3, a4⟩ := h.aw
 refine ⟨hs1, by omega, ⟨e4, by show (rs2 T p1 p2).grid.h = _; omega⟩, ⟨rfl, by show sideI (hgtI p2) = _; omega⟩, ?_, ?_, ?_, ?_, rs1_back h p1 p2, by show (rs2 T p1 p2).reply.size ≤ 400; rw [e6]; exact h.rp⟩
 ·show (0 ≤ min (rs2 T p1 p2).cursor.x ((rs2 T p1 p2).grid.w - 1) ∧ min (rs2 T p1 p2).cursor.x ((rs2 T p1 p2).grid.w - 1) < _) ∧ 0 ≤ min ((rs2 T p1 p2).cursor.y - upI T p2) ((rs2 T p1 p2).grid.h - 1) ∧ min ((rs2 T p1 p2).cursor.y - upI T p2) ((rs2 T p1 p2).grid.h - 1) < _
  rw [e1, e4, e5]; unfold upI; omega
 ·show (0 ≤ min (rs2 T p1 p2).saved.x ((rs2 T p1 p2).grid.w - 1) ∧ min (rs2 T p1 p2).saved.x ((rs2 T p1 p2).grid.w - 1) < _) ∧ 0 ≤ min (rs2 T p1 p2).saved.y ((rs2 T p1 p2).grid.h - 1) ∧ min (rs2 T p1 p2).saved.y ((rs2 T p1 p2).grid.h - 1) < _
  rw [e2, e4, e5]; omega
 ·show (0 ≤ min (rs2 T p1 p2).away.x ((rs2 T p1 p2).grid.w - 1) ∧ min (rs2 T p1 p2).away.x ((rs2 T p1 p2).grid.w - 1) < _) ∧ 0 ≤ min (rs2 T p1 p2).away.y ((rs2 T p1 p2).grid.h - 1) ∧ min (rs2 T p1 p2).away.y ((rs2 T p1 p2).grid.h - 1) < _
  rw [e3, e4, e5]; omega
 ·show 0 ≤ (0 : Int) ∧ (0 : Int) < (rs2 T p1 p2).grid.h ∧ (rs2 T p1 p2).grid.h ≤ _
  rw [e5]; omega
theorem resize_parser (T : TS) (p1 p2 : Int) : (resizeT T p1 p2).parser = T.parser := (rs2_f T p1 p2).2.2.2.2.2.2
end Go.Proofs.YteoejhjfbfacdaaGreatDoor.X
namespace Go.Proofs.YteoejhjfbfacdaaGreatDoor.X
open Go Go.RowKit Go.Proofs.YteoejhjfbfacdaaGreatDoor
set_option maxHeartbeats 4000000 in
theorem resize_at {w : World} {t : Nat} {W H : Int} {T : TS} {F : Nat → Prop} (hA0 : TermAt w t T F) (hT : LT w) (hL : Lim W H T) (p1 p2 : Int) : Calls Tryz.prog 29 [pX t, iX p1, iX p2].toArray w fun e w' => e = .returned (.tuple #[]) ∧ TermAt w' t (resizeT T p1 p2) (more F w w') ∧ Ch F w w' := by
 obtain ⟨g, o, ba, bn, bc, pa, pn, pc, F1, F2, FB, FP, hI⟩ := hA0
 have hA0 : TermAt w t T F := ⟨g, o, ba, bn, bc, pa, pn, pc, F1, F2, FB, FP, hI⟩
 have hFt := hI.inF.1
 obtain ⟨gv, hgd⟩ := hI.g1.head
 have htg : Df t g := fun e => hI.t1 (e ▸ hI.g1.inF)
 obtain ⟨⟨hw1, hw2⟩, ⟨hh1, hh2⟩, hll, hall⟩ := hI.g1.ok
 have hL0 := hL
 have hla := hL0.all
 refine yA Tryz.func29 rfl <| ysr <| yp 4 [] .z <| ye <| ysr <| yp 10 [] (.l (hI.blk.c 3) (.q6 (T.cursor.y - (min ((max (p2 : Int) 1) : Int) 60)) (.q6 ((T.cursor.y - (min ((max (p2 : Int) 1) : Int) 60)) + 1) .z))) <| ye <| ysr <| yp 7 [] (.l (hI.blk.c 0) .z) <| yo (yC (resize_any g T.grid F1 p1 (hgtI p2) (upI T p2) _ hT.tb hI.g1) ?_)
 rintro _ w10 ⟨ro, n1, rows1, F1', K1, rfl, hLn, hol, hG, hF, hK, hap, hc⟩
 refine ⟨_, rfl, ?_⟩
 have hI1 := hI.grid1 hc hG hF
 have hc1 := hI.chF hc
 have hT1 := lt_ch hc1 hT (fun b hb => hI.hi b hb)
 have hKm : ∀ b, K1 b → more F w w10 b ∧ ¬ F1' b ∧ ¬ F2 b ∧ b ≠ t := fun b hb => by
  have h2 := hK b hb
  refine ⟨h2.elim (fun h => .inl (hI.inF.2.1 b h)) .inr, fun h => hap b h hb, fun h => ?_, fun h => ?_⟩
  ·rcases h2 with h2 | h2
   ·exact hI.a12 b h2 h
   have := hI.g2.lt b h; omega
  rcases h2 with h2 | h2
  ·exact hI.t1 (h ▸ h2)
  have := hI.blk.lt; omega
 have hln : n1 ≤ 1000 := by
  have h1 := hLn.len
  have h2 := congrArg List.length hol
  rw [List.length_map, List.length_take] at h2
  omega
 refine yp 9 [] .z <| ye <| x_seq_cut ([(0, pX t), (1, iX p1), (2, iX (hgtI p2)), (6, iX (upI T p2))]) (fun u => TermAt u t (rs1 T p1 p2) (more F w u) ∧ Ch F w u ∧ LT u) (fun K11 hK12 => ?_) (fun u13 hcut14 => ?_)
 ·refine ysr <| yp 5 [] (.l (hI1.blk.c 95) .z) <| ye <| yc (rN (rY T.alt)) (fun hC15 => ?_) fun hC15 => ?_
  ·have hal := hC15
   refine x_region <| yp 2 [] .z <| yo (yC (keep_any (lc := n1) hI1 hLn (fun e => by cases e) hKm (by have := hI.bk; obtain ⟨rr, h1, h2⟩ := this; have h3 := h1.len; have h4 : rr.length = T.back.length := (by have h5 := congrArg List.length h2; rw [List.length_map] at h5; exact h5); omega) hln) ?_)
   rintro _ w16 ⟨ba2, bn2, bc2, rfl, hI2, hc2⟩
   refine ⟨_, rfl, ?_⟩
   refine yE (fun a ha => hK12 _ ⟨TermAt.eq' (show TermAt w16 t _ (more F w w16) from ⟨_, _, _, _, _, _, _, _, _, _, _, _, hI2.mono (more_trans hc1.size hc2.size) (hI.moreOk (Nat.le_trans hc1.size hc2.size))⟩) (by unfold rs1; rw [if_neg (by rw [hal]; decide), ← hol]), Ch.more hc1 (hI1.cht hc2), lt_ch (Ch.more hc1 (hI1.cht hc2)) hT (fun b hb => hI.hi b hb)⟩ a (ha.kp [0, 1, 2, 6]))
  have hal := hC15
  refine x_skip (fun a ha => hK12 _ ⟨TermAt.eq' (show TermAt w10 t _ (more F w w10) from ⟨_, _, _, _, _, _, _, _, _, _, _, _, hI1⟩) (by unfold rs1; rw [if_pos hal]), hc1, hT1⟩ a (ha.kp [0, 1, 2, 6]))
 obtain ⟨⟨g5, o5, ba5, bn5, bc5, pa5, pn5, pc5, F15, F25, FB5, FP5, hI5⟩, hX5, hT5⟩ := hcut14
 refine ysr <| yp 6 [] (.l (hI5.blk.c 1) .z) <| yo (yC (resize_any o5 (rs1 T p1 p2).other F25 p1 (hgtI p2) 0 _ hT5.tb hI5.g2) ?_)
 rintro _ w17 ⟨ro6, n6, rows6, F26, K6, rfl, hLn6, hol6, hG6, hF6, hK6, hap6, hc6⟩
 refine ⟨_, rfl, ?_⟩
 have hI6 : TermIn w17 t g5 o5 ba5 bn5 bc5 pa5 pn5 pc5 (rs2 T p1 p2) (more (more F w u13) u13 w17) F15 F26 FB5 FP5 := hI5.grid2 hc6 hG6 hF6
 have hc6F := hI5.chF2 hc6
 have hX6 := Ch.more hX5 hc6F
 obtain ⟨d1, d2, d3, d4, d5, d6, d7⟩ := rs2_f T p1 p2
 have dcx : (rs2 T p1 p2).cursor.x = T.cursor.x := by rw [d1]
 have dcy : (rs2 T p1 p2).cursor.y = T.cursor.y := by rw [d1]
 have dsx : (rs2 T p1 p2).saved.x = T.saved.x := by rw [d2]
 have dsy : (rs2 T p1 p2).saved.y = T.saved.y := by rw [d2]
 have dax : (rs2 T p1 p2).away.x = T.away.x := by rw [d3]
 have day : (rs2 T p1 p2).away.y = T.away.y := by rw [d3]
 have hb2 := hgtI_bd p2
 have hs1 : 1 ≤ sideI p1 ∧ sideI p1 ≤ 60 := by unfold sideI; omega
 have hup : 0 ≤ upI T p2 ∧ upI T p2 ≤ 60 := by unfold upI; omega
 obtain ⟨gv6, hgd6⟩ := hI6.g1.head
 have htg6 : Df t g5 := fun e => hI6.t1 (e ▸ hI6.g1.inF)
 refine ye <| ysr <| yp 11 [] (.l (hI6.blk.c 0) (.l (hgd6.c 1) .z)) <| yo (yS hI6.blk fun w18 hB19 hc20 => ?_)
 have hS22 := Ch.trans (Ch.refl (fun j => j = t) w17) hc20 (fun i hi (h : i = t) => h)
 have hg23 := hgd6.ch hc20 (fun h => htg6 h.symm)
 refine yp 14 [] .z <| yo (yS hB19 fun w24 hB25 hc26 => ?_)
 have hS28 := Ch.trans hS22 hc26 (fun i hi (h : i = t) => h)
 have hg29 := hg23.ch hc26 (fun h => htg6 h.symm)
 refine ye <| ysr <| yp 10 [] (.l (hB25.c 3) (.q6 ((rs2 T p1 p2).cursor.y - (upI T p2)) .z)) <| yo (yS hB25 fun w30 hB31 hc32 => ?_)
 have hS34 := Ch.trans hS28 hc32 (fun i hi (h : i = t) => h)
 have hg35 := hg29.ch hc32 (fun h => htg6 h.symm)
 refine ye <| ys <| yD [9] fun w36 hH37 hc38 => ?_
 have hS39 := Ch.trans hS34 hc38 eZ
 have hg40 := hg35.ch hc38 id
 have ht41 := hB31.ch hc38 id
 refine yd [0, 1, 2, 3, 4, 5, 6, 7, 8, 11] [] .z <| yK 9 (yB [.pointer (some ⟨t, 2, none⟩), .pointer (some ⟨t, 10, none⟩), .pointer (some ⟨t, 18, none⟩)] 106 3 fun w42 b43 hb44 hz45 hB46 hc47 => ?_)
 have hlo48 : w17.heap.size ≤ b43 := by rw [hb44]; exact Ch.size hS39
 have hS49 := Ch.trans hS39 hc47 eZ
 have hg50 := hg40.ch hc47 id
 have ht51 := ht41.ch hc47 id
 refine x_killed <| yd [10] [] .z <| yDe (nS ?_)
 refine x_block <| yU 4 (yU1 ?_)
 refine ysr <| yp 1 [] .z <| ye <| ys <| yct <| yk <| ys <| x_block <| ysr <| yp 3 [] (.i 0 (3) (.l (hB46.c 0) .z)) <| ye <| x_seq_cut ([(0, pX t), (9, .pointer (some ⟨t, 2, none⟩)), (77, .slice (some ⟨b43, 0, none⟩) 3 3), (78, iX 3), (79, iX 0)]) (fun u => Blk u t (TS.vals ({ (rs2 T p1 p2) with cursor := (Cur.mk (rs2 T p1 p2).cursor.x ((rs2 T p1 p2).cursor.y - (upI T p2)) ((rs2 T p1 p2).cursor.late && (((rs2 T p1 p2).cursor.x : Int) == (rs2 T p1 p2).grid.w - 1)) (rs2 T p1 p2).cursor.sty), top := 0, bot := (rs2 T p1 p2).grid.h } : TS) g5 o5 (.slice ba5 bn5 bc5) (.slice pa5 pn5 pc5)) tTerm ∧ Ch (fun j => j = t) w17 u ∧ Blk u b43 [.pointer (some ⟨t, 2, none⟩), .pointer (some ⟨t, 10, none⟩), .pointer (some ⟨t, 18, none⟩)] 106) (fun K52 hK53 => ?_) (fun u54 hcut55 => ?_)
 ·refine yD [22] fun w56 hH57 hc58 => ?_
  have hS59 := Ch.trans hS49 hc58 eZ
  have hg60 := hg50.ch hc58 id
  have ht61 := ht51.ch hc58 id
  have hB62 := hB46.ch hc58 id
  refine yd (uL 0 6) [] (.l (ht61.c 4) .z) <| yv [88] (rY (rs2 T p1 p2).cursor.late) (fun hC63 => ?_) fun hC63 => ?_
  ·refine yd (uL 6 16) [] (.l (ht61.c 2) (.l (ht61.c 0) (.l (hg60.c 0) (.q6 ((rs2 T p1 p2).grid.w - 1) .z)))) <| yK 22 (yS ht61 fun w64 hB65 hc66 => ?_)
   have hS68 := Ch.trans hS59 hc66 (fun i hi (h : i = t) => h)
   have hB70 := hB62.ch hc66 (fun (h : b43 = t) => by have := ht41.lt; omega)
   refine x_killed <| yDe (fun a ha => hK53 _ ⟨Blk.to (Blk.to (cs' := (TS.vals ({ (rs2 T p1 p2) with cursor := (Cur.mk (rs2 T p1 p2).cursor.x ((rs2 T p1 p2).cursor.y - (upI T p2)) (((rs2 T p1 p2).cursor.x : Int) == ((rs2 T p1 p2).grid.w - 1)) (rs2 T p1 p2).cursor.sty), top := 0, bot := (rs2 T p1 p2).grid.h } : TS) g5 o5 (.slice ba5 bn5 bc5) (.slice pa5 pn5 pc5))) hB65 (by kernel_rfl)) (by simp only [hC63, Bool.true_and, Bool.false_and]), hS68, hB70⟩ a (ha.kp [0, 9, 77, 78, 79]))
  refine yd (uL 6 16) [] .z <| yK 22 (yS ht61 fun w71 hB72 hc73 => ?_)
  have hS75 := Ch.trans hS59 hc73 (fun i hi (h : i = t) => h)
  have hB77 := hB62.ch hc73 (fun (h : b43 = t) => by have := ht41.lt; omega)
  refine x_killed <| yDe (fun a ha => hK53 _ ⟨Blk.to (Blk.to (cs' := (TS.vals ({ (rs2 T p1 p2) with cursor := (Cur.mk (rs2 T p1 p2).cursor.x ((rs2 T p1 p2).cursor.y - (upI T p2)) false (rs2 T p1 p2).cursor.sty), top := 0, bot := (rs2 T p1 p2).grid.h } : TS) g5 o5 (.slice ba5 bn5 bc5) (.slice pa5 pn5 pc5))) hB72 (by kernel_rfl)) (by simp only [hC63, Bool.true_and, Bool.false_and]), hS75, hB77⟩ a (ha.kp [0, 9, 77, 78, 79]))
 obtain ⟨hB78, hS79, hB80⟩ := hcut55
 have hgd81 := hgd6.ch hS79 (fun h => htg6 h.symm)
 refine yD [30, 33] fun w82 hH83 hc84 => ?_
 have hS85 := Ch.trans hS79 hc84 eZ
 have hg86 := hgd81.ch hc84 id
 have ht87 := hB78.ch hc84 id
 have hB88 := hB80.ch hc84 id
 refine yd (uL 0 26) [] (.l (ht87.c 2) (.l (ht87.c 0) (.l (hg86.c 0) (.q6 ((rs2 T p1 p2).grid.w - 1) (.l (ht87.c 3) (.l (ht87.c 0) (.l (hg86.c 1) .z))))))) <| ydT (uL 26 4) [] rfl (fun _ => (.q6 ((rs2 T p1 p2).grid.h - 1) .z)) <| yK 30 (yS ht87 fun w89 hB90 hc91 => ?_)
 have hS93 := Ch.trans hS85 hc91 (fun i hi (h : i = t) => h)
 have hg94 := hg86.ch hc91 (fun h => htg6 h.symm)
 have hB95 := hB88.ch hc91 (fun (h : b43 = t) => by have := ht41.lt; omega)
 refine x_killed <| yd [31, 32] [] .z <| yK 33 (yS hB90 fun w96 hB97 hc98 => ?_)
 have hS100 := Ch.trans hS93 hc98 (fun i hi (h : i = t) => h)
 have hg101 := hg94.ch hc98 (fun h => htg6 h.symm)
 have hB102 := hB95.ch hc98 (fun (h : b43 = t) => by have := ht41.lt; omega)
 refine x_killed <| yDe (nB (nS ?_))
 refine x_region <| yp 2 [] (.q6 1 .z) <| yE (nU (yU1 ?_))
 refine ysr <| yp 1 [] .z <| ye <| ys <| yct <| yk <| ys <| x_block <| ysr <| yp 3 [] (.i 1 (3) (.l (hB102.c 1) .z)) <| ye <| x_seq_cut ([(0, pX t), (9, .pointer (some ⟨t, 10, none⟩)), (77, .slice (some ⟨b43, 0, none⟩) 3 3), (78, iX 3), (79, iX 1)]) (fun u => Blk u t (TS.vals ({ (rs2 T p1 p2) with cursor := (Cur.mk (min ((rs2 T p1 p2).cursor.x : Int) ((rs2 T p1 p2).grid.w - 1)) (min (((rs2 T p1 p2).cursor.y - (upI T p2)) : Int) ((rs2 T p1 p2).grid.h - 1)) ((rs2 T p1 p2).cursor.late && (((rs2 T p1 p2).cursor.x : Int) == (rs2 T p1 p2).grid.w - 1)) (rs2 T p1 p2).cursor.sty), saved := (Cur.mk (rs2 T p1 p2).saved.x (rs2 T p1 p2).saved.y ((rs2 T p1 p2).saved.late && (((rs2 T p1 p2).saved.x : Int) == (rs2 T p1 p2).grid.w - 1)) (rs2 T p1 p2).saved.sty), top := 0, bot := (rs2 T p1 p2).grid.h } : TS) g5 o5 (.slice ba5 bn5 bc5) (.slice pa5 pn5 pc5)) tTerm ∧ Ch (fun j => j = t) w17 u ∧ Blk u b43 [.pointer (some ⟨t, 2, none⟩), .pointer (some ⟨t, 10, none⟩), .pointer (some ⟨t, 18, none⟩)] 106) (fun K103 hK104 => ?_) (fun u105 hcut106 => ?_)
 ·refine yD [22] fun w107 hH108 hc109 => ?_
  have hS110 := Ch.trans hS100 hc109 eZ
  have hg111 := hg101.ch hc109 id
  have hB112 := hB102.ch hc109 id
  have ht113 := hB97.ch hc109 id
  refine yd (uL 0 6) [] (.l (ht113.c 12) .z) <| yv [88] (rY (rs2 T p1 p2).saved.late) (fun hC114 => ?_) fun hC114 => ?_
  ·refine yd (uL 6 16) [] (.l (ht113.c 10) (.l (ht113.c 0) (.l (hg111.c 0) (.q6 ((rs2 T p1 p2).grid.w - 1) .z)))) <| dkeep [0, 9, 77, 78, 79, 102, 104] (f' := [(0, pX t), (9, .pointer (some ⟨t, 10, none⟩)), (77, .slice (some ⟨b43, 0, none⟩) 3 3), (78, iX 3), (79, iX 1), (102, .bool (((rs2 T p1 p2).saved.x : Int) == ((rs2 T p1 p2).grid.w - 1))), (104, .pointer (some ⟨t, 12, none⟩))]) <| yK 22 (yS ht113 fun w115 hB116 hc117 => ?_)
   have hS119 := Ch.trans hS110 hc117 (fun i hi (h : i = t) => h)
   have hB121 := hB112.ch hc117 (fun (h : b43 = t) => by have := ht41.lt; omega)
   refine x_killed <| yDe (fun a ha => hK104 _ ⟨Blk.to (Blk.to (cs' := (TS.vals ({ (rs2 T p1 p2) with cursor := (Cur.mk (min ((rs2 T p1 p2).cursor.x : Int) ((rs2 T p1 p2).grid.w - 1)) (min (((rs2 T p1 p2).cursor.y - (upI T p2)) : Int) ((rs2 T p1 p2).grid.h - 1)) ((rs2 T p1 p2).cursor.late && (((rs2 T p1 p2).cursor.x : Int) == (rs2 T p1 p2).grid.w - 1)) (rs2 T p1 p2).cursor.sty), saved := (Cur.mk (rs2 T p1 p2).saved.x (rs2 T p1 p2).saved.y (((rs2 T p1 p2).saved.x : Int) == ((rs2 T p1 p2).grid.w - 1)) (rs2 T p1 p2).saved.sty), top := 0, bot := (rs2 T p1 p2).grid.h } : TS) g5 o5 (.slice ba5 bn5 bc5) (.slice pa5 pn5 pc5))) hB116 (by kernel_rfl)) (by simp only [hC114, Bool.true_and, Bool.false_and]), hS119, hB121⟩ a (ha.kp [0, 9, 77, 78, 79]))
  refine yd (uL 6 16) [] .z <| dkeep [0, 9, 77, 78, 79, 102, 104] (f' := [(0, pX t), (9, .pointer (some ⟨t, 10, none⟩)), (77, .slice (some ⟨b43, 0, none⟩) 3 3), (78, iX 3), (79, iX 1), (102, .bool false), (104, .pointer (some ⟨t, 12, none⟩))]) <| yK 22 (yS ht113 fun w122 hB123 hc124 => ?_)
  have hS126 := Ch.trans hS110 hc124 (fun i hi (h : i = t) => h)
  have hB128 := hB112.ch hc124 (fun (h : b43 = t) => by have := ht41.lt; omega)
  refine x_killed <| yDe (fun a ha => hK104 _ ⟨Blk.to (Blk.to (cs' := (TS.vals ({ (rs2 T p1 p2) with cursor := (Cur.mk (min ((rs2 T p1 p2).cursor.x : Int) ((rs2 T p1 p2).grid.w - 1)) (min (((rs2 T p1 p2).cursor.y - (upI T p2)) : Int) ((rs2 T p1 p2).grid.h - 1)) ((rs2 T p1 p2).cursor.late && (((rs2 T p1 p2).cursor.x : Int) == (rs2 T p1 p2).grid.w - 1)) (rs2 T p1 p2).cursor.sty), saved := (Cur.mk (rs2 T p1 p2).saved.x (rs2 T p1 p2).saved.y false (rs2 T p1 p2).saved.sty), top := 0, bot := (rs2 T p1 p2).grid.h } : TS) g5 o5 (.slice ba5 bn5 bc5) (.slice pa5 pn5 pc5))) hB123 (by kernel_rfl)) (by simp only [hC114, Bool.true_and, Bool.false_and]), hS126, hB128⟩ a (ha.kp [0, 9, 77, 78, 79]))
 obtain ⟨hB129, hS130, hB131⟩ := hcut106
 have hgd132 := hgd6.ch hS130 (fun h => htg6 h.symm)
 refine yD [30, 33] fun w133 hH134 hc135 => ?_
 have hS136 := Ch.trans hS130 hc135 eZ
 have hg137 := hgd132.ch hc135 id
 have hB138 := hB131.ch hc135 id
 have ht139 := hB129.ch hc135 id
 refine yd (uL 0 26) [] (.l (ht139.c 10) (.l (ht139.c 0) (.l (hg137.c 0) (.q6 ((rs2 T p1 p2).grid.w - 1) (.l (ht139.c 11) (.l (ht139.c 0) (.l (hg137.c 1) .z))))))) <| dkeep [0, 77, 78, 79, 105, 106, 119, 123, 130] (f' := [(0, pX t), (77, .slice (some ⟨b43, 0, none⟩) 3 3), (78, iX 3), (79, iX 1), (105, .pointer (some ⟨t, 10, none⟩)), (106, .pointer (some ⟨t, 10, none⟩)), (119, iX (min ((rs2 T p1 p2).saved.x : Int) ((rs2 T p1 p2).grid.w - 1))), (123, iX (rs2 T p1 p2).saved.y), (130, iX (rs2 T p1 p2).grid.h)]) <| ydT (uL 26 4) [] rfl (fun _ => (.q6 ((rs2 T p1 p2).grid.h - 1) .z)) <| yK 30 (yS ht139 fun w140 hB141 hc142 => ?_)
 have hS144 := Ch.trans hS136 hc142 (fun i hi (h : i = t) => h)
 have hg145 := hg137.ch hc142 (fun h => htg6 h.symm)
 have hB146 := hB138.ch hc142 (fun (h : b43 = t) => by have := ht41.lt; omega)
 refine x_killed <| yd [31, 32] [] .z <| yK 33 (yS hB141 fun w147 hB148 hc149 => ?_)
 have hS151 := Ch.trans hS144 hc149 (fun i hi (h : i = t) => h)
 have hg152 := hg145.ch hc149 (fun h => htg6 h.symm)
 have hB153 := hB146.ch hc149 (fun (h : b43 = t) => by have := ht41.lt; omega)
 refine x_killed <| yDe (nB (nS ?_))
 refine x_region <| yp 2 [] (.q6 2 .z) <| yE (nU (yU1 ?_))
 refine ysr <| yp 1 [] .z <| ye <| ys <| yct <| yk <| ys <| x_block <| ysr <| yp 3 [] (.i 2 (3) (.l (hB153.c 2) .z)) <| ye <| x_seq_cut ([(0, pX t), (9, .pointer (some ⟨t, 18, none⟩)), (77, .slice (some ⟨b43, 0, none⟩) 3 3), (78, iX 3), (79, iX 2)]) (fun u => Blk u t (TS.vals ({ (rs2 T p1 p2) with cursor := (Cur.mk (min ((rs2 T p1 p2).cursor.x : Int) ((rs2 T p1 p2).grid.w - 1)) (min (((rs2 T p1 p2).cursor.y - (upI T p2)) : Int) ((rs2 T p1 p2).grid.h - 1)) ((rs2 T p1 p2).cursor.late && (((rs2 T p1 p2).cursor.x : Int) == (rs2 T p1 p2).grid.w - 1)) (rs2 T p1 p2).cursor.sty), saved := (Cur.mk (min ((rs2 T p1 p2).saved.x : Int) ((rs2 T p1 p2).grid.w - 1)) (min ((rs2 T p1 p2).saved.y : Int) ((rs2 T p1 p2).grid.h - 1)) ((rs2 T p1 p2).saved.late && (((rs2 T p1 p2).saved.x : Int) == (rs2 T p1 p2).grid.w - 1)) (rs2 T p1 p2).saved.sty), away := (Cur.mk (rs2 T p1 p2).away.x (rs2 T p1 p2).away.y ((rs2 T p1 p2).away.late && (((rs2 T p1 p2).away.x : Int) == (rs2 T p1 p2).grid.w - 1)) (rs2 T p1 p2).away.sty), top := 0, bot := (rs2 T p1 p2).grid.h } : TS) g5 o5 (.slice ba5 bn5 bc5) (.slice pa5 pn5 pc5)) tTerm ∧ Ch (fun j => j = t) w17 u ∧ Blk u b43 [.pointer (some ⟨t, 2, none⟩), .pointer (some ⟨t, 10, none⟩), .pointer (some ⟨t, 18, none⟩)] 106) (fun K154 hK155 => ?_) (fun u156 hcut157 => ?_)
 ·refine yD [22] fun w158 hH159 hc160 => ?_
  have hS161 := Ch.trans hS151 hc160 eZ
  have hg162 := hg152.ch hc160 id
  have hB163 := hB153.ch hc160 id
  have ht164 := hB148.ch hc160 id
  refine yd (uL 0 6) [] (.l (ht164.c 20) .z) <| yv [88] (rY (rs2 T p1 p2).away.late) (fun hC165 => ?_) fun hC165 => ?_
  ·refine yd (uL 6 16) [] (.l (ht164.c 18) (.l (ht164.c 0) (.l (hg162.c 0) (.q6 ((rs2 T p1 p2).grid.w - 1) .z)))) <| yK 22 (yS ht164 fun w166 hB167 hc168 => ?_)
   have hS170 := Ch.trans hS161 hc168 (fun i hi (h : i = t) => h)
   have hB172 := hB163.ch hc168 (fun (h : b43 = t) => by have := ht41.lt; omega)
   refine x_killed <| yDe (fun a ha => hK155 _ ⟨Blk.to (Blk.to (cs' := (TS.vals ({ (rs2 T p1 p2) with cursor := (Cur.mk (min ((rs2 T p1 p2).cursor.x : Int) ((rs2 T p1 p2).grid.w - 1)) (min (((rs2 T p1 p2).cursor.y - (upI T p2)) : Int) ((rs2 T p1 p2).grid.h - 1)) ((rs2 T p1 p2).cursor.late && (((rs2 T p1 p2).cursor.x : Int) == (rs2 T p1 p2).grid.w - 1)) (rs2 T p1 p2).cursor.sty), saved := (Cur.mk (min ((rs2 T p1 p2).saved.x : Int) ((rs2 T p1 p2).grid.w - 1)) (min ((rs2 T p1 p2).saved.y : Int) ((rs2 T p1 p2).grid.h - 1)) ((rs2 T p1 p2).saved.late && (((rs2 T p1 p2).saved.x : Int) == (rs2 T p1 p2).grid.w - 1)) (rs2 T p1 p2).saved.sty), away := (Cur.mk (rs2 T p1 p2).away.x (rs2 T p1 p2).away.y (((rs2 T p1 p2).away.x : Int) == ((rs2 T p1 p2).grid.w - 1)) (rs2 T p1 p2).away.sty), top := 0, bot := (rs2 T p1 p2).grid.h } : TS) g5 o5 (.slice ba5 bn5 bc5) (.slice pa5 pn5 pc5))) hB167 (by kernel_rfl)) (by simp only [hC165, Bool.true_and, Bool.false_and]), hS170, hB172⟩ a (ha.kp [0, 9, 77, 78, 79]))
  refine yd (uL 6 16) [] .z <| yK 22 (yS ht164 fun w173 hB174 hc175 => ?_)
  have hS177 := Ch.trans hS161 hc175 (fun i hi (h : i = t) => h)
  have hB179 := hB163.ch hc175 (fun (h : b43 = t) => by have := ht41.lt; omega)
  refine x_killed <| yDe (fun a ha => hK155 _ ⟨Blk.to (Blk.to (cs' := (TS.vals ({ (rs2 T p1 p2) with cursor := (Cur.mk (min ((rs2 T p1 p2).cursor.x : Int) ((rs2 T p1 p2).grid.w - 1)) (min (((rs2 T p1 p2).cursor.y - (upI T p2)) : Int) ((rs2 T p1 p2).grid.h - 1)) ((rs2 T p1 p2).cursor.late && (((rs2 T p1 p2).cursor.x : Int) == (rs2 T p1 p2).grid.w - 1)) (rs2 T p1 p2).cursor.sty), saved := (Cur.mk (min ((rs2 T p1 p2).saved.x : Int) ((rs2 T p1 p2).grid.w - 1)) (min ((rs2 T p1 p2).saved.y : Int) ((rs2 T p1 p2).grid.h - 1)) ((rs2 T p1 p2).saved.late && (((rs2 T p1 p2).saved.x : Int) == (rs2 T p1 p2).grid.w - 1)) (rs2 T p1 p2).saved.sty), away := (Cur.mk (rs2 T p1 p2).away.x (rs2 T p1 p2).away.y false (rs2 T p1 p2).away.sty), top := 0, bot := (rs2 T p1 p2).grid.h } : TS) g5 o5 (.slice ba5 bn5 bc5) (.slice pa5 pn5 pc5))) hB174 (by kernel_rfl)) (by simp only [hC165, Bool.true_and, Bool.false_and]), hS177, hB179⟩ a (ha.kp [0, 9, 77, 78, 79]))
 obtain ⟨hB180, hS181, hB182⟩ := hcut157
 have hgd183 := hgd6.ch hS181 (fun h => htg6 h.symm)
 refine yD [30, 33] fun w184 hH185 hc186 => ?_
 have hS187 := Ch.trans hS181 hc186 eZ
 have hg188 := hgd183.ch hc186 id
 have ht190 := hB180.ch hc186 id
 refine yd (uL 0 26) [] (.l (ht190.c 18) (.l (ht190.c 0) (.l (hg188.c 0) (.q6 ((rs2 T p1 p2).grid.w - 1) (.l (ht190.c 19) (.l (ht190.c 0) (.l (hg188.c 1) .z))))))) <| ydT (uL 26 4) [] rfl (fun _ => (.q6 ((rs2 T p1 p2).grid.h - 1) .z)) <| yK 30 (yS ht190 fun w191 hB192 hc193 => ?_)
 have hS195 := Ch.trans hS187 hc193 (fun i hi (h : i = t) => h)
 refine x_killed <| yd [31, 32] [] .z <| yK 33 (yS hB192 fun w198 hB199 hc200 => ?_)
 have hS202 := Ch.trans hS195 hc200 (fun i hi (h : i = t) => h)
 refine x_killed <| yDe (nB (nS ?_))
 refine x_region <| yp 2 [] (.q6 3 .z) <| yE (nU (yU1 ?_))
 refine ysr <| yp 1 [] .z <| ye <| ys <| ycf <| x_exit (eS (then_exit (block_exit (yR0' ?_))))
 have hI205 := hI6.scalar (T' := ({ (rs2 T p1 p2) with cursor := (Cur.mk (min ((rs2 T p1 p2).cursor.x : Int) ((rs2 T p1 p2).grid.w - 1)) (min (((rs2 T p1 p2).cursor.y - (upI T p2)) : Int) ((rs2 T p1 p2).grid.h - 1)) ((rs2 T p1 p2).cursor.late && (((rs2 T p1 p2).cursor.x : Int) == (rs2 T p1 p2).grid.w - 1)) (rs2 T p1 p2).cursor.sty), saved := (Cur.mk (min ((rs2 T p1 p2).saved.x : Int) ((rs2 T p1 p2).grid.w - 1)) (min ((rs2 T p1 p2).saved.y : Int) ((rs2 T p1 p2).grid.h - 1)) ((rs2 T p1 p2).saved.late && (((rs2 T p1 p2).saved.x : Int) == (rs2 T p1 p2).grid.w - 1)) (rs2 T p1 p2).saved.sty), away := (Cur.mk (min ((rs2 T p1 p2).away.x : Int) ((rs2 T p1 p2).grid.w - 1)) (min ((rs2 T p1 p2).away.y : Int) ((rs2 T p1 p2).grid.h - 1)) ((rs2 T p1 p2).away.late && (((rs2 T p1 p2).away.x : Int) == (rs2 T p1 p2).grid.w - 1)) (rs2 T p1 p2).away.sty), top := 0, bot := (rs2 T p1 p2).grid.h } : TS)) hS202 (Blk.to hB199 (by kernel_rfl)) rfl rfl rfl rfl
 have hz1 := hX5.size
 have hz2 := hc6F.size
 have hz3 := Ch.size hS202
 have hXf : Ch F w w198 := Ch.trans hX6 hS202 (fun i _ h => h ▸ hFt)
 exact ⟨rfl, TermAt.eq' (show TermAt w198 t _ (more F w w198) from ⟨_, _, _, _, _, _, _, _, _, _, _, _, hI205.mono (fun b hb => hb.elim (fun h => h.elim .inl (fun h => .inr ⟨h.1, by omega⟩)) (fun h => .inr ⟨by omega, by omega⟩)) (hI.moreOk hXf.size)⟩) rfl, hXf⟩
end Go.Proofs.YteoejhjfbfacdaaGreatDoor.X
namespace Go.Proofs.YteoejhjfbfacdaaGreatDoor.X
open Go Go.RowKit Go.Proofs.YteoejhjfbfacdaaGreatDoor
structure Stp where
 text : ByteArray
 w : Int
 h : Int
def stp0 : Stp := ⟨ByteArray.empty, 0, 0⟩
def Stp.vals (x : Stp) : List Value := [.string x.text, .int .i64 x.w, .int .i64 x.h]
def flatS : List Stp → List Value
 | [] => []
 | x :: l => x.vals ++ flatS l
def gs (l : List Stp) (k : Nat) : Stp := l.getD k stp0
theorem flatS_len (l : List Stp) : (flatS l).length = l.length * 3 := by
 induction l with
 | nil => rfl
 | cons c l ih => simp [flatS, Stp.vals, ih]; omega
theorem flatS_get : ∀ (l : List Stp) (k j : Nat), k < l.length → j < 3 → (flatS l)[k * 3 + j]? = (gs l k).vals[j]?
 | [], k, j, h, _ => by simp at h
 | x :: l, 0, j, _, hj => by
  rw [flatS, Nat.zero_mul, Nat.zero_add, List.getElem?_append_left (by simp [Stp.vals]; omega)]; rfl
 | x :: l, k + 1, j, h, hj => by
  rw [flatS, List.getElem?_append_right (by simp [Stp.vals]; omega)]
  rw [show (k + 1) * 3 + j - x.vals.length = k * 3 + j by simp [Stp.vals]; omega, flatS_get l k j (by simpa using h) hj]
  rfl
section
variable {w : World} {b off : Nat} {l : List Stp} {k : Nat} (h : Rd w (some ⟨b, off, none⟩) (flatS l)) (hk : k < l.length)
include h hk
theorem s_text : w.cell? ⟨b, off + ((k : Nat) : Int).toNat * 3, none⟩ = some (.string (gs l k).text) := by
 rw [Int.toNat_natCast]; exact rd_at h (k * 3) _ (flatS_get l k 0 hk (by decide))
theorem s_w : w.cell? ⟨b, off + ((k : Nat) : Int).toNat * 3 + 1, none⟩ = some (.int .i64 (gs l k).w) := by
 rw [Int.toNat_natCast, Nat.add_assoc]; exact rd_at h (k * 3 + 1) _ (flatS_get l k 1 hk (by decide))
theorem s_h : w.cell? ⟨b, off + ((k : Nat) : Int).toNat * 3 + 2, none⟩ = some (.int .i64 (gs l k).h) := by
 rw [Int.toNat_natCast, Nat.add_assoc]; exact rd_at h (k * 3 + 2) _ (flatS_get l k 2 hk (by decide))
end
def shortB (l : List Stp) : Bool := decide (l.length ≤ 40) && l.all fun x => decide (x.text.size ≤ 600)
theorem shortB_iff {l : List Stp} : shortB l = true ↔ l.length ≤ 40 ∧ ∀ k, k < l.length → (gs l k).text.size ≤ 600 := by
 unfold shortB
 rw [Bool.and_eq_true, decide_eq_true_eq, List.all_eq_true]
 refine and_congr_right fun _ => ⟨fun h k hk => ?_, fun h x hx => ?_⟩
 ·have := h l[k] (List.getElem_mem hk)
  have e : gs l k = l[k] := by simp [gs, List.getD, hk]
  rw [e]; exact of_decide_eq_true this
 ·obtain ⟨k, hk, rfl⟩ := List.mem_iff_getElem.1 hx
  have := h k hk
  have e : gs l k = l[k] := by simp [gs, List.getD, hk]
  rw [e] at this; exact decide_eq_true this
def doT (T : TS) (x : Stp) : TS := if x.w = 0 ∧ x.h = 0 then writeT T x.text else resizeT T x.w x.h
theorem fine_resize {T : TS} (h : Fine T) (p1 p2 : Int) : Fine (resizeT T p1 p2) := by
 obtain ⟨⟨W, H, h⟩, hp⟩ := h
 exact ⟨⟨_, _, lim_resize h p1 p2⟩, by rw [resize_parser]; exact hp⟩
theorem fine_do {T : TS} (h : Fine T) (x : Stp) : Fine (doT T x) := by
 unfold doT
 split
 ·exact fine_write h _
 ·exact fine_resize h _ _
end Go.Proofs.YteoejhjfbfacdaaGreatDoor.X
namespace Go.Proofs.YteoejhjfbfacdaaGreatDoor.X
open Go Go.RowKit Go.Proofs.YteoejhjfbfacdaaGreatDoor
set_option maxHeartbeats 4000000 in
theorem do_at {w : World} {t : Nat} {T : TS} {F : Nat → Prop} (hA : TermAt w t T F) (hT : LT w) (hf : Fine T) (x : Stp) (hx : x.text.size ≤ 1000000) : Calls Tryz.prog 13 [pX t, .agg #[.string x.text, iX x.w, iX x.h]].toArray w fun e w' => e = .returned (.tuple #[]) ∧ TermAt w' t (doT T x) (more F w w') ∧ Ch F w w' := by
 obtain ⟨⟨W, H, hL⟩, hp⟩ := hf
 refine yA Tryz.func13 rfl <| ysr <| yo (yN [.string x.text, iX x.w, iX x.h] 35 fun w10 b11 hb12 hz13 hB14 hc15 => ?_)
 have hlo16 : w.heap.size ≤ b11 := by rw [hb12]; exact Ch.size (Up.refl w.heap.size w)
 have hu17 := Up.step (Up.refl w.heap.size w) hc15 iZ
 refine ye <| ys <| ysr <| yp 4 [] (.l (hB14.c 1) .z) <| yw [7] (rE x.w 0) (fun hC18 => ?_) fun hC18 => ?_
 ·have hpp0 := hC18
  refine yp 8 [] (.l (hB14.c 2) .z) <| ye <| yc (rE x.h 0) (fun hC19 => ?_) fun hC19 => ?_
  ·have hpp1 := hC19
   refine ysr <| yp 3 [] (.l (hB14.c 0) .z) ?_
   have hq := Up.ch hu17
   have hA1 := hA.ch hq iZ
   have hT1 := lt_ch hq hT (fun _ h => h.elim)
   refine yo (yQ (write_at hA1 hT1 hL hp x.text hx) ?_)
   rintro w20 ⟨hB, hc⟩
   refine ye <| x_ret (rS (yR0 ?_))
   exact ⟨rfl, TermAt.eq' (hB.mono (more_le hq.size) (hA.moreOk (Nat.le_trans hq.size hc.size))) (if_pos ⟨hpp0, hpp1⟩), (hq.mono eZ).trans hc iZ⟩
  have hpp1 := hC19
  refine yk <| x_region <| yp 5 [] (.l (hB14.c 1) (.l (hB14.c 2) .z)) ?_
  have hq := Up.ch hu17
  have hA1 := hA.ch hq iZ
  have hT1 := lt_ch hq hT (fun _ h => h.elim)
  refine yo (yQ (resize_at hA1 hT1 hL x.w x.h) ?_)
  rintro w21 ⟨hB, hc⟩
  refine yE (yR0' ?_)
  exact ⟨rfl, TermAt.eq' (hB.mono (more_le hq.size) (hA.moreOk (Nat.le_trans hq.size hc.size))) (if_neg (fun h => hpp1 h.2)), (hq.mono eZ).trans hc iZ⟩
 have hpp0 := hC18
 refine yp 8 [] .z <| ye <| ycf <| yk <| x_region <| yp 5 [] (.l (hB14.c 1) (.l (hB14.c 2) .z)) ?_
 have hq := Up.ch hu17
 have hA1 := hA.ch hq iZ
 have hT1 := lt_ch hq hT (fun _ h => h.elim)
 refine yo (yQ (resize_at hA1 hT1 hL x.w x.h) ?_)
 rintro w22 ⟨hB, hc⟩
 refine yE (yR0' ?_)
 exact ⟨rfl, TermAt.eq' (hB.mono (more_le hq.size) (hA.moreOk (Nat.le_trans hq.size hc.size))) (if_neg (fun h => hpp0 h.1)), (hq.mono eZ).trans hc iZ⟩
theorem Sys.do {w0 w : World} {bs : List (Nat × List Value × TypeId)} {ts : List (Nat × TS)} (h : Sys w0 w bs ts) {i t : Nat} {T : TS} (hi : ts[i]? = some (t, T)) (x : Stp) (hx : x.text.size ≤ 1000000) : Calls Tryz.prog 13 [pX t, .agg #[.string x.text, iX x.w, iX x.h]].toArray w fun e w' => e = .returned (.tuple #[]) ∧ Sys w0 w' bs (ts.set i (t, doT T x)) :=
  h.step hi (fun F hA hl hf => do_at hA hl hf x hx) (fun hf => fine_do hf x)
end Go.Proofs.YteoejhjfbfacdaaGreatDoor.X
namespace Go.Proofs.YteoejhjfbfacdaaGreatDoor.X
open Go Go.RowKit Go.Proofs.YteoejhjfbfacdaaGreatDoor
theorem short_next {st : List Stp} {k : Nat} (h : ∀ i : Nat, i < k → (gs st i).text.size ≤ 600) (hb : (gs st k).text.size ≤ 600) : ∀ i : Nat, i < k + 1 → (gs st i).text.size ≤ 600 := fun i hi => by
  rcases Nat.lt_or_ge i k with h' | h'
  · exact h i h'
  · obtain rfl : i = k := by omega
    exact hb
set_option maxHeartbeats 4000000 in
theorem short_some (sb so sc : Nat) (st : List Stp) (w : World) (hT : LT w) (h7 : gTop ≤ w.heap.size) (hst : Rd w (some ⟨sb, so, none⟩) (flatS st)) : Calls Tryz.prog 12 [.slice (some ⟨sb, so, none⟩) st.length sc].toArray w fun e w' => e = .returned (.bool (shortB st)) ∧ Ch (fun _ => False) w w' := by
 have hS := Sys.start hT h7
 refine yA Tryz.func12 rfl <| ysr <| yp 1 [] .z <| ye <| ys <| ysr <| yp 3 [] .z <| ye <| yc (rL 40 ((st.length : Nat) : Int)) (fun hC10 => ?_) fun hC10 => ?_
 ·have hpp := hC10
  refine ysr <| yp 1 [] .z <| ye <| x_ret (rS (yR1 (.bool false) ?_))
  refine ⟨congrArg Ending.returned (congrArg Value.bool ?_), hS.ch⟩
  exact (Bool.eq_false_iff.2 fun h => by have := (shortB_iff.1 h).1; omega).symm
 have hpp := hC10
 refine yk <| ys <| ysr <| yp 3 [] .z <| ye <| x_block <| ykeep [8, 9, 10] (f' := [(8, .slice (some ⟨sb, so, none⟩) st.length sc), (9, iX ((st.length : Nat) : Int)), (10, iX 0)]) <| x_loop (σ := Nat) (fun k => [(8, .slice (some ⟨sb, so, none⟩) st.length sc), (9, iX ((st.length : Nat) : Int)), (10, iX ((k : Nat) : Int))]) (fun k wv => (k : Int) ≤ ((st.length : Nat) : Int) ∧ Sys w wv [] [] ∧ ∀ i : Nat, i < k → (gs st i).text.size ≤ 600) (fun k => (((st.length : Nat) : Int)).toNat - k) 0 rfl ?_ ?_
 ·exact ⟨by omega, hS, fun i hi => absurd hi (Nat.not_lt_zero i)⟩
 intro k w11 hI12 K13 hL14
 obtain ⟨hk15, hS16, hx17⟩ := hI12
 replace hS16 : Sys w w11 [] [] := hS16
 refine ysr <| yp 1 [] .z <| ye <| ys <| yc (rL ((k : Nat) : Int) ((st.length : Nat) : Int)) (fun hC18 => ?_) fun hC18 => ?_
 ·have hpp := hC18
  refine yk <| ys <| x_block <| ysr <| yp 2 [] (.i ((k : Nat) : Int) (st.length) (.m (s_text (k := k) (Ch.rd hS16.ch hst id) (by omega)) (.m (s_w (k := k) (Ch.rd hS16.ch hst id) (by omega)) (.m (s_h (k := k) (Ch.rd hS16.ch hst id) (by omega)) (.e .z))))) <| yo (yN [.string ByteArray.empty, iX 0, iX 0] 35 fun w19 b20 hb21 hz22 hB23 hc24 => ?_)
  have hS25 : Sys w w19 [(b20, [.string ByteArray.empty, iX 0, iX 0], 35)] [] := hS16.box hc24 hB23 (Nat.le_of_eq hb21.symm)
  refine yo (yS (hS25.blk 0 (b20, [.string ByteArray.empty, iX 0, iX 0], 35) rfl) fun w26 hB27 hc28 => ?_)
  have hS29 : Sys w w26 [(b20, [.string (gs st k).text, iX (gs st k).w, iX (gs st k).h], 35)] [] := hS25.set 0 rfl hc28 (Blk.to hB27 (by kernel_rfl))
  refine ye <| ysr <| yp 4 [] (.l ((hS29.blk 0 (b20, [.string (gs st k).text, iX (gs st k).w, iX (gs st k).h], 35) rfl).c 0) .z) <| ye <| yc (rL 600 (((gs st k).text).size : Int)) (fun hC30 => ?_) fun hC30 => ?_
  ·have hpp := hC30
   refine ysr <| yp 1 [] .z <| ye <| x_ret (rB (rS (then_ret (rB (rS (yR1 (.bool false) ?_))))))
   refine ⟨congrArg Ending.returned (congrArg Value.bool ?_), hS29.ch⟩
   exact (Bool.eq_false_iff.2 fun h => by have := (shortB_iff.1 h).2 k (by omega); omega).symm
  have hpp := hC30
  refine x_skip (nB (nS ?_))
  refine x_region <| yp 2 [] (.q6 (((k : Nat) : Int) + 1) .z) <| yE (fun a ha => hL14 (k + 1) _ ⟨by omega, (Sys.pre (bs' := [(b20, [.string (gs st k).text, iX (gs st k).w, iX (gs st k).h], 35)]) (show Sys w w26 (_ ++ [(b20, [.string (gs st k).text, iX (gs st k).w, iX (gs st k).h], 35)]) _ from hS29)), short_next hx17 (by omega)⟩ (by omega) a (ha.kp [8, 9, 10]))
 have hpp := hC18
 refine x_exit (eS (then_exit (block_exit (nS ?_))))
 refine ysr <| yp 1 [] .z <| ye <| x_ret (yR1 (.bool true) ?_)
 refine ⟨congrArg Ending.returned (congrArg Value.bool ?_), hS16.ch⟩
 exact (shortB_iff.2 ⟨by omega, fun i hi => hx17 i (by omega)⟩).symm
set_option maxHeartbeats 4000000 in
theorem short_nil (a : Option Addr) (sc : Nat) (w : World) (hT : LT w) (h7 : gTop ≤ w.heap.size) : Calls Tryz.prog 12 [.slice a 0 sc].toArray w fun e w' => e = .returned (.bool (shortB [])) ∧ Ch (fun _ => False) w w' := by
 have hS := Sys.start hT h7
 refine yA Tryz.func12 rfl <| ysr <| yp 1 [] .z <| ye <| ys <| ysr <| yp 3 [] .z <| ye <| ycf <| yk <| ys <| ysr <| yp 3 [] .z <| ye <| x_block <| yU 1 (yU1 ?_)
 refine ysr <| yp 1 [] .z <| ye <| ys <| ycf <| x_exit (eS (then_exit (block_exit (nS ?_))))
 refine ysr <| yp 1 [] .z <| ye <| x_ret (yR1 (.bool true) ?_)
 exact ⟨rfl, hS.ch⟩
end Go.Proofs.YteoejhjfbfacdaaGreatDoor.X
namespace Go.Proofs.YteoejhjfbfacdaaGreatDoor.X
open Go Go.RowKit Go.Proofs.YteoejhjfbfacdaaGreatDoor
def wholeB (l : List Cel) : Bool := (List.range l.length).all fun i => if (gc l (i : Int)).rune = 0 then pairedB l ((i : Int) - 1) else celB (gc l (i : Int)) && (!wideB (gc l (i : Int)).rune || pairedB l (i : Int))
def celO (c : Cel) : Prop := styleB c.sty = true ∧ (c.rune = 0 ∨ rightB c.rune = true)
def okS (l : List Cel) : Prop := ∀ c ∈ l, celO c
def okC (l : List Cel) : Prop := okS l ∧ wholeB l = true
theorem gc_get {l : List Cel} {i : Nat} (h : i < l.length) : gc l (i : Int) = l[i] := by simp [gc, List.getD, h]
theorem gc_mem {l : List Cel} {i : Nat} (h : i < l.length) : gc l (i : Int) ∈ l := by rw [gc_get h]; exact List.getElem_mem h
theorem wholeB_iff {l : List Cel} : wholeB l = true ↔ ∀ i : Nat, i < l.length → ((gc l (i : Int)).rune = 0 → pairedB l ((i : Int) - 1) = true) ∧ ((gc l (i : Int)).rune ≠ 0 → celB (gc l (i : Int)) = true ∧ (wideB (gc l (i : Int)).rune = true → pairedB l (i : Int) = true)) := by
 unfold wholeB
 rw [List.all_eq_true]
 refine ⟨fun h i hi => ?_, fun h i hi => ?_⟩
 ·have := h i (List.mem_range.2 hi)
  split at this
  ·rename_i h0; exact ⟨fun _ => this, fun h => absurd h0 h⟩
  ·rename_i h0
   rw [Bool.and_eq_true, Bool.or_eq_true, Bool.not_eq_true'] at this
   exact ⟨fun h => absurd h h0, fun _ => ⟨this.1, fun hw => this.2.elim (fun h => by rw [h] at hw; cases hw) id⟩⟩
 ·have := h i (List.mem_range.1 hi)
  split
  ·rename_i h0; exact this.1 h0
  ·rename_i h0
   rw [Bool.and_eq_true, Bool.or_eq_true, Bool.not_eq_true']
   refine ⟨(this.2 h0).1, ?_⟩
   cases hw : wideB (gc l (i : Int)).rune with
   | false => exact .inl rfl
   | true => exact .inr ((this.2 h0).2 hw)
theorem mendTo_gc (l : List Cel) : ∀ k, k ≤ l.length → ∀ i : Nat, i < l.length → gc (mendTo l k) (i : Int) = if i < k then mendC l (i : Int) else gc l (i : Int)
 | 0, _, i, _ => by rw [if_neg (Nat.not_lt_zero i)]; rfl
 | k + 1, hk, i, hi => by
  have ih := mendTo_gc l k (by omega) i hi
  have hl := mendTo_len l k
  rw [mendTo, gc_get (by rw [List.length_set, hl]; exact hi), List.getElem_set]
  split
  ·rename_i e; subst e; rw [if_pos (by omega)]
  ·rename_i e
   rw [gc_get (by rw [hl]; exact hi)] at ih
   rw [ih]
   by_cases h : i < k
   ·rw [if_pos h, if_pos (by omega)]
   ·rw [if_neg h, if_neg (by omega)]
theorem mend_gc (l : List Cel) {i : Nat} (hi : i < l.length) : gc (mend l) (i : Int) = mendC l (i : Int) := by
 unfold mend
 rw [mendTo_gc l _ (Nat.le_refl _) i hi, if_pos hi]
theorem wide0 : wideB 0 = false := by decide +kernel
theorem wide32 : wideB 32 = false := by decide +kernel
theorem right32 : rightB 32 = true := by decide +kernel
theorem pairedB_iff {l : List Cel} {i : Int} : pairedB l i = true ↔ 0 ≤ i ∧ i + 1 < (l.length : Nat) ∧ wideB (gc l i).rune = true ∧ gc l (i + 1) = ⟨0, (gc l i).sty⟩ := by
 unfold pairedB
 simp only [Bool.and_eq_true, decide_eq_true_eq, beq_iff_eq]
 constructor
 ·rintro ⟨⟨⟨a, b⟩, c⟩, d⟩; exact ⟨a, b, c, d⟩
 ·rintro ⟨a, b, c, d⟩; exact ⟨⟨⟨a, b⟩, c⟩, d⟩
theorem mendC_keep {l : List Cel} {i : Int} (h1 : (gc l i).rune = 0 → pairedB l (i - 1) = true) (h2 : wideB (gc l i).rune = true → pairedB l i = true) : mendC l i = gc l i := by
 unfold mendC
 rw [if_neg]
 intro h
 simp only [Bool.or_eq_true, Bool.and_eq_true, decide_eq_true_eq, Bool.not_eq_true'] at h
 rcases h with h | h
 ·rw [h1 h.1] at h; cases h.2
 ·rw [h2 h.1] at h; cases h.2
theorem mendC_cases (l : List Cel) (i : Int) : mendC l i = ⟨32, (gc l i).sty⟩ ∨ (mendC l i = gc l i ∧ ((gc l i).rune = 0 → pairedB l (i - 1) = true) ∧ (wideB (gc l i).rune = true → pairedB l i = true)) := by
 unfold mendC
 split
 ·exact .inl rfl
 ·rename_i h
  simp only [Bool.or_eq_true, Bool.and_eq_true, decide_eq_true_eq, Bool.not_eq_true', not_or, not_and] at h
  exact .inr ⟨rfl, fun h0 => by simpa using h.1 h0, fun hw => by simpa using h.2 hw⟩
theorem mend_paired {l : List Cel} {i : Int} (h : pairedB l i = true) : pairedB (mend l) i = true := by
 obtain ⟨h0, h1, h2, h3⟩ := pairedB_iff.1 h
 obtain ⟨k, rfl⟩ := Int.eq_ofNat_of_zero_le h0
 have e1 : gc (mend l) ((k : Nat) : Int) = gc l (k : Int) := by
  rw [mend_gc l (by omega)]
  exact mendC_keep (fun h => by rw [h, wide0] at h2; cases h2) (fun _ => h)
 have e2 : gc (mend l) (((k : Nat) : Int) + 1) = gc l ((k : Int) + 1) := by
  have e3 : ((k : Nat) : Int) + 1 = ((k + 1 : Nat) : Int) := by omega
  rw [e3, mend_gc l (by omega), ← e3]
  refine mendC_keep (fun _ => ?_) (fun hw => ?_)
  ·rw [show ((k : Nat) : Int) + 1 - 1 = (k : Int) by omega]; exact h
  ·rw [h3, wide0] at hw; cases hw
 refine pairedB_iff.2 ⟨h0, by rw [mend_len]; exact h1, by rw [e1]; exact h2, by rw [e2, e1]; exact h3⟩
theorem mend_ok {l : List Cel} (h : okS l) : okC (mend l) := by
 have one : ∀ i : Nat, i < l.length → celO (mendC l (i : Int)) := fun i hi => by
  have hc := h _ (gc_mem hi)
  rcases mendC_cases l (i : Int) with e | ⟨e, _⟩
  ·rw [e]; exact ⟨hc.1, .inr right32⟩
  ·rw [e]; exact hc
 refine ⟨fun c hc => ?_, wholeB_iff.2 fun i hi => ?_⟩
 ·obtain ⟨i, hi, rfl⟩ := List.mem_iff_getElem.1 hc
  rw [mend_len] at hi
  have := one i hi
  rwa [← mend_gc l hi, gc_get (by rw [mend_len]; exact hi)] at this
 ·rw [mend_len] at hi
  rw [mend_gc l hi]
  have hc := one i hi
  rcases mendC_cases l (i : Int) with e | ⟨e, h1, h2⟩
  ·rw [e]
   refine ⟨fun h => (by cases h), fun _ => ⟨?_, fun hw => by rw [wide32] at hw; cases hw⟩⟩
   rw [e] at hc
   unfold celB
   rw [hc.1, Bool.and_true]
   exact right32
  ·rw [e] at hc ⊢
   refine ⟨fun h => mend_paired (h1 h), fun h => ⟨?_, fun hw => mend_paired (h2 hw)⟩⟩
   unfold celB
   rw [hc.1, hc.2.resolve_left h]; rfl
theorem okS_sub {l m : List Cel} (h : okS l) (hm : ∀ c ∈ m, c ∈ l) : okS m := fun c hc => h c (hm c hc)
theorem okS_set {l : List Cel} (h : okS l) {i : Nat} {c : Cel} (hc : celO c) : okS (l.set i c) := fun d hd => by
 rcases List.mem_or_eq_of_mem_set hd with hd | rfl
 ·exact h d hd
 ·exact hc
theorem celO_blank {s : Sty} (h : styleB s = true) : celO (blankC s) := by
 refine ⟨?_, .inr right32⟩
 unfold styleB at *
 simp only [Bool.and_eq_true, decide_eq_true_eq] at *
 exact ⟨⟨⟨Int.le_refl _, (by show (0 : Int) ≤ 8; decide)⟩, h.1.2⟩, h.2⟩
theorem sty0_ok : styleB sty0 = true := by decide
theorem okC_blank (n : Nat) {s : Sty} (h : styleB s = true) : okC (List.replicate n (blankC s)) := by
 refine ⟨fun c hc => by rw [List.eq_of_mem_replicate hc]; exact celO_blank h, wholeB_iff.2 fun i hi => ?_⟩
 rw [List.length_replicate] at hi
 have e : gc (List.replicate n (blankC s)) (i : Int) = blankC s := by rw [gc_get (by rw [List.length_replicate]; exact hi)]; simp
 rw [e]
 refine ⟨fun h => (by cases h), fun _ => ⟨?_, fun hw => ?_⟩⟩
 ·unfold celB; rw [(celO_blank h).1, Bool.and_true]; exact right32
 ·have hw : wideB 32 = true := hw
  rw [wide32] at hw; cases hw
theorem putL_ok {W : Int} {l : List Cel} {x : Int} {c : Cel} (h : okS l) (hc : celB c = true) : okS (putL W l x c) := by
 unfold celB at hc
 rw [Bool.and_eq_true] at hc
 unfold putL
 split
 ·exact okS_set (okS_set h ⟨hc.2, .inr hc.1⟩) ⟨hc.2, .inl rfl⟩
 ·exact okS_set h ⟨hc.2, .inr hc.1⟩
theorem fillL_ok {l : List Cel} {a : Int} {c : Cel} (h : okS l) (hc : celO c) : ∀ k, okS (fillL l a c k)
 | 0 => h
 | k + 1 => okS_set (fillL_ok h hc k) hc
theorem openL_ok {l : List Cel} {x n : Int} (h : okS l) : okS (openL l x n) := okS_sub h fun c hc => by
 unfold openL at hc
 rcases List.mem_append.1 hc with hc | hc
 ·rcases List.mem_append.1 hc with hc | hc
  ·exact List.mem_of_mem_take hc
  ·exact List.mem_of_mem_drop (List.mem_of_mem_take hc)
 ·exact List.mem_of_mem_drop hc
theorem shutL_ok {l : List Cel} {x n : Int} (h : okS l) : okS (shutL l x n) := okS_sub h fun c hc => by
 unfold shutL at hc
 rcases List.mem_append.1 hc with hc | hc
 ·rcases List.mem_append.1 hc with hc | hc
  ·exact List.mem_of_mem_take hc
  ·exact List.mem_of_mem_drop (List.mem_of_mem_take hc)
 ·exact List.mem_of_mem_drop hc
theorem gc_app {l m : List Cel} {i : Nat} (h : i < l.length) : gc (l ++ m) (i : Int) = gc l (i : Int) := by
 rw [gc_get (by rw [List.length_append]; omega), gc_get h, List.getElem_append_left h]
theorem paired_app {l m : List Cel} {i : Int} (h : pairedB l i = true) : pairedB (l ++ m) i = true := by
 obtain ⟨h0, h1, h2, h3⟩ := pairedB_iff.1 h
 obtain ⟨k, rfl⟩ := Int.eq_ofNat_of_zero_le h0
 have e : ((k : Nat) : Int) + 1 = ((k + 1 : Nat) : Int) := by omega
 refine pairedB_iff.2 ⟨h0, by rw [List.length_append]; omega, by rw [gc_app (by omega)]; exact h2, ?_⟩
 rw [e, gc_app (by omega), gc_app (by omega), ← e]; exact h3
theorem okC_app {l : List Cel} (h : okC l) (n : Nat) : okC (l ++ List.replicate n (blankC sty0)) := by
 refine ⟨fun c hc => (List.mem_append.1 hc).elim (h.1 c) fun hc => by rw [List.eq_of_mem_replicate hc]; exact celO_blank sty0_ok, wholeB_iff.2 fun i hi => ?_⟩
 by_cases hl : i < l.length
 ·have := wholeB_iff.1 h.2 i hl
  rw [gc_app hl]
  exact ⟨fun h0 => paired_app (this.1 h0), fun h0 => ⟨(this.2 h0).1, fun hw => paired_app ((this.2 h0).2 hw)⟩⟩
 ·have e : gc (l ++ List.replicate n (blankC sty0)) (i : Int) = blankC sty0 := by
   rw [gc_get hi, List.getElem_append_right (by omega)]; simp
  rw [e]
  refine ⟨fun h => (by cases h), fun _ => ⟨?_, fun hw => ?_⟩⟩
  ·unfold celB; rw [(celO_blank sty0_ok).1, Bool.and_true]; exact right32
  ·have hw : wideB 32 = true := hw
   rw [wide32] at hw; cases hw
theorem fitL_ok {l : List Cel} (h : okC l) (w : Int) : okC (fitL l w) := by
 unfold fitL
 split
 ·exact mend_ok (okS_sub h.1 fun c hc => List.mem_of_mem_take hc)
 ·exact okC_app h _
def okG (G : Gr) : Prop := ∀ l ∈ G.lines, okC l
theorem okG_line {G : Gr} (h : okG G) (y : Int) : okS (gl G y) := by
 unfold gl
 rw [List.getD_eq_getElem?_getD]
 cases e : G.lines[y.toNat]? with
 | none => intro c hc; cases hc
 | some l => exact (h l (List.mem_of_getElem? e)).1
theorem okG_set {G : Gr} (h : okG G) (y : Int) {l : List Cel} (hl : okC l) : okG (setG G y l) := fun m hm => by
 rcases List.mem_or_eq_of_mem_set hm with hm | rfl
 ·exact h m hm
 ·exact hl
theorem okG_put {G : Gr} (h : okG G) (x y : Int) (c : Cel) : okG (putG G x y c) := by
 unfold putG
 split
 ·rename_i hc; exact okG_set h y (mend_ok (putL_ok (okG_line h y) hc.2))
 ·exact h
theorem clearL_ok {W : Int} {l : List Cel} {a b : Int} {s : Sty} (h : okS l) (hs : styleB s = true) : okC (clearL W l a b s) := mend_ok (fillL_ok h (celO_blank hs) _)
theorem okG_clear {G : Gr} (h : okG G) (y a b : Int) {s : Sty} (hs : styleB s = true) : okG (clearG G y a b s) := by
 unfold clearG
 split
 ·exact okG_set h y (clearL_ok (okG_line h y) hs)
 ·exact h
theorem okG_set2 {G : Gr} (h : okG G) {x y : Int} (ht : thereB G x y = true) {l : List Cel} (hl : okS l) (a b : Int) {s : Sty} (hs : styleB s = true) : okG (clearG (setG G y l) y a b s) := by
 obtain ⟨⟨h1, h2⟩, h3, h4⟩ := there_iff.1 ht
 unfold clearG
 have ht' : thereB (setG G y l) 0 y = true := there_iff.2 ⟨⟨Int.le_refl _, h2⟩, (by show (0 : Int) < G.w; omega), h4⟩
 rw [if_pos ht']
 intro m hm
 have hm : m ∈ (G.lines.set y.toNat l).set y.toNat (clearL G.w (gl (setG G y l) y) a b s) := hm
 rw [List.set_set] at hm
 rcases List.mem_or_eq_of_mem_set hm with hm | rfl
 ·exact h m hm
 ·refine clearL_ok ?_ hs
  unfold gl setG
  rw [List.getD_eq_getElem?_getD]
  cases e : (G.lines.set y.toNat l)[y.toNat]? with
  | none => intro c hc; cases hc
  | some q =>
   rw [List.getElem?_set] at e
   simp only [if_true] at e
   split at e
   ·obtain rfl := Option.some.inj e; exact hl
   ·cases e
theorem up1_mem {L : List (List Cel)} {t e : Nat} {b l : List Cel} (h : l ∈ up1 L t e b) : l = b ∨ l ∈ L := by
 unfold up1 at h
 simp only [List.mem_append, List.mem_singleton] at h
 rcases h with ((h | h) | h) | h
 ·exact .inr (List.mem_of_mem_take h)
 ·exact .inr (List.mem_of_mem_drop (List.mem_of_mem_take h))
 ·exact .inl h
 ·exact .inr (List.mem_of_mem_drop h)
theorem down1_mem {L : List (List Cel)} {t e : Nat} {b l : List Cel} (h : l ∈ down1 L t e b) : l = b ∨ l ∈ L := by
 unfold down1 at h
 simp only [List.mem_append, List.mem_singleton] at h
 rcases h with ((h | h) | h) | h
 ·exact .inr (List.mem_of_mem_take h)
 ·exact .inl h
 ·exact .inr (List.mem_of_mem_drop (List.mem_of_mem_take h))
 ·exact .inr (List.mem_of_mem_drop h)
theorem upN_mem {t e : Nat} {b l : List Cel} {L : List (List Cel)} : ∀ k, l ∈ upN t e b k L → l = b ∨ l ∈ L
 | 0, h => .inr h
 | k + 1, h => (up1_mem h).elim .inl (upN_mem k)
theorem downN_mem {t e : Nat} {b l : List Cel} {L : List (List Cel)} : ∀ k, l ∈ downN t e b k L → l = b ∨ l ∈ L
 | 0, h => .inr h
 | k + 1, h => (down1_mem h).elim .inl (downN_mem k)
theorem okG_up {G : Gr} (h : okG G) (p1 p2 n : Int) {s : Sty} (hs : styleB s = true) : okG (upG G p1 p2 n s) := fun l hl => (upN_mem _ hl).elim (fun e => e ▸ okC_blank _ hs) (h l)
theorem okG_down {G : Gr} (h : okG G) (p1 p2 n : Int) {s : Sty} (hs : styleB s = true) : okG (downG G p1 p2 n s) := fun l hl => (downN_mem _ hl).elim (fun e => e ▸ okC_blank _ hs) (h l)
theorem okG_new (w h : Int) : okG (newG w h) := fun l hl => by rw [List.eq_of_mem_replicate hl]; exact okC_blank _ sty0_ok
theorem okG_resize {G : Gr} (h : okG G) (p1 p2 p3 : Int) : okG (resizeG G p1 p2 p3) := fun l hl => by
 rcases List.mem_append.1 hl with hl | hl
 ·unfold fitsOf at hl
  obtain ⟨m, hm, rfl⟩ := List.mem_map.1 hl
  exact fitL_ok (h m (List.mem_of_mem_drop (List.mem_of_mem_take hm))) _
 ·rw [List.eq_of_mem_replicate hl]; exact okC_blank _ sty0_ok
theorem keepB_mem {l m : List (List Cel)} {P : List Cel → Prop} (h1 : ∀ x ∈ l, P x) (h2 : ∀ x ∈ m, P x) : ∀ x ∈ keepB l m, P x := fun x hx => by
 have := List.mem_of_mem_drop hx
 rcases List.mem_append.1 this with h | h
 ·exact h1 x h
 ·exact h2 x h
end Go.Proofs.YteoejhjfbfacdaaGreatDoor.X
namespace Go.Proofs.YteoejhjfbfacdaaGreatDoor.X
open Go Go.RowKit Go.Proofs.YteoejhjfbfacdaaGreatDoor
structure okD (G : Gr) : Prop where
 ok : okG G
 len : G.lines.length = G.h.toNat
 wid : ∀ l ∈ G.lines, l.length = G.w.toNat
theorem okD.line {G : Gr} (h : okD G) {y : Int} (hy : 0 ≤ y ∧ y < G.h) : (gl G y).length = G.w.toNat := by
 have hl := h.len
 have hy' : y.toNat < G.lines.length := by omega
 unfold gl
 rw [List.getD_eq_getElem?_getD, List.getElem?_eq_getElem hy']
 exact h.wid _ (List.getElem_mem hy')
theorem okD.set {G : Gr} (h : okD G) (y : Int) {l : List Cel} (ho : okG (setG G y l)) (hl : l.length = G.w.toNat) : okD (setG G y l) :=
 ⟨ho, by show (G.lines.set y.toNat l).length = _; rw [List.length_set]; exact h.len, fun m hm => by
  rcases List.mem_or_eq_of_mem_set hm with hm | rfl
  ·exact h.wid m hm
  ·exact hl⟩
theorem okD_put {G : Gr} (h : okD G) (x y : Int) (c : Cel) : okD (putG G x y c) := by
 have ho := okG_put h.ok x y c
 unfold putG at ho ⊢
 split
 ·rename_i hc
  rw [if_pos hc] at ho
  obtain ⟨⟨_, h2⟩, _, h4⟩ := there_iff.1 hc.1
  refine h.set y ho ?_
  rw [mend_len]
  unfold putL
  split <;> simp only [List.length_set] <;> exact h.line ⟨h2, h4⟩
 ·exact h
theorem okD_clear {G : Gr} (h : okD G) (y a b : Int) {s : Sty} (hs : styleB s = true) : okD (clearG G y a b s) := by
 have ho := okG_clear h.ok y a b hs
 unfold clearG at ho ⊢
 split
 ·rename_i hc
  rw [if_pos hc] at ho
  obtain ⟨⟨_, h2⟩, _, h4⟩ := there_iff.1 hc
  refine h.set y ho ?_
  unfold clearL
  rw [mend_len, fillL_len]
  exact h.line ⟨h2, h4⟩
 ·exact h
theorem okD_set2 {G : Gr} (h : okD G) {x y : Int} (ht : thereB G x y = true) {l : List Cel} (hl : okS l) (hn : l.length = G.w.toNat) (a b : Int) {s : Sty} (hs : styleB s = true) : okD (clearG (setG G y l) y a b s) := by
 have ho := okG_set2 h.ok ht hl a b hs
 obtain ⟨⟨h1, h2⟩, h3, h4⟩ := there_iff.1 ht
 have hw := clearG_w (setG G y l) y a b s
 refine ⟨ho, ?_, fun m hm => ?_⟩
 ·rw [hw.2]
  unfold clearG
  split
  ·show ((G.lines.set y.toNat l).set y.toNat _).length = _
   rw [List.length_set, List.length_set]; exact h.len
  ·show (G.lines.set y.toNat l).length = _
   rw [List.length_set]; exact h.len
 ·rw [hw.1]
  have hy' : y.toNat < G.lines.length := by have := h.len; omega
  have hg : (gl (setG G y l) y).length = G.w.toNat := by
   unfold gl setG
   rw [List.getD_eq_getElem?_getD, List.getElem?_set_self hy']
   exact hn
  unfold clearG at hm
  split at hm
  ·have hm : m ∈ (G.lines.set y.toNat l).set y.toNat (clearL G.w (gl (setG G y l) y) a b s) := hm
   rw [List.set_set] at hm
   rcases List.mem_or_eq_of_mem_set hm with hm | rfl
   ·exact h.wid m hm
   ·unfold clearL; rw [mend_len, fillL_len]; exact hg
  ·rcases List.mem_or_eq_of_mem_set hm with hm | rfl
   ·exact h.wid m hm
   ·exact hn
theorem okD_open {G : Gr} (h : okD G) (x y n : Int) {s : Sty} (hs : styleB s = true) : okD (openG G x y n s) := by
 unfold openG
 split
 ·rename_i ht
  obtain ⟨⟨h1, h2⟩, h3, h4⟩ := there_iff.1 ht
  have hl := h.line ⟨h2, h4⟩
  refine okD_set2 h ht (openL_ok (okG_line h.ok y)) ?_ _ _ hs
  unfold openL
  simp only [List.length_append, List.length_take, List.length_drop, hl]
  omega
 ·exact h
theorem okD_shut {G : Gr} (h : okD G) (x y n : Int) {s : Sty} (hs : styleB s = true) : okD (shutG G x y n s) := by
 unfold shutG
 split
 ·rename_i ht
  obtain ⟨⟨h1, h2⟩, h3, h4⟩ := there_iff.1 ht
  have hl := h.line ⟨h2, h4⟩
  refine okD_set2 h ht (shutL_ok (okG_line h.ok y)) ?_ _ _ hs
  unfold shutL
  simp only [List.length_append, List.length_take, List.length_drop, hl]
  omega
 ·exact h
theorem upN_len {t e : Nat} {b : List Cel} {L : List (List Cel)} : ∀ k, k = 0 ∨ (t < e ∧ e ≤ L.length) → (upN t e b k L).length = L.length
 | 0, _ => rfl
 | k + 1, h => by
  obtain ⟨h1, h2⟩ := h.resolve_left (by omega)
  have ih := upN_len (b := b) k (.inr ⟨h1, h2⟩)
  rw [upN, up1_len h1 (by omega), ih]
theorem downN_len {t e : Nat} {b : List Cel} {L : List (List Cel)} : ∀ k, k = 0 ∨ (t < e ∧ e ≤ L.length) → (downN t e b k L).length = L.length
 | 0, _ => rfl
 | k + 1, h => by
  obtain ⟨h1, h2⟩ := h.resolve_left (by omega)
  have ih := downN_len (b := b) k (.inr ⟨h1, h2⟩)
  rw [downN, down1_len h1 (by omega), ih]
theorem cnt_bd {G : Gr} (h : okD G) (p1 p2 n : Int) : (cntI G p1 p2 n).toNat = 0 ∨ ((topI G p1).toNat < (topI G p2).toNat ∧ (topI G p2).toNat ≤ G.lines.length) := by
 rw [h.len]
 unfold cntI topI
 omega
theorem okD_up {G : Gr} (h : okD G) (p1 p2 n : Int) {s : Sty} (hs : styleB s = true) : okD (upG G p1 p2 n s) :=
 ⟨okG_up h.ok p1 p2 n hs, (upN_len _ (cnt_bd h p1 p2 n)).trans h.len, fun l hl => (upN_mem _ hl).elim (fun e => by rw [e, List.length_replicate]; rfl) (h.wid l)⟩
theorem okD_down {G : Gr} (h : okD G) (p1 p2 n : Int) {s : Sty} (hs : styleB s = true) : okD (downG G p1 p2 n s) :=
 ⟨okG_down h.ok p1 p2 n hs, (downN_len _ (cnt_bd h p1 p2 n)).trans h.len, fun l hl => (downN_mem _ hl).elim (fun e => by rw [e, List.length_replicate]; rfl) (h.wid l)⟩
theorem outsN_mem {t e : Nat} {b l : List Cel} {L : List (List Cel)} : ∀ k, (k = 0 ∨ (t < e ∧ e ≤ L.length)) → l ∈ outsN t e b k L → l = b ∨ l ∈ L
 | 0, _, h => by cases h
 | k + 1, hk, h => by
  obtain ⟨h1, h2⟩ := hk.resolve_left (by omega)
  rw [outsN] at h
  rcases List.mem_append.1 h with h | h
  ·exact outsN_mem k (.inr ⟨h1, h2⟩) h
  ·have hlen := upN_len (b := b) k (.inr ⟨h1, h2⟩)
   rw [List.mem_singleton.1 h, List.getD_eq_getElem?_getD, List.getElem?_eq_getElem (by omega)]
   exact upN_mem k (List.getElem_mem _)
def okB (l : List Cel) : Prop := okC l ∧ l ≠ [] ∧ l.length ≤ 60
theorem okB_of {G : Gr} (h : okD G) (hw : 1 ≤ G.w ∧ G.w ≤ 60) {l : List Cel} (hl : l ∈ G.lines) : okB l := ⟨h.ok l hl, fun e => by have := h.wid l hl; rw [e] at this; simp at this; omega, by have := h.wid l hl; omega⟩
theorem okD_out {G : Gr} (h : okD G) (hw : 1 ≤ G.w ∧ G.w ≤ 60) (p1 p2 n : Int) {s : Sty} (hs : styleB s = true) : ∀ l ∈ outG G p1 p2 n s, okB l := fun l hl => by
 rcases outsN_mem _ (cnt_bd h p1 p2 n) hl with rfl | hl
 ·exact ⟨okC_blank _ hs, fun e => by have := congrArg List.length e; rw [List.length_replicate] at this; simp at this; omega, by rw [List.length_replicate]; omega⟩
 ·exact okB_of h hw hl
theorem okD_new (w h : Int) : okD (newG w h) := ⟨okG_new w h, by show (List.replicate _ _).length = _; rw [List.length_replicate]; rfl, fun l hl => by rw [List.eq_of_mem_replicate hl, List.length_replicate]; rfl⟩
theorem okD_resize {G : Gr} (h : okD G) (hh : 0 ≤ G.h) (p1 p2 p3 : Int) : okD (resizeG G p1 p2 p3) := by
 refine ⟨okG_resize h.ok p1 p2 p3, ?_, fun l hl => ?_⟩
 ·show (fitsOf _ _ _ _ ++ List.replicate _ _).length = (sideI p2).toNat
  unfold fitsOf
  simp only [List.length_append, List.length_map, List.length_take, List.length_drop, List.length_replicate, h.len]
  omega
 ·show l.length = (sideI p1).toNat
  have h1 : 1 ≤ sideI p1 := by unfold sideI; omega
  rcases List.mem_append.1 hl with hl | hl
  ·unfold fitsOf at hl
   obtain ⟨m, _, rfl⟩ := List.mem_map.1 hl
   rw [fitL_len (by omega)]; omega
  ·rw [List.eq_of_mem_replicate hl, List.length_replicate]
theorem okD_clears {G : Gr} (h : okD G) : ∀ k, okD (clearsG G k)
 | 0 => h
 | k + 1 => okD_clear (okD_clears h k) _ _ _ sty0_ok
structure Okt (q : Bool) (W H : Int) (T : TS) : Prop where
 lim : Lim W H T
 g : okD T.grid
 o : okD T.other
 b : ∀ l ∈ T.back, okB l
 cs : styleB T.cursor.sty = true
 cl : q = true → T.cursor.late = true → T.cursor.x = W - 1
 ss : styleB T.saved.sty = true
 sl : T.saved.late = true → T.saved.x = W - 1
 ay : styleB T.away.sty = true
 al : T.away.late = true → T.away.x = W - 1
 ti : T.title.size ≤ 40
section
variable {q : Bool} {W H : Int} {T : TS}
theorem Okt.half (h : Okt q W H T) : Okt false W H T := { h with cl := fun e => by cases e }
theorem Okt.cur (h : Okt q W H T) {p : Bool} {c : Cur} (hc : (0 ≤ c.x ∧ c.x < W) ∧ 0 ≤ c.y ∧ c.y < H) (hs : styleB c.sty = true) (hl : p = true → c.late = true → c.x = W - 1) : Okt p W H { T with cursor := c } := { h with lim := h.lim.cursor hc, cs := hs, cl := hl }
theorem Okt.grid (h : Okt q W H T) {G : Gr} (hG : G.w = T.grid.w ∧ G.h = T.grid.h) (hd : okD G) : Okt q W H { T with grid := G } := { h with lim := h.lim.grid hG, g := hd }
theorem Okt.flags (h : Okt q W H T) {T' : TS} (hl : Lim W H T') (e1 : T'.grid = T.grid) (e2 : T'.other = T.other) (e3 : T'.cursor = T.cursor) (e4 : T'.saved = T.saved) (e5 : T'.away = T.away) (e8 : T'.back = T.back) (e9 : T'.title = T.title) : Okt q W H T' :=
 ⟨hl, by rw [e1]; exact h.g, by rw [e2]; exact h.o, by rw [e8]; exact h.b, by rw [e3]; exact h.cs, by rw [e3]; exact h.cl, by rw [e4]; exact h.ss, by rw [e4]; exact h.sl, by rw [e5]; exact h.ay, by rw [e5]; exact h.al, by rw [e9]; exact h.ti⟩
theorem ok_move (h : Okt q W H T) {p : Bool} (x y : Int) : Okt p W H (moveT T x y) :=
 {h with lim := lim_move h.lim x y, cs := h.cs, cl := fun _ e => by cases e }
theorem ok_home (h : Okt q W H T) {p : Bool} (x y : Int) : Okt p W H (homeT T x y) := by
 unfold homeT
 split <;> exact ok_move h _ _
theorem ok_scroll (h : Okt q W H T) (n : Int) : Okt q W H (scrollT T n) := by
 have hl := lim_scroll h.lim n
 have h1 := h.lim.g1
 have h2 := h.lim.wb
 unfold scrollT at hl ⊢
 split
 ·rename_i hc
  rw [if_pos hc] at hl
  exact { h with lim := hl, g := okD_up h.g _ _ _ h.cs, b := keepB_mem h.b (okD_out h.g ⟨by omega, by omega⟩ _ _ _ h.cs) }
 ·exact h.grid ⟨rfl, rfl⟩ (okD_up h.g _ _ _ h.cs)
theorem ok_down (h : Okt q W H T) : Okt q W H (downT T) := by
 have h1 := h.lim.g1
 have h2 := h.lim.cu
 unfold downT
 split
 ·exact ok_scroll h 1
 ·split
  ·exact h.cur ⟨h2.1, by dsimp only; omega, by dsimp only; omega⟩ h.cs h.cl
  ·exact h
theorem ok_up (h : Okt q W H T) : Okt q W H (upT T) := by
 have h2 := h.lim.cu
 unfold upT
 split
 ·exact h.grid (G := downG T.grid T.top T.bot 1 T.cursor.sty) ⟨rfl, rfl⟩ (okD_down h.g _ _ _ h.cs)
 ·split
  ·exact h.cur ⟨h2.1, by dsimp only; omega, by dsimp only; omega⟩ h.cs h.cl
  ·exact h
theorem ok_late (h : Okt q W H T) : Okt true W H (lateT T false) := h.cur h.lim.cu h.cs (fun _ e => by cases e)
theorem ok_print (h : Okt q W H T) (r : Int) : Okt true W H (printT T r) := by
 have h1 := h.lim.g1
 have h3 := h.lim.wb
 have hn := signT_cols T r (by omega)
 have hA : Okt false W H (printA T) := by
  have h2 := h.lim.cu
  unfold printA
  split
  ·exact ok_down (h.cur ⟨⟨by dsimp only; omega, by dsimp only; omega⟩, h2.2⟩ h.cs (fun e => by cases e))
  ·exact h.half
 have hB : Okt false W H (printB (printA T) (signT T r).2) := by
  have h1 := hA.lim.g1
  have h2 := hA.lim.cu
  unfold printB
  split
  ·split
   ·exact ok_down (hA.cur ⟨⟨by dsimp only; omega, by dsimp only; omega⟩, h2.2⟩ hA.cs (fun e => by cases e))
   ·exact hA.cur ⟨⟨by dsimp only; omega, by dsimp only; omega⟩, h2.2⟩ hA.cs (fun e => by cases e)
  ·exact hA
 have hC : Okt false W H (printC (printB (printA T) (signT T r).2) (signT T r).2) := by
  unfold printC
  split
  ·exact hB.grid (openG_w _ _ _ _ _) (okD_open hB.g _ _ _ hB.cs)
  ·exact hB
 have hD : Okt false W H (printD (printC (printB (printA T) (signT T r).2) (signT T r).2) (signT T r).1) := hC.grid (putG_w _ _ _ _) (okD_put hC.g _ _ _)
 have hlim := lim_print h.lim r
 unfold printT at hlim ⊢
 generalize (printD (printC (printB (printA T) (signT T r).2) (signT T r).2) (signT T r).1) = U at hD hlim
 have hg := hD.lim.g1
 unfold printE at hlim ⊢
 split
 ·rename_i hc
  rw [if_pos hc] at hlim
  exact { hD with lim := hlim, cs := hD.cs, cl := fun _ _ => by show U.grid.w - 1 = W - 1; omega }
 ·rename_i hc
  rw [if_neg hc] at hlim
  exact { hD with lim := hlim, cs := hD.cs, cl := fun _ e => by cases e }
theorem ok_exec (h : Okt true W H T) (c : Int) : Okt true W H (execT T c) := by
 have hl := lim_exec h.lim c
 unfold execT at hl ⊢
 repeat' split
 all_goals first | exact ok_move h _ _ | exact ok_late (ok_down h) | exact { h with lim := h.lim.flags rfl rfl rfl rfl rfl rfl rfl rfl rfl } | exact h
theorem ok_tell (h : Okt true W H T) (c k : Int) : Okt true W H (tellT T c k) := by
 refine h.flags (lim_tell h.lim c k) ?_ ?_ ?_ ?_ ?_ ?_ ?_
 all_goals
  unfold tellT replyT
  repeat' split
  all_goals rfl
theorem ok_clear (h : Okt true W H T) (y a b : Int) {s : Sty} (hs : styleB s = true) : Okt true W H (clearT T y a b s) := h.grid (clearG_w _ _ _ _ _) (okD_clear h.g _ _ _ hs)
theorem ok_erase1 (h : Okt true W H T) (k x y : Int) {s : Sty} (hs : styleB s = true) (i : Int) : Okt true W H (erase1 T k x y s i) := by
 unfold erase1
 repeat' split
 all_goals first | exact ok_clear h _ _ _ hs | exact h
theorem ok_eraseN (h : Okt true W H T) (k x y : Int) {s : Sty} (hs : styleB s = true) (a : Int) (j : Nat) : Okt true W H (eraseN T k x y s a j) := by
 induction j with
 | zero => exact h
 | succ j ih => exact ok_erase1 ih _ _ _ hs _
theorem ok_erase (h : Okt true W H T) (k a b : Int) : Okt true W H (eraseT T k a b) := ok_eraseN h _ _ _ h.cs _ _
theorem ite_ok {c : Prop} [Decidable c] {a b : TS} (h1 : c → Okt true W H a) (h2 : ¬ c → Okt true W H b) : Okt true W H (if c then a else b) := by
 split
 ·exact h1 ‹_›
 ·exact h2 ‹_›
theorem ok_edit (h : Okt true W H T) (c n : Int) (l : List Int) : Okt true W H (editT T c n l) := by
 have hd : ∀ a b n, Okt true W H { T with grid := downG T.grid a b n T.cursor.sty } := fun a b n => h.grid (G := downG T.grid a b n T.cursor.sty) ⟨rfl, rfl⟩ (okD_down h.g _ _ _ h.cs)
 have hu : ∀ a b n, Okt true W H { T with grid := upG T.grid a b n T.cursor.sty } := fun a b n => h.grid (G := upG T.grid a b n T.cursor.sty) ⟨rfl, rfl⟩ (okD_up h.g _ _ _ h.cs)
 unfold editT
 refine ite_ok (fun _ => h.grid (openG_w _ _ _ _ _) (okD_open h.g _ _ _ h.cs)) fun _ => ?_
 refine ite_ok (fun _ => h.grid (shutG_w _ _ _ _ _) (okD_shut h.g _ _ _ h.cs)) fun _ => ?_
 refine ite_ok (fun _ => h.grid (clearG_w _ _ _ _ _) (okD_clear h.g _ _ _ h.cs)) fun _ => ?_
 refine ite_ok (fun _ => ok_erase h _ _ _) fun _ => ?_
 refine ite_ok (fun _ => ite_ok (fun _ => ok_erase (T := { T with back := [] }) { h with lim := { h.lim with bk := by simp }, b := fun l hl => by cases hl } _ _ _) fun _ => ok_erase h _ _ _) fun _ => ?_
 refine ite_ok (fun _ => ite_ok (fun _ => hd _ _ _) fun _ => h) fun _ => ?_
 refine ite_ok (fun _ => ite_ok (fun _ => hu _ _ _) fun _ => h) fun _ => ?_
 refine ite_ok (fun _ => ok_scroll h _) fun _ => ?_
 refine ite_ok (fun _ => hd _ _ _) fun _ => ?_
 exact ok_tell h _ _
theorem changeS_ok {s : Sty} (h : styleB s = true) (n : Int) : styleB (changeS s n) = true := by
 unfold styleB at *
 simp only [Bool.and_eq_true, decide_eq_true_eq] at *
 unfold changeS
 repeat' split
 all_goals first | exact h | (show (((_ : Prop) ∧ _) ∧ _) ∧ _; dsimp only [sty0]; omega)
theorem changesS_ok {s : Sty} (h : styleB s = true) (l : List Int) : styleB (changesS s l) = true := by
 unfold changesS
 generalize (if l = [] then [0] else l) = m
 induction m generalizing s with
 | nil => exact h
 | cons n m ih => exact ih (changeS_ok h n)
theorem ok_plain (h : Okt true W H T) (c : Int) (l : List Int) : Okt true W H (plainT T c l) := by
 have h1 := h.lim.g1
 have hp := paramI_pos l 0
 unfold plainT
 refine ite_ok (fun _ => ok_move h _ _) fun _ => ?_
 refine ite_ok (fun _ => ok_move h _ _) fun _ => ?_
 refine ite_ok (fun _ => ok_move h _ _) fun _ => ?_
 refine ite_ok (fun _ => ok_move h _ _) fun _ => ?_
 refine ite_ok (fun _ => ok_move h _ _) fun _ => ?_
 refine ite_ok (fun _ => ok_home h _ _) fun _ => ?_
 refine ite_ok (fun _ => ok_home h _ _) fun _ => ?_
 refine ite_ok (fun _ => h.cur h.lim.cu (changesS_ok h.cs l) h.cl) fun _ => ?_
 refine ite_ok (fun _ => ite_ok (fun h5 => ok_home (q := true) (h.flags (lim_region h.lim ⟨hp, h5, ?_⟩) rfl rfl rfl rfl rfl rfl rfl) _ _) fun _ => h) fun _ => ok_edit h _ _ _
 split <;> omega
theorem ok_turn (h : Okt true W H T) (b : Bool) : Okt true W H (turnT T b) := by
 have hl := lim_turn h.lim b
 unfold turnT at hl ⊢
 split
 ·exact h
 ·rename_i hc
  rw [if_neg hc] at hl
  split
  ·rename_i hb
   rw [if_pos hb] at hl
   exact ⟨hl, okD_clears h.o _, h.g, h.b, h.cs, h.cl, h.ss, h.sl, h.cs, h.cl rfl, h.ti⟩
  ·rename_i hb
   rw [if_neg hb] at hl
   exact ⟨hl, h.o, h.g, h.b, h.ay, fun _ => h.al, h.ss, h.sl, h.cs, h.cl rfl, h.ti⟩
theorem ok_mode (h : Okt true W H T) (n : Int) (b : Bool) : Okt true W H (modeT T n b) := by
 unfold modeT
 split
 ·exact ok_home (q := true) (T := { T with origin := b }) (h.flags (h.lim.flags rfl rfl rfl rfl rfl rfl rfl rfl rfl) rfl rfl rfl rfl rfl rfl rfl) _ _
 split
 ·exact { h with lim := { h.lim.cursor (c := ⟨T.cursor.x, T.cursor.y, T.cursor.late && b, T.cursor.sty⟩) h.lim.cu with }, cs := h.cs, cl := fun e e2 => h.cl e (by have e2 : (T.cursor.late && b) = true := e2; rw [Bool.and_eq_true] at e2; exact e2.1) }
 split
 ·exact h.flags (h.lim.flags rfl rfl rfl rfl rfl rfl rfl rfl rfl) rfl rfl rfl rfl rfl rfl rfl
 split
 ·exact ok_turn h b
 ·exact h
theorem ok_modes (h : Okt true W H T) (l : List Int) (b : Bool) : Okt true W H (l.foldl (fun T n => modeT T n b) T) := by
 induction l generalizing T with
 | nil => exact h
 | cons n l ih => exact ih (ok_mode h n b)
theorem ok_csi (h : Okt true W H T) (a : Ac) : Okt true W H (csiT T a) := by
 unfold csiT
 split
 ·exact ok_plain h _ _
 split
 ·exact ok_modes h _ _
 ·exact h
theorem ok_start (T : TS) (w h : Int) (hr : T.reply.size ≤ 400) : Okt true (sideI w) (sideI h) (startT T w h) :=
 ⟨lim_start T w h hr, okD_new w h, okD_new w h, fun l hl => (by cases hl), sty0_ok, fun _ e => (by cases e), sty0_ok, fun e => (by cases e), sty0_ok, fun e => (by cases e), Nat.zero_le _⟩
theorem ok_esc (h : Okt true W H T) (a : Ac) : Okt true W H (escT T a) := by
 have hf : ∀ {T' : TS}, Lim W H T' → T'.grid = T.grid → T'.other = T.other → T'.cursor = T.cursor → T'.saved = T.saved → T'.away = T.away → T'.back = T.back → T'.title = T.title → Okt true W H T' := fun hl => h.flags hl
 unfold escT
 refine ite_ok (fun _ => ite_ok (fun _ => hf (h.lim.flags rfl rfl rfl rfl rfl rfl rfl rfl rfl) rfl rfl rfl rfl rfl rfl rfl) fun _ => h) fun _ => ?_
 refine ite_ok (fun _ => ite_ok (fun _ => hf (h.lim.flags rfl rfl rfl rfl rfl rfl rfl rfl rfl) rfl rfl rfl rfl rfl rfl rfl) fun _ => h) fun _ => ?_
 refine ite_ok (fun _ => h) fun _ => ?_
 refine ite_ok (fun _ => { h with lim := { h.lim with sa := h.lim.cu }, ss := h.cs, sl := h.cl rfl }) fun _ => ?_
 refine ite_ok (fun _ => { h with lim := { h.lim with cu := h.lim.sa }, cs := h.ss, cl := fun _ => h.sl }) fun _ => ?_
 refine ite_ok (fun _ => ok_late (ok_down h)) fun _ => ?_
 refine ite_ok (fun _ => ok_move (ok_down h) _ _) fun _ => ?_
 refine ite_ok (fun _ => ok_late (ok_up h)) fun _ => ?_
 refine ite_ok (fun _ => hf (h.lim.flags rfl rfl rfl rfl rfl rfl rfl rfl rfl) rfl rfl rfl rfl rfl rfl rfl) fun _ => ?_
 refine ite_ok (fun _ => ?_) fun _ => h
 have := ok_start T T.grid.w T.grid.h h.lim.rp
 rw [h.lim.g1.1, h.lim.g1.2, sideI_id h.lim.wb, sideI_id h.lim.hb] at this
 rw [h.lim.g1.1, h.lim.g1.2]; exact this
theorem ok_osc (h : Okt true W H T) {a : Ac} (ha : AcOk a) : Okt true W H (oscT T a) := by
 unfold oscT
 split
 ·exact { h with lim := h.lim.flags rfl rfl rfl rfl rfl rfl rfl rfl rfl, ti := by show (a.text.extract _ _).size ≤ 40; rw [ByteArray.size_extract]; have := ha.t; omega }
 ·exact h
theorem ok_act (h : Okt true W H T) {a : Ac} (ha : AcOk a) : Okt true W H (actT T a) := by
 unfold actT
 split
 ·exact ok_print h _
 split
 ·exact ok_exec h _
 split
 ·exact ok_esc h a
 split
 ·exact ok_csi h a
 split
 ·exact ok_osc h ha
 ·exact h
theorem ok_acts (h : Okt true W H T) (l : List Ac) (hl : ∀ a ∈ l, AcOk a) : Okt true W H (l.foldl actT T) := by
 induction l generalizing T with
 | nil => exact h
 | cons a l ih => exact ih (ok_act h (hl a (List.mem_cons_self ..))) fun b hb => hl b (List.mem_cons_of_mem _ hb)
theorem ok_feed (h : Okt true W H T) (hp : T.parser.lim) {c : Int} (hc : 0 ≤ c ∧ c ≤ 255) : Okt true W H (feedT T c) :=
 ok_acts (T := { T with parser := (feedP T.parser c).1 }) (h.flags (lim_parser h.lim _) rfl rfl rfl rfl rfl rfl rfl) _ (fed_feed hp hc).2
theorem ok_writeN (h : Okt true W H T) (hp : T.parser.lim) (s : ByteArray) : ∀ k, Okt true W H (writeN T s k) ∧ (writeN T s k).parser.lim
 | 0 => ⟨h, hp⟩
 | k + 1 => by
  obtain ⟨h1, h2⟩ := ok_writeN h hp s k
  exact ⟨ok_feed h1 h2 (bt_range s _), plim_write hp s (k + 1)⟩
theorem ok_write (h : Okt true W H T) (hp : T.parser.lim) (s : ByteArray) : Okt true W H (writeT T s) := (ok_writeN h hp s _).1
theorem ok_take (h : Okt true W H T) : Okt true W H ({ T with reply := ByteArray.empty } : TS) := h.flags { h.lim with rp := Nat.zero_le _ } rfl rfl rfl rfl rfl rfl rfl
end
theorem fix_late {c : Cur} {w h : Int} (hw : 1 ≤ w) : (fixC c w h).late = true → (fixC c w h).x = w - 1 := fun e => by
 have e : (c.late && ((c.x : Int) == w - 1)) = true := e
 rw [Bool.and_eq_true, beq_iff_eq] at e
 show min c.x (w - 1) = w - 1
 omega
theorem ok_resize {W H : Int} {T : TS} (h : Okt true W H T) (p1 p2 : Int) : Okt true (sideI p1) (sideI p2) (resizeT T p1 p2) := by
 have hl := lim_resize h.lim p1 p2
 obtain ⟨e1, e2, e3, e4, e5, e6, e7⟩ := rs2_f T p1 p2
 have hg1 := h.lim.g1
 have hg2 := h.lim.g2
 have hw := h.lim.wb
 have hh := h.lim.hb
 have hs1 : 1 ≤ sideI p1 := by unfold sideI; omega
 have hr1 : okD (rs1 T p1 p2).grid ∧ (rs1 T p1 p2).other = T.other ∧ (∀ l ∈ (rs1 T p1 p2).back, okB l) ∧ (rs1 T p1 p2).title = T.title := by
  unfold rs1
  split
  ·exact ⟨okD_resize h.g (by omega) _ _ _, rfl, h.b, rfl⟩
  ·exact ⟨okD_resize h.g (by omega) _ _ _, rfl, keepB_mem h.b fun l hl => okB_of h.g ⟨by omega, by omega⟩ (List.mem_of_mem_take hl), rfl⟩
 have hgw : (rs2 T p1 p2).grid.w = sideI p1 := e4
 refine ⟨hl, hr1.1, ?_, hr1.2.2.1, ?_, fun _ e => ?_, ?_, fun e => ?_, ?_, fun e => ?_, ?_⟩
 ·show okD (resizeG (rs1 T p1 p2).other p1 (hgtI p2) 0)
  rw [hr1.2.1]; exact okD_resize h.o (by omega) _ _ _
 ·show styleB (rs2 T p1 p2).cursor.sty = true; rw [e1]; exact h.cs
 ·have := fix_late (w := (rs2 T p1 p2).grid.w) (by omega) e; rw [← hgw]; exact this
 ·show styleB (rs2 T p1 p2).saved.sty = true; rw [e2]; exact h.ss
 ·have := fix_late (w := (rs2 T p1 p2).grid.w) (by omega) e; rw [← hgw]; exact this
 ·show styleB (rs2 T p1 p2).away.sty = true; rw [e3]; exact h.ay
 ·have := fix_late (w := (rs2 T p1 p2).grid.w) (by omega) e; rw [← hgw]; exact this
 ·show (rs1 T p1 p2).title.size ≤ 40; rw [hr1.2.2.2]; exact h.ti
theorem ok_do {W H : Int} {T : TS} (h : Okt true W H T) (hp : T.parser.lim) (x : Stp) : ∃ W' H', Okt true W' H' (doT T x) := by
 unfold doT
 split
 ·exact ⟨W, H, ok_write h hp _⟩
 ·exact ⟨_, _, ok_resize h _ _⟩
end Go.Proofs.YteoejhjfbfacdaaGreatDoor.X
namespace Go.Proofs.YteoejhjfbfacdaaGreatDoor.X
open Go Go.RowKit Go.Proofs.YteoejhjfbfacdaaGreatDoor
structure uR (u : US) : Prop where
 n : 0 ≤ u.n ∧ u.n ≤ 3
 b0 : u.n ≤ 0 → u.b0 = 0
 b1 : u.n ≤ 1 → u.b1 = 0
 b2 : u.n ≤ 2 → u.b2 = 0
 f : u.n = 0 ∨ fullB u.pend = false
theorem sz_all : ∀ c, c < 256 → bitsv .and .u8 (firstN c) 7 ≤ 4 := by decide +kernel
theorem uR0 : uR u0 := ⟨by decide, fun _ => rfl, fun _ => rfl, fun _ => rfl, .inl rfl⟩
theorem itU_end {l : List Int} (h : ∀ x ∈ l, 0 ≤ x ∧ x ≤ 255) : ∀ k, ¬ (0 < (itU l k).2.length ∧ fullB (itU l k).2 = true) ∨ (itU l k).2.length + k ≤ l.length
 | 0 => .inr (by show l.length + 0 ≤ l.length; omega)
 | k + 1 => by
  by_cases hc : 0 < (itU l k).2.length ∧ fullB (itU l k).2 = true
  ·have ih := (itU_end h k).resolve_left (fun h => h hc)
   right
   have := decR_bd (itU_bytes h k) hc.1
   rw [itU_go hc.1 hc.2]
   simp only [List.length_drop]
   omega
  ·left
   have := itU_stop hc 1
   rw [this]; exact hc
theorem feedU_rem {u : US} (h : u.ok) {c : Int} (hc : 0 ≤ c ∧ c ≤ 255) : ((itU (u.pend ++ [c]) 4).2 = [] ∨ fullB (itU (u.pend ++ [c]) 4).2 = false) ∧ (itU (u.pend ++ [c]) 4).2.length ≤ 3 := by
 have hl : ∀ x ∈ u.pend ++ [c], 0 ≤ x ∧ x ≤ 255 := fun x hx => by
  rcases List.mem_append.1 hx with hx | hx
  ·exact h.pend x hx
  ·rw [List.mem_singleton.1 hx]; exact hc
 have hn : (u.pend ++ [c]).length ≤ 4 := by rw [List.length_append, h.len]; have := h.n; simp only [List.length_cons, List.length_nil]; omega
 have h1 : (itU (u.pend ++ [c]) 4).2 = [] ∨ fullB (itU (u.pend ++ [c]) 4).2 = false := by
  rcases itU_end hl 4 with h4 | h4
  ·rcases Nat.eq_zero_or_pos (itU (u.pend ++ [c]) 4).2.length with h0 | h0
   ·exact .inl (List.eq_nil_of_length_eq_zero h0)
   ·exact .inr (by cases e : fullB (itU (u.pend ++ [c]) 4).2 with
     | false => rfl
     | true => exact absurd ⟨h0, e⟩ h4)
  ·exact .inl (List.eq_nil_of_length_eq_zero (by omega))
 refine ⟨h1, ?_⟩
 rcases h1 with h1 | h1
 ·rw [h1]; exact Nat.zero_le _
 ·have hb := itU_bytes hl 4
  have hs := sz_all ((itU (u.pend ++ [c]) 4).2.getD 0 0).toNat (by have := getD_bd hb (by decide) 0; omega)
  unfold fullB at h1
  split at h1
  ·rename_i h0; omega
  ·split at h1
   ·cases h1
   ·rename_i h0
    have hs' : szI (itU (u.pend ++ [c]) 4).2 ≤ 4 := hs
    omega
theorem mkU_pend {l : List Int} (h : l.length ≤ 3) : (mkU l).pend = l := by
 unfold mkU US.pend
 simp only [Int.toNat_natCast]
 match l, h with
 | [], _ => rfl
 | [a], _ => rfl
 | [a, b], _ => rfl
 | [a, b, c], _ => rfl
theorem uR_feed {u : US} (h : u.ok) {c : Int} (hc : 0 ≤ c ∧ c ≤ 255) : uR (feedU u c).1 := by
 obtain ⟨h1, h2⟩ := feedU_rem h hc
 show uR (mkU ((itU (u.pend ++ [c]) 4).2.take 3))
 rw [List.take_of_length_le h2]
 generalize (itU (u.pend ++ [c]) 4).2 = r at h1 h2
 have hg : ∀ i, r.length ≤ i → r.getD i 0 = 0 := fun i hi => by rw [List.getD, List.getElem?_eq_none hi]; rfl
 refine ⟨⟨Int.natCast_nonneg _, by show ((r.length : Nat) : Int) ≤ 3; omega⟩, fun e => hg 0 ?_, fun e => hg 1 ?_, fun e => hg 2 ?_, ?_⟩
 ·have e : ((r.length : Nat) : Int) ≤ 0 := e; omega
 ·have e : ((r.length : Nat) : Int) ≤ 1 := e; omega
 ·have e : ((r.length : Nat) : Int) ≤ 2 := e; omega
 ·rw [mkU_pend h2]
  rcases h1 with rfl | h1
  ·exact .inl rfl
  ·exact .inr h1
def lowM (c : Int) : Prop := 32 ≤ c ∧ c < 48
def wideM (c : Int) : Prop := lowM c ∨ (60 ≤ c ∧ c ≤ 63)
def allB (f : Int → Prop) (s : ByteArray) : Prop := ∀ i : Nat, i < s.size → f (bt s (i : Int))
theorem allB_nil (f : Int → Prop) : allB f ByteArray.empty := fun i hi => by have : i < 0 := hi; omega
theorem bytesOf_at {c : Int} (hc : 0 ≤ c ∧ c ≤ 255) : (bytesOf [c]).size = 1 ∧ bt (bytesOf [c]) 0 = c := by
 refine ⟨rfl, ?_⟩
 have : ∀ k : Nat, k < 256 → bt (bytesOf [(k : Int)]) 0 = (k : Int) := by decide +kernel
 have := this c.toNat (by omega)
 rwa [show ((c.toNat : Nat) : Int) = c by omega] at this
theorem allB_snoc {f : Int → Prop} {s : ByteArray} (h : allB f s) {c : Int} (hc : 0 ≤ c ∧ c ≤ 255) (hf : f c) : allB f (s ++ bytesOf [c]) := fun i hi => by
 have hb := bytesOf_at hc
 rw [ByteArray.size_append, hb.1] at hi
 unfold bt
 rw [dif_pos (show (i : Int).toNat < (s ++ bytesOf [c]).size by rw [ByteArray.size_append, hb.1]; omega)]
 simp only [Int.toNat_natCast]
 by_cases h2 : i < s.size
 ·have := h i h2
  unfold bt at this
  rw [dif_pos (show (i : Int).toNat < s.size by omega)] at this
  simp only [Int.toNat_natCast] at this
  rw [ByteArray.getElem_append_left h2]; exact this
 ·have e : i = s.size := by omega
  subst e
  rw [ByteArray.getElem_append_right (Nat.le_refl _)]
  have h3 := hb.2
  unfold bt at h3
  rw [dif_pos (show (0 : Int).toNat < (bytesOf [c]).size by rw [hb.1]; decide)] at h3
  simp only [Nat.sub_self]
  have h4 : (((bytesOf [c])[0]'(by rw [hb.1]; decide)).toNat : Int) = c := h3
  rw [h4]; exact hf
structure PRight (p : PS) : Prop where
 st : 0 ≤ p.state ∧ p.state ≤ 7
 wi : p.state ≠ 7 → p.within = 0
 wc : p.state = 7 → p.within = 5 ∨ p.within = 6
 u : p.state ≠ 0 → p.utf = u0
 u' : uR p.utf
 m : p.state ≠ 2 → p.state ≠ 3 → p.state ≠ 4 → p.marks = ByteArray.empty
 n : p.state ≠ 3 → p.state ≠ 4 → p.params = []
 t : p.state ≤ 4 → p.text = ByteArray.empty
 m2 : p.state = 2 → 1 ≤ p.marks.size ∧ allB lowM p.marks
 m3 : p.state = 3 ∨ p.state = 4 → allB wideM p.marks
 t5 : allB (fun c => 32 ≤ c) p.text
theorem pr_at {s : Int} (h : s = 0 ∨ s = 1 ∨ s = 3 ∨ s = 5 ∨ s = 6) : PRight (atP s) := by
 refine ⟨by show 0 ≤ s ∧ s ≤ 7; omega, fun _ => rfl, fun e => ?_, fun _ => rfl, uR0, fun _ _ _ => rfl, fun _ _ => rfl, fun _ => rfl, fun e => ?_, fun _ => allB_nil _, allB_nil _⟩
 ·have e : s = 7 := e; omega
 ·have e : s = 2 := e; omega
theorem pr_utf {p : PS} (h : PRight p) (h0 : p.state = 0) {u : US} (hu : uR u) : PRight { p with utf := u } := { h with u := fun e => absurd h0 e, u' := hu }
theorem ite_pr {c : Prop} [Decidable c] {a b : PS × List Ac} (h1 : c → PRight a.1) (h2 : ¬ c → PRight b.1) : PRight (if c then a else b).1 := by
 split
 ·exact h1 ‹_›
 ·exact h2 ‹_›
theorem pr_ground {p : PS} (h : PRight p) (hl : p.lim) (h0 : p.state = 0) {c : Int} (hc : 0 ≤ c ∧ c ≤ 255) : PRight (groundP p c).1 := by
 unfold groundP
 refine ite_pr (fun _ => ?_) fun _ => pr_utf h h0 (uR_feed hl.u hc)
 refine ite_pr (fun _ => pr_at (.inr (.inl rfl))) fun _ => ?_
 exact ite_pr (fun _ => pr_utf h h0 uR0) fun _ => pr_utf h h0 (uR_feed u0_ok hc)
theorem pr_string {p : PS} (h : PRight p) (h5 : p.state = 5 ∨ p.state = 6) {c : Int} (hc : 0 ≤ c ∧ c ≤ 255) : PRight (stringP p c).1 := by
 unfold stringP
 refine ite_pr (fun _ => ?_) fun _ => ?_
 ·exact ⟨(by show (0 : Int) ≤ 7 ∧ (7 : Int) ≤ 7; decide), fun e => absurd rfl e, fun _ => h5, fun _ => h.u (by omega), h.u', fun _ _ _ => h.m (by omega) (by omega) (by omega), fun _ _ => h.n (by omega) (by omega), fun e => absurd e (by show ¬ (7 : Int) ≤ 4; decide), fun e => absurd e (by show ¬ (7 : Int) = 2; decide), fun e => absurd e (by show ¬ ((7 : Int) = 3 ∨ (7 : Int) = 4); decide), h.t5⟩
 refine ite_pr (fun _ => pr_at (.inl rfl)) fun _ => ?_
 refine ite_pr (fun _ => pr_at (.inl rfl)) fun _ => ?_
 refine ite_pr (fun hx => ?_) fun _ => h
 exact { h with t := fun e => absurd e (by show ¬ p.state ≤ 4; omega), t5 := allB_snoc h.t5 hc hx.1 }
theorem pr_escape {p : PS} (h : PRight p) (h1 : p.state = 1 ∨ p.state = 2) {c : Int} (hc : 32 ≤ c ∧ c ≤ 255) : PRight (escapeP p c).1 := by
 unfold escapeP
 have hall : allB lowM p.marks := by
  rcases h1 with e | e
  ·rw [h.m (by omega) (by omega) (by omega)]; exact allB_nil _
  ·exact (h.m2 e).2
 have h2 : p.state = 2 → 1 ≤ p.marks.size := fun e => (h.m2 e).1
 refine ite_pr (fun h48 => ?_) fun _ => ?_
 ·show PRight (if _ then _ else _)
  split
  ·exact ⟨(by show (0 : Int) ≤ 2 ∧ (2 : Int) ≤ 7; decide), fun _ => h.wi (by omega), fun e => absurd e (by show ¬ (2 : Int) = 7; decide), fun _ => h.u (by omega), h.u', fun e => absurd rfl e, fun _ _ => h.n (by omega) (by omega), fun _ => h.t (by omega), fun _ => ⟨by show 1 ≤ (p.marks ++ bytesOf [c]).size; rw [ByteArray.size_append, bytesOf_one]; omega, allB_snoc hall ⟨by omega, hc.2⟩ ⟨hc.1, h48⟩⟩, fun e => absurd e (by show ¬ ((2 : Int) = 3 ∨ (2 : Int) = 4); decide), h.t5⟩
  ·rename_i hsz
   exact ⟨(by show (0 : Int) ≤ 2 ∧ (2 : Int) ≤ 7; decide), fun _ => h.wi (by omega), fun e => absurd e (by show ¬ (2 : Int) = 7; decide), fun _ => h.u (by omega), h.u', fun e => absurd rfl e, fun _ _ => h.n (by omega) (by omega), fun _ => h.t (by omega), fun _ => ⟨by show 1 ≤ p.marks.size; omega, hall⟩, fun e => absurd e (by show ¬ ((2 : Int) = 3 ∨ (2 : Int) = 4); decide), h.t5⟩
 refine ite_pr (fun _ => pr_at (.inr (.inr (.inl rfl)))) fun _ => ?_
 refine ite_pr (fun _ => pr_at (.inr (.inr (.inr (.inl rfl))))) fun _ => ?_
 refine ite_pr (fun _ => pr_at (.inr (.inr (.inr (.inr rfl))))) fun _ => ?_
 exact pr_at (.inl rfl)
theorem pr_csi {p : PS} (h : PRight p) (h3 : p.state = 3 ∨ p.state = 4) {c : Int} (hc : 32 ≤ c ∧ c ≤ 255) : PRight (csiP p c).1 := by
 have hp : ∀ l, PRight { p with params := l } := fun l => { h with n := fun e e' => absurd h3 (by show ¬ (p.state = 3 ∨ p.state = 4); exact fun h => h.elim e e') }
 unfold csiP
 refine ite_pr (fun _ => hp _) fun hd => ?_
 refine ite_pr (fun _ => ?_) fun hs => ?_
 ·show PRight (if _ then _ else _)
  split <;> exact hp _
 refine ite_pr (fun _ => ite_pr (fun _ => pr_at (.inl rfl)) fun _ => pr_at (.inl rfl)) fun h64 => ?_
 refine ite_pr (fun _ => ?_) fun hm => ?_
 ·exact ⟨(by show (0 : Int) ≤ 4 ∧ (4 : Int) ≤ 7; decide), fun _ => h.wi (by omega), fun e => absurd e (by show ¬ (4 : Int) = 7; decide), fun _ => h.u (by omega), h.u', fun _ _ e => absurd rfl e, fun _ e => absurd rfl e, fun _ => h.t (by omega), fun e => absurd e (by show ¬ (4 : Int) = 2; decide), fun _ => h.m3 h3, h.t5⟩
 ·exact { h with m := fun e e' e'' => absurd h3 (by show ¬ (p.state = 3 ∨ p.state = 4); exact fun h => h.elim e' e''), m2 := fun e => (by have e : p.state = 2 := e; omega), m3 := fun _ => allB_snoc (h.m3 h3) ⟨by omega, hc.2⟩ (by unfold wideM lowM; omega) }
theorem pr_feed1 {p : PS} (h : PRight p) (hl : p.lim) (h7 : p.state ≠ 7) {c : Int} (hc : 0 ≤ c ∧ c ≤ 255) : PRight (feedP1 p c).1 := by
 have hst := h.st
 unfold feedP1
 refine ite_pr (fun h0 => pr_ground h hl h0 hc) fun h0 => ?_
 refine ite_pr (fun h5 => pr_string h (by omega) hc) fun h5 => ?_
 refine ite_pr (fun _ => pr_at (.inl rfl)) fun _ => ?_
 refine ite_pr (fun _ => pr_at (.inr (.inl rfl))) fun _ => ?_
 refine ite_pr (fun _ => h) fun h32 => ?_
 refine ite_pr (fun _ => h) fun _ => ?_
 refine ite_pr (fun h3 => pr_csi h h3 ⟨by omega, hc.2⟩) fun h3 => ?_
 exact pr_escape h (by omega) ⟨by omega, hc.2⟩
theorem pr_feed {p : PS} (h : PRight p) (hl : p.lim) {c : Int} (hc : 0 ≤ c ∧ c ≤ 255) : PRight (feedP p c).1 := by
 unfold feedP
 refine ite_pr (fun h7 => ?_) fun h7 => pr_feed1 h hl h7 hc
 exact ite_pr (fun _ => pr_at (.inl rfl)) fun _ => pr_feed1 (pr_at (.inr (.inl rfl))) (plim_at 1) (by show (1 : Int) ≠ 7; decide) hc
theorem pr_writeN {T : TS} (h : PRight T.parser) (hl : T.parser.lim) (s : ByteArray) : ∀ k, PRight (writeN T s k).parser
 | 0 => h
 | k + 1 => by rw [writeN, feedT_p]; exact pr_feed (pr_writeN h hl s k) (plim_write hl s k) (bt_range s _)
theorem pr_do {T : TS} (h : PRight T.parser) (hl : T.parser.lim) (x : Stp) : PRight (doT T x).parser := by
 unfold doT
 split
 ·exact pr_writeN h hl _ _
 ·rw [resize_parser]; exact h
end Go.Proofs.YteoejhjfbfacdaaGreatDoor.X
namespace Go.Proofs.YteoejhjfbfacdaaGreatDoor.X
open Go Go.RowKit Go.Proofs.YteoejhjfbfacdaaGreatDoor
def okAt (l : List Cel) (i : Nat) : Prop := ((gc l (i : Int)).rune = 0 → pairedB l ((i : Int) - 1) = true) ∧ ((gc l (i : Int)).rune ≠ 0 → celB (gc l (i : Int)) = true ∧ (wideB (gc l (i : Int)).rune = true → pairedB l (i : Int) = true))
theorem ok_next {l : List Cel} {k : Nat} (h : ∀ i : Nat, i < k → okAt l i) (hb : okAt l k) : ∀ i : Nat, i < k + 1 → okAt l i := fun i hi => by
  rcases Nat.lt_or_ge i k with h' | h'
  · exact h i h'
  · obtain rfl : i = k := by omega
    exact hb
set_option maxHeartbeats 4000000 in
theorem whole_any (b n cap : Nat) (l : List Cel) (w : World) (hT : Tables w) (hr : Rd w (some ⟨b, 0, none⟩) (flat l)) (hb : b < w.heap.size) (hln : l.length = n) (hnb : n ≤ 1000000) : Calls Tryz.prog 34 [.slice (some ⟨b, 0, none⟩) n cap].toArray w fun e w' => e = .returned (.bool (wholeB l)) ∧ Ch (fun _ => False) w w' := by
 refine yA Tryz.func34 rfl <| ysr <| yp 1 [] .z <| ye <| ys <| ysr <| yp 3 [] .z <| ye <| x_block <| ykeep [0, 5, 6, 7] (f' := [(0, .slice (some ⟨b, 0, none⟩) n cap), (5, .slice (some ⟨b, 0, none⟩) n cap), (6, iX ((n : Nat) : Int)), (7, iX 0)]) <| x_loop (σ := Nat) (fun k => [(0, .slice (some ⟨b, 0, none⟩) n cap), (5, .slice (some ⟨b, 0, none⟩) n cap), (6, iX ((n : Nat) : Int)), (7, iX ((k : Nat) : Int))]) (fun k u => k ≤ n ∧ (∀ i : Nat, i < k → okAt l i) ∧ Ch (fun _ => False) w u) (fun k => n - k) 0 rfl ?_ ?_
 ·exact ⟨Nat.zero_le _, fun i hi => absurd hi (Nat.not_lt_zero i), Ch.refl _ _⟩
 intro k w10 hI11 K12 hL13
 obtain ⟨hk, hok, hc14⟩ := hI11
 have hu15 := Up.step (Up.refl w.heap.size w) hc14 iZ
 have hT16 := tables_ch hc14 hT id id
 have hr17 := Ch.rd hc14 hr id
 refine ysr <| yp 1 [] .z <| ye <| ys <| yc (rL ((k : Nat) : Int) ((n : Nat) : Int)) (fun hC18 => ?_) fun hC18 => ?_
 ·refine yk <| ys <| x_block <| ysr <| yp 3 [] (.i ((k : Nat) : Int) (n) (.m (c_rune (i := ((k : Nat) : Int)) hr17 (by omega) (by omega)) (.m (c_bold (i := ((k : Nat) : Int)) hr17 (by omega) (by omega)) (.m (c_under (i := ((k : Nat) : Int)) hr17 (by omega) (by omega)) (.m (c_turned (i := ((k : Nat) : Int)) hr17 (by omega) (by omega)) (.m (c_fore (i := ((k : Nat) : Int)) hr17 (by omega) (by omega)) (.m (c_back (i := ((k : Nat) : Int)) hr17 (by omega) (by omega)) (.e .z)))))))) <| yo (yN [rX 0, .bool false, .bool false, .bool false, iX 0, iX 0] 61 fun w19 b20 hb21 hz22 hB23 hc24 => ?_)
  have hlo25 : w.heap.size ≤ b20 := by rw [hb21]; exact Ch.size hu15
  have hlo25l : w.heap.size ≤ b20 := by rw [hb21]; exact Ch.size hc14
  have hu26 := Up.step hu15 hc24 iZ
  have hL27 := Ch.trans hc14 hc24 eZ
  have hT28 := tables_ch hc24 hT16 id id
  have hr29 := Ch.rd hc24 hr17 id
  refine yp 5 [] .z <| yo (yS hB23 fun w30 hB31 hc32 => ?_)
  have hu33 := Up.step hu26 hc32 (fun i hi (h : i = b20) => by omega)
  have hL34 := Ch.trans hL27 hc32 (fun i hi (h : i = b20) => by omega)
  have hT35 := tables_ch hc32 hT28 (fun (h : gWide = b20) => by have := tab_lt hT; omega) (fun (h : gSigns = b20) => by have := tab_lt hT; omega)
  have hr36 := Ch.rd hc32 hr29 (fun (h : b = b20) => by have := (Nat.lt_of_lt_of_le hb (Ch.size hu15)); omega)
  replace hB31 : Blk w30 b20 [rX (gc l ((k : Nat) : Int)).rune, .bool (gc l ((k : Nat) : Int)).sty.bold, .bool (gc l ((k : Nat) : Int)).sty.under, .bool (gc l ((k : Nat) : Int)).sty.turned, iX (gc l ((k : Nat) : Int)).sty.fore, iX (gc l ((k : Nat) : Int)).sty.back] _ := Blk.to hB31 (by kernel_rfl)
  refine ye <| x_block <| ysr <| yp 4 [] (.l (hB31.c 0) .z) <| ye <| yc (rE (gc l ((k : Nat) : Int)).rune 0) (fun hC37 => ?_) fun hC37 => ?_
  ·have hf38 := hC37
   refine ysr <| yp 3 [] (.q6 (((k : Nat) : Int) - 1) .z) ?_
   refine yo (yQ (paired_any b n cap l (((k : Nat) : Int) - 1) _ hT35 hr36 (Nat.lt_of_lt_of_le hb (Ch.size hu33)) hln (by omega) (by constructor <;> omega)) fun w40 hc39 => ?_)
   have hu41 := Up.step hu33 hc39 iZ
   have hL42 := Ch.trans hL34 hc39 eZ
   refine yp 5 [] .z <| ye <| yc (rN (rY (pairedB l (((k : Nat) : Int) - 1)))) (fun hC46 => ?_) fun hC46 => ?_
   ·have hf47 := hC46
    refine ysr <| yp 1 [] .z <| ye <| x_ret (rB (rB (rS (then_ret (rB (rS (yR1 (.bool false) ?_)))))))
    refine ⟨congrArg Ending.returned (congrArg Value.bool ?_), Up.ch hu41⟩
    exact (Bool.eq_false_iff.2 fun h => by
     have h2 := wholeB_iff.1 h k (by omega)
     clear h hok
     simp [hf38, hf47] at h2).symm
   have hf48 := hC46
   refine x_skip (nB (nB (nS ?_)))
   refine x_region <| yp 2 [] (.q6 (((k : Nat) : Int) + 1) .z) <| yE (fun a ha => hL13 (k + 1) _ ⟨by omega, ok_next hok ⟨fun h0 => by simp_all, fun h0 => by simp_all⟩, hL42⟩ (by show n - (k + 1) < n - k; omega) a (ha.kp [0, 5, 6, 7]))
  have hf49 := hC37
  refine ysr <| yp 1 [] (.a (hB31.cs 0 6) .z) <| yo (yQ (celB_any (gc l ((k : Nat) : Int)) _ ) fun w51 hc50 => ?_)
  have hu52 := Up.step hu33 hc50 iZ
  have hL53 := Ch.trans hL34 hc50 eZ
  have hT54 := tables_ch hc50 hT35 id id
  have hr55 := Ch.rd hc50 hr36 id
  have hB56 := hB31.ch hc50 id
  refine yp 4 [] .z <| yw [25] (rN (rY (celB (gc l ((k : Nat) : Int))))) (fun hC57 => ?_) fun hC57 => ?_
  ·have hf58 := hC57
   refine yp 15 [] .z <| ye <| yct <| ysr <| yp 1 [] .z <| ye <| x_ret (rB (rB (rS (then_ret (rB (rS (yR1 (.bool false) ?_)))))))
   refine ⟨congrArg Ending.returned (congrArg Value.bool ?_), Up.ch hu52⟩
   exact (Bool.eq_false_iff.2 fun h => by
    have h2 := wholeB_iff.1 h k (by omega)
    clear h hok
    simp [hf49, hf58] at h2).symm
  have hf59 := hC57
  refine yp 6 [] (.l (hB56.c 0) .z) <| yo (yQ (wide_any (gc l ((k : Nat) : Int)).rune _ hT54.1) fun w60 hq => ?_)
  have hc61 := ch_eq hq
  clear hq
  have hu62 := Up.step hu52 hc61 iZ
  have hL63 := Ch.trans hL53 hc61 eZ
  have hT64 := tables_ch hc61 hT54 id id
  have hr65 := Ch.rd hc61 hr55 id
  refine yp 8 [] .z <| yw [29] (rY (wideB (gc l ((k : Nat) : Int)).rune)) (fun hC67 => ?_) fun hC67 => ?_
  ·have hf68 := hC67
   refine yp 10 [] .z ?_
   refine yo (yQ (paired_any b n cap l ((k : Nat) : Int) _ hT64 hr65 (Nat.lt_of_lt_of_le hb (Ch.size hu62)) hln (by omega) (by constructor <;> omega)) fun w70 hc69 => ?_)
   have hu71 := Up.step hu62 hc69 iZ
   have hL72 := Ch.trans hL63 hc69 eZ
   refine yp 15 [] .z <| ye <| yc (rN (rY (pairedB l ((k : Nat) : Int)))) (fun hC76 => ?_) fun hC76 => ?_
   ·have hf77 := hC76
    refine ysr <| yp 1 [] .z <| ye <| x_ret (rB (rB (rS (then_ret (rB (rS (yR1 (.bool false) ?_)))))))
    refine ⟨congrArg Ending.returned (congrArg Value.bool ?_), Up.ch hu71⟩
    exact (Bool.eq_false_iff.2 fun h => by
     have h2 := wholeB_iff.1 h k (by omega)
     clear h hok
     simp [hf49, hf59, hf68, hf77] at h2).symm
   have hf78 := hC76
   refine x_skip (nB (nB (nS ?_)))
   refine x_region <| yp 2 [] (.q6 (((k : Nat) : Int) + 1) .z) <| yE (fun a ha => hL13 (k + 1) _ ⟨by omega, ok_next hok ⟨fun h0 => by simp_all, fun h0 => by simp_all⟩, hL72⟩ (by show n - (k + 1) < n - k; omega) a (ha.kp [0, 5, 6, 7]))
  have hf79 := hC67
  refine yp 15 [] .z <| ye <| ycf <| x_skip (nB (nB (nS ?_)))
  refine x_region <| yp 2 [] (.q6 (((k : Nat) : Int) + 1) .z) <| yE (fun a ha => hL13 (k + 1) _ ⟨by omega, ok_next hok ⟨fun h0 => by simp_all, fun h0 => by simp_all⟩, hL63⟩ (by show n - (k + 1) < n - k; omega) a (ha.kp [0, 5, 6, 7]))
 have hkn : k = n := by omega
 refine x_exit (eS (then_exit (block_exit (nS ?_))))
 refine ysr <| yp 1 [] .z <| ye <| x_ret (yR1 (.bool true) ?_)
 refine ⟨congrArg Ending.returned (congrArg Value.bool ?_), Up.ch hu15⟩
 exact (wholeB_iff.2 fun i hi => hok i (by omega)).symm
theorem ln_some {w : World} {a : Option Addr} {n : Nat} {ro : List Row} {FB : Nat → Prop} (hz : a = none ∨ ∃ b off, a = some ⟨b, off, none⟩) (h : LinesAt w a n ro FB) (hn : 0 < n) : ∃ b off, a = some ⟨b, off, none⟩ := by
 rcases hz with rfl | hz
 ·have e := h.rd.1 rfl
  have := h.len
  rw [List.map_eq_nil_iff] at e
  subst e
  simp at this
  omega
 exact hz
theorem ln_row {w : World} {a : Option Addr} {n i : Nat} {ro : List Row} {FB : Nat → Prop} (h : LinesAt w a n ro FB) (hi : i < n) : ∃ q, ro[i]? = some q ∧ q ∈ ro := by
 have hl := h.len
 exact ⟨_, List.getElem?_eq_getElem (by omega), List.getElem_mem _⟩
theorem ln_cell {w : World} {b off : Nat} {rows : List Row} (h : Rd w (some ⟨b, off, none⟩) (rows.map Row.val)) {k : Nat} {x : Row} (hx : rows[k]? = some x) : w.cell? ⟨b, off + ((k : Nat) : Int).toNat * 1, none⟩ = some x.val := by
 rw [Int.toNat_natCast, Nat.mul_one]
 exact rd_at h k _ (by rw [List.getElem?_map, hx]; rfl)
set_option maxHeartbeats 4000000 in
theorem wholes_any (a : Option Addr) (n cap : Nat) (W H : Int) {ro : List Row} {FB : Nat → Prop} (w : World) (hT : Tables w) (hL : LinesAt w a n ro FB) (hz : a = none ∨ ∃ b off, a = some ⟨b, off, none⟩) (hnb : n ≤ 1000) (hall : ∀ x ∈ ro, wholeB x.l = true ∧ (0 ≤ W → (x.n : Int) = W) ∧ 0 < x.n ∧ x.n ≤ 1000) (hH : H < 0 ∨ (n : Int) = H) : Calls Tryz.prog 17 [.slice a n cap, iX W, iX H].toArray w fun e w' => e = .returned (.bool true) ∧ Ch (fun _ => False) w w' := by
 refine yA Tryz.func17 rfl <| ysr <| yp 1 [] .z <| ye <| ys <| ysr <| yp 3 [] .z <| ye <| x_block <| ykeep [0, 1, 2, 9, 10, 11] (f' := [(0, .slice a n cap), (1, iX W), (2, iX H), (9, .slice a n cap), (10, iX ((n : Nat) : Int)), (11, iX 0)]) <| x_loop (σ := Nat) (fun k => [(0, .slice a n cap), (1, iX W), (2, iX H), (9, .slice a n cap), (10, iX ((n : Nat) : Int)), (11, iX ((k : Nat) : Int))]) (fun k u => k ≤ n ∧ Ch (fun _ => False) w u) (fun k => n - k) 0 rfl ?_ ?_
 ·exact ⟨Nat.zero_le _, Ch.refl _ _⟩
 intro k w10 hI11 K12 hL13
 obtain ⟨hk, hc14⟩ := hI11
 have hu15 := Up.step (Up.refl w.heap.size w) hc14 iZ
 have hT16 := tables_ch hc14 hT id id
 have hL17 := hL.ch hc14 iZ
 refine ysr <| yp 1 [] .z <| ye <| ys <| yc (rL ((k : Nat) : Int) ((n : Nat) : Int)) (fun hC18 => ?_) fun hC18 => ?_
 ·obtain ⟨bb, bo, rfl⟩ := ln_some hz hL17 (by omega)
  obtain ⟨q, hq, hqm⟩ := ln_row (i := k) hL17 (by omega)
  obtain ⟨hq1, hq2, hq3, hq4⟩ := hall q hqm
  refine yk <| ys <| x_block <| ysr <| yp 3 [] (.i ((k : Nat) : Int) (n) (.l (ln_cell hL17.rd hq) .z)) <| ye <| ysr <| yp 1 [] .z <| yo (yQ (whole_any q.b q.n q.cap q.l _ hT16 (hL17.line _ hqm).1.rd (hL17.line _ hqm).1.lt (hL17.line _ hqm).2 (by omega)) fun w20 hc19 => ?_)
  have hL22 := Ch.trans hc14 hc19 eZ
  refine yp 4 [] .z <| yw [18] (rN (rY (wholeB q.l))) (fun hC25 => ?_) fun hC25 => ?_
  ·exact absurd hC25 (by rw [hq1]; decide)
  refine yp 7 [] .z <| yw [21] (rM 0 W) (fun hC26 => ?_) fun hC26 => ?_
  ·have hf27 := hC26
   refine yp 14 [] .z <| yw [28] (rI ((q.n : Nat) : Int) W) (fun hC28 => ?_) fun hC28 => ?_
   ·have hf29 := hC28
    exfalso; omega
   have hf30 := hC28
   refine yp 18 [] .z <| ye <| yc (rE ((q.n : Nat) : Int) 0) (fun hC31 => ?_) fun hC31 => ?_
   ·have hf32 := hC31
    exfalso; omega
   have hf33 := hC31
   refine x_skip (nB (nS ?_))
   refine x_region <| yp 2 [] (.q6 (((k : Nat) : Int) + 1) .z) <| yE (fun a ha => hL13 (k + 1) _ ⟨by omega, hL22⟩ (by show n - (k + 1) < n - k; omega) a (ha.kp [0, 1, 2, 9, 10, 11]))
  have hf34 := hC26
  refine yp 18 [] .z <| ye <| yc (rE ((q.n : Nat) : Int) 0) (fun hC35 => ?_) fun hC35 => ?_
  ·have hf36 := hC35
   exfalso; omega
  have hf37 := hC35
  refine x_skip (nB (nS ?_))
  refine x_region <| yp 2 [] (.q6 (((k : Nat) : Int) + 1) .z) <| yE (fun a ha => hL13 (k + 1) _ ⟨by omega, hL22⟩ (by show n - (k + 1) < n - k; omega) a (ha.kp [0, 1, 2, 9, 10, 11]))
 have hkn : k = n := by omega
 refine x_exit (eS (then_exit (block_exit (nS ?_))))
 refine ysr <| yp 3 [] .z <| yw [36] (rL H 0) (fun hC38 => ?_) fun hC38 => ?_
 ·have hf39 := hC38
  refine yp 9 [] .z <| ye <| x_ret (yR1 (.bool true) ?_)
  refine ⟨congrArg Ending.returned (congrArg Value.bool ?_), Up.ch hu15⟩
  first | rfl | (simp; omega)
 have hf40 := hC38
 refine yp 9 [] .z <| ye <| x_ret (yR1 (.bool ((((n : Nat) : Int) : Int) == H)) ?_)
 refine ⟨congrArg Ending.returned (congrArg Value.bool ?_), Up.ch hu15⟩
 first | rfl | (simp; omega)
end Go.Proofs.YteoejhjfbfacdaaGreatDoor.X
namespace Go.Proofs.YteoejhjfbfacdaaGreatDoor.X
open Go Go.RowKit Go.Proofs.YteoejhjfbfacdaaGreatDoor
section
variable {w0 w : World} {bs : List (Nat × List Value × TypeId)} {ts : List (Nat × TS)}
theorem Sys.pars (h : Sys w0 w bs ts) {i t : Nat} {T : TS} (hi : ts[i]? = some (t, T)) : ∃ pa pn pc, w.cell? ⟨t, 104, none⟩ = some (.slice pa pn pc) ∧ T.parser.params.length = pn ∧ Rd w pa (T.parser.params.map (Value.int .i64)) ∧ (pn = 0 ∨ ∃ b o, pa = some ⟨b, o, none⟩) := by
  obtain ⟨F, g, o, ba, bn, bc, pa, pn, pc, F1, F2, FB, FP, hI⟩ := h.at hi
  refine ⟨pa, pn, pc, (hI.blk.cell 104).trans (by kernel_rfl), hI.ps.2.1, hI.ps.1, ?_⟩
  obtain ⟨po, hp⟩ := hI.pz
  cases po with
  | none =>
    have e := hI.ps.1.1 hp
    rw [List.map_eq_nil_iff] at e
    left
    rw [← hI.ps.2.1, e]; rfl
  | some b => exact .inr ⟨b, 0, hp⟩
theorem grid_hall {g r rc : Nat} {rows : List Row} {G : Gr} {F : Nat → Prop} (h : GridIn w g r rc rows G F) (hd : okD G) {W : Int} (hW : G.w = W ∧ 1 ≤ W ∧ W ≤ 60) : ∀ x ∈ rows, wholeB x.l = true ∧ (0 ≤ W → (x.n : Int) = W) ∧ 0 < x.n ∧ x.n ≤ 1000 := fun x hx => by
  have hl : x.l ∈ G.lines := h.lines ▸ List.mem_map_of_mem hx
  have hn := (h.line x hx).2
  have hw := hd.wid _ hl
  exact ⟨(hd.ok _ hl).2, fun _ => by omega, by omega, by omega⟩
theorem back_hall {a : Option Addr} {n : Nat} {ro : List Row} {FB : Nat → Prop} {B : List (List Cel)} (h : LinesAt w a n ro FB) (hm : ro.map Row.l = B) (hb : ∀ l ∈ B, okB l) : ∀ x ∈ ro, wholeB x.l = true ∧ ((0 : Int) ≤ -1 → (x.n : Int) = -1) ∧ 0 < x.n ∧ x.n ≤ 1000 := fun x hx => by
  have hl : x.l ∈ B := hm ▸ List.mem_map_of_mem hx
  obtain ⟨h1, h2, h3⟩ := hb _ hl
  have hn := (h.line x hx).2
  have h4 : 0 < x.l.length := List.length_pos_iff.2 h2
  exact ⟨h1.2, fun e => by omega, by omega, by omega⟩
end
end Go.Proofs.YteoejhjfbfacdaaGreatDoor.X
namespace Go.Proofs.YteoejhjfbfacdaaGreatDoor.X
open Go Go.RowKit Go.Proofs.YteoejhjfbfacdaaGreatDoor
section
variable {P : Program} {N : Nat} {ops : Array Oper} {Q : Exit → Act → World → Prop} {f : Fr} {k : Nat} {K : Act → World → Prop} {w : World}
def callTAt (P : Program) (N : Nat) (ops : Array Oper) (f : Fr) (k : Nat) : Option (FuncId × List Value × Option Tmp) :=
  match opAt N ops f k with
  | some (.call ⟨.value x, args, _⟩, d) => match ev f x with
    | some (.func (.func g) ⟨[]⟩ ⟨[]⟩) => if callable P g then (evs f args.toList).map fun vs => (g, vs, d) else none
    | _ => none
  | _ => none
theorem e_callT {g : FuncId} {vs : List Value} {R : Ending → World → Prop} (d : Option Tmp) (h : callTAt P N ops f k = some (g, vs, d)) (hc : Calls P g vs.toArray w R)
    (hK : ∀ e w', R e w' → ∃ v, e = .returned v ∧ ∀ a', Has N (pushd d v f) a' → K a' w') : ∀ a, Has N f a → wpOp P ops Q k K a w := by
  unfold callTAt at h
  split at h
  · rename_i x args tys d' ho
    split at h
    · rename_i g' hx
      split at h
      · rename_i hg
        simp only [Option.map_eq_some_iff, Prod.mk.injEq] at h
        obtain ⟨vs', hv, rfl, rfl, rfl⟩ := h
        intro a ha
        refine opAt_wp ho ha fun o' hop hd hdk => ?_
        unfold callable at hg
        cases hf : P.funcs[g']? with
        | none => rw [hf] at hg; cases hg
        | some fn =>
          rw [hf] at hg
          simp only [Bool.and_eq_true, bne_iff_ne] at hg
          have : (execOp a.eval o').run P w = .ok (.enter g' vs'.toArray) w := by
            have e := evs_array ha hv
            have e2 := ev_eval ha hx
            have hn : fn.body.isNone = false := by cases hb : fn.body <;> simp_all
            simp [execOp, hop, resolve, e, e2, Deferred.ofValue, invoke, callFunc, hf, hg.1]
            intro h; rw [h] at hn; cases hn
          simp only [Oper.wp, this, Oper.upon]
          rw [hd]
          refine Calls.mono hc fun e w' he => ?_
          obtain ⟨v, rfl, h⟩ := hK e w' he
          exact h _ (ha.pushd hdk v)
      · cases h
    · cases h
  · cases h
theorem yQT {g : FuncId} {vs : List Value} {v : Value} {A : World → Prop} (hc : Calls P g vs.toArray w fun e w' => e = .returned v ∧ A w') (hK : ∀ w', A w' → ∀ a', Has N (pushd (dO ops k) v f) a' → K a' w')
    (h : callTAt P N ops f k = some (g, vs, dO ops k) := by kernel_rfl) : ∀ a, Has N f a → wpOp P ops Q k K a w := e_callT _ h hc fun _ w' h => ⟨v, h.1, hK w' h.2⟩
def bytV (s : ByteArray) : List Value := s.data.toList.map fun b => Value.int .u8 b.toNat
theorem bytV_len (s : ByteArray) : (bytV s).length = s.size := by simp [bytV]
theorem bytV_get (s : ByteArray) {i : Nat} (h : i < s.size) : (bytV s)[i]? = some (.int .u8 (bt s (i : Int))) := by
  unfold bytV bt
  rw [List.getElem?_map, List.getElem?_eq_getElem (by simpa using h)]
  simp only [Option.map_some, Int.toNat_natCast]
  rw [dif_pos h]
  rfl
def byteAt (P : Program) (N : Nat) (ops : Array Oper) (f : Fr) (k : Nat) : Option (ByteArray × Option Tmp) :=
  match opAt N ops f k with
  | some (.convert s t x, d) => match P.underlying s, P.underlying t, ev f x with
    | some .string, some (.slice e), some (.string u) => match P.underlying e with
      | some (.int .u8) => some (u, d)
      | _ => none
    | _, _, _ => none
  | _ => none
theorem e_tobytes (u : ByteArray) (d : Option Tmp) (h : byteAt P N ops f k = some (u, d))
    (hK : ∀ w' b cap, b = w.heap.size → w'.heap.size = w.heap.size + 1 → Rd w' (some ⟨b, 0, none⟩) (bytV u) → Ch (fun _ => False) w w' → ∀ a', Has N (pushd d (.slice (some ⟨b, 0, none⟩) u.size cap) f) a' → K a' w') : ∀ a, Has N f a → wpOp P ops Q k K a w := by
  intro a ha
  unfold byteAt at h
  split at h
  · rename_i s t x d' ho
    split at h
    · rename_i e v hs ht hx
      split at h
      · rename_i he
        simp only [Option.some.injEq, Prod.mk.injEq] at h
        obtain ⟨rfl, rfl⟩ := h
        refine opAt_wp ho ha fun o' hop hd hdk => ?_
        have hc := run_bytes_of_string (P := P) w s t e v hs ht he
        have : (execOp a.eval o').run P w = .ok (.value (.slice (some ⟨w.heap.size, 0, none⟩) v.size (grownCap w v.size 0 e))) (w.drew.alloc (.cells (bytesRow v (grownCap w v.size 0 e)) e ((bytesRow v (grownCap w v.size 0 e)).size, (bytesRow v (grownCap w v.size 0 e)).size + 1))) := by
          simp [execOp, hop, ev_eval ha hx, hc]
        simp only [Oper.wp, this, Oper.upon]
        rw [hd]
        refine hK _ w.heap.size _ rfl (by show (w.heap.push _).size = _; simp) ?_ ((Ch.drew _ _).trans (Ch.alloc _ _ _) (fun _ _ h => h)) _ (ha.pushd hdk _)
        refine ⟨(fun ea => by cases ea), fun ad ea j y hj => ?_⟩
        obtain rfl := Option.some.inj ea
        have hl := (List.getElem?_eq_some_iff.1 hj).1
        rw [bytV_len] at hl
        rw [add_pl, Nat.zero_add]
        have hb := heap_alloc_new w.drew (.cells (bytesRow v (grownCap w v.size 0 e)) e ((bytesRow v (grownCap w v.size 0 e)).size, (bytesRow v (grownCap w v.size 0 e)).size + 1))
        have hd0 : w.drew.heap = w.heap := rfl
        rw [hd0] at hb
        simp only [World.cell?, hb]
        unfold bytesRow
        rw [Array.getElem?_append_left (by simpa using hl), ← hj]
        unfold bytV
        simp
      · cases h
    · cases h
  · cases h
end
end Go.Proofs.YteoejhjfbfacdaaGreatDoor.X
namespace Go.Proofs.YteoejhjfbfacdaaGreatDoor.X
open Go Go.RowKit Go.Proofs.YteoejhjfbfacdaaGreatDoor
theorem byt_cell {w : World} {b : Nat} {x : ByteArray} (h : Rd w (some ⟨b, 0, none⟩) (bytV x)) {i : Nat} (hi : i < x.size) : w.cell? ⟨b, 0 + ((i : Nat) : Int).toNat * 1, none⟩ = some (uX (bt x (i : Int))) := by
 rw [Int.toNat_natCast, Nat.mul_one]
 exact rd_at h i _ (bytV_get x hi)
def lowB (c : Int) : Bool := decide (32 ≤ c) && decide (c < 48)
def wideMB (c : Int) : Bool := lowB c || (decide (60 ≤ c) && decide (c ≤ 63))
theorem lowB_of {c : Int} (h : lowM c) : lowB c = true := by unfold lowB; simp [h.1, h.2]
theorem wideMB_of {c : Int} (h : wideM c) : wideMB c = true := by
 unfold wideMB
 rcases h with h | h
 ·rw [lowB_of h]; rfl
 simp [h.1, h.2]
set_option maxHeartbeats 4000000 in
theorem low_any (c : Int) (w : World) : Calls Tryz.prog 37 [uX c].toArray w fun e w' => e = .returned (.bool (lowB c)) ∧ Ch (fun _ => False) w w' := by
 refine yA Tryz.func37 rfl <| ysr <| yp 1 [] .z <| ye <| ysr <| yp 3 [] .z <| yw [5] (rM 32 c) (fun hC10 => ?_) fun hC10 => ?_
 ·refine yp 7 [] .z <| ye <| x_ret (yR1 (.bool (decide (c < 48))) ?_)
  refine ⟨?_, Up.ch (Up.refl w.heap.size w)⟩
  refine congrArg Ending.returned (congrArg Value.bool ?_)
  rw [Bool.eq_iff_iff]
  simp only [lowB, Bool.and_eq_true, decide_eq_true_eq, Bool.false_eq_true, true_iff, false_iff, iff_true, iff_false, not_and]
  omega
 refine yp 7 [] .z <| ye <| x_ret (yR1 (.bool false) ?_)
 refine ⟨?_, Up.ch (Up.refl w.heap.size w)⟩
 refine congrArg Ending.returned (congrArg Value.bool ?_)
 rw [Bool.eq_iff_iff]
 simp only [lowB, Bool.and_eq_true, decide_eq_true_eq, Bool.false_eq_true, true_iff, false_iff, iff_true, iff_false, not_and]
 omega
set_option maxHeartbeats 4000000 in
theorem wide_any (c : Int) (w : World) : Calls Tryz.prog 38 [uX c].toArray w fun e w' => e = .returned (.bool (wideMB c)) ∧ Ch (fun _ => False) w w' := by
 refine yA Tryz.func38 rfl <| ysr <| yp 1 [] .z <| ye <| ysr <| yp 1 [] .z <| yo (yQ (low_any (c) _) fun w11 hc10 => ?_)
 have hu12 := Up.step (Up.refl w.heap.size w) hc10 iZ
 refine yp 3 [] .z <| yw [5] (rY (lowB (c))) (fun hC13 => ?_) fun hC13 => ?_
 ·have hf14 := hC13
  refine yp 11 [] .z <| ye <| x_ret (yR1 (.bool true) ?_)
  refine ⟨congrArg Ending.returned (congrArg Value.bool ?_), Up.ch hu12⟩
  unfold wideMB
  first | (simp [*]; done) | (simp [*]; omega)
 have hf15 := hC13
 refine yp 6 [] .z <| yw [8] (rM 60 c) (fun hC16 => ?_) fun hC16 => ?_
 ·have hf17 := hC16
  refine yp 11 [] .z <| ye <| x_ret (yR1 (.bool (decide (c ≤ 63))) ?_)
  refine ⟨congrArg Ending.returned (congrArg Value.bool ?_), Up.ch hu12⟩
  unfold wideMB
  first | (simp [*]; done) | (simp [*]; omega)
 have hf18 := hC16
 refine yp 11 [] .z <| ye <| x_ret (yR1 (.bool false) ?_)
 refine ⟨congrArg Ending.returned (congrArg Value.bool ?_), Up.ch hu12⟩
 unfold wideMB
 first | (simp [*]; done) | (simp [*]; omega)
set_option maxHeartbeats 4000000 in
theorem marks_low (p : PS) (pa : Option Addr) (pn pc : Nat) (a : Int) (w : World) (ha : a ≤ (p.marks.size : Int) ∧ p.marks.size ≤ 2) (hm : allB lowM p.marks) : Calls Tryz.prog 36 [.agg #[iX p.state, uX p.utf.b0, uX p.utf.b1, uX p.utf.b2, iX p.utf.n, .string p.marks, .slice pa pn pc, .string p.text, iX p.within], iX a, iX 2, .func (.func 37) #[] #[]].toArray w fun e w' => e = .returned (.bool true) ∧ Ch (fun _ => False) w w' := by
 refine yA Tryz.func36 rfl <| ysr <| yo (yN [iX p.state, uX p.utf.b0, uX p.utf.b1, uX p.utf.b2, iX p.utf.n, .string p.marks, .slice pa pn pc, .string p.text, iX p.within] 54 fun w10 b11 hb12 hz13 hB14 hc15 => ?_)
 have hlo16 : w.heap.size ≤ b11 := by rw [hb12]; exact Ch.size (Up.refl w.heap.size w)
 have hu17 := Up.step (Up.refl w.heap.size w) hc15 iZ
 refine yp 2 [] .z <| ye <| ys <| ysr <| yp 6 [] (.l (hB14.c 5) .z) <| yw [16] (rL ((p.marks).size : Int) a) (fun hC18 => ?_) fun hC18 => ?_
 ·have hf19 := hC18
  exfalso; omega
 have hf20 := hC18
 refine yp 12 [] (.l (hB14.c 5) .z) <| ye <| yc (rL 2 ((p.marks).size : Int)) (fun hC21 => ?_) fun hC21 => ?_
 ·have hf22 := hC21
  exfalso; omega
 have hf23 := hC21
 refine yk <| ys <| ysr <| yp 2 [] (.l (hB14.c 5) .z) <| yo (e_tobytes p.marks (some 25) (by kernel_rfl) ?_)
 intro w24 b25 cap26 hb27 hz28 hr29 hc30
 have hlo31 : w.heap.size ≤ b25 := by rw [hb27]; exact Ch.size hu17
 have hu32 := Up.step hu17 hc30 iZ
 refine yp 5 [] .z <| ye <| x_block <| ykeep [3, 25, 26, 27] (f' := [(3, .func (.func 37) #[] #[]), (25, .slice (some ⟨b25, 0, none⟩) (p.marks).size cap26), (26, iX (((p.marks).size : Nat) : Int)), (27, iX 0)]) <| x_loop (σ := Nat) (fun k => [(3, .func (.func 37) #[] #[]), (25, .slice (some ⟨b25, 0, none⟩) (p.marks).size cap26), (26, iX (((p.marks).size : Nat) : Int)), (27, iX ((k : Nat) : Int))]) (fun k u => k ≤ (p.marks).size ∧ Rd u (some ⟨b25, 0, none⟩) (bytV p.marks) ∧ Ch (fun _ => False) w24 u) (fun k => (p.marks).size - k) 0 rfl ?_ ?_
 ·exact ⟨Nat.zero_le _, hr29, Ch.refl _ _⟩
 intro k w34 hI35 K36 hL37
 obtain ⟨hk, hrb, hc38⟩ := hI35
 have hu39 := Up.step hu32 hc38 iZ
 refine ysr <| yp 1 [] .z <| ye <| ys <| yc (rL ((k : Nat) : Int) (((p.marks).size : Nat) : Int)) (fun hC41 => ?_) fun hC41 => ?_
 ·have hbt := bt_range p.marks ((k : Nat) : Int)
  have hf42 := hC41
  refine yk <| ys <| x_block <| ysr <| yp 3 [] (.i ((k : Nat) : Int) ((p.marks).size) (.l (v := uX (bt p.marks ((k : Nat) : Int))) (byt_cell hrb (i := k) (by omega)) .z)) <| ye <| ysr <| yp 2 [] .z <| yo (yQT (low_any ((bt p.marks ((k : Nat) : Int))) _) fun w44 hc43 => ?_)
  have hL46 := Ch.trans hc38 hc43 eZ
  have hr48 := Ch.rd hc43 hrb id
  refine yp 4 [] .z <| ye <| yc (rN (rY (lowB ((bt p.marks ((k : Nat) : Int)))))) (fun hC49 => ?_) fun hC49 => ?_
  ·exact absurd hC49 (by rw [lowB_of (hm k (by omega))]; decide)
  refine x_skip (nB (nS ?_))
  refine x_region <| yp 2 [] (.q6 (((k : Nat) : Int) + 1) .z) <| yE (fun a ha => hL37 (k + 1) _ ⟨by omega, hr48, hL46⟩ (by show (p.marks).size - (k + 1) < (p.marks).size - k; omega) a (ha.kp [3, 25, 26, 27]))
 have hbt := bt_range p.marks ((k : Nat) : Int)
 have hf50 := hC41
 refine x_exit (eS (then_exit (block_exit (nS ?_))))
 refine ysr <| yp 1 [] .z <| ye <| x_ret (yR1 (.bool true) ?_)
 exact ⟨rfl, Up.ch hu39⟩
set_option maxHeartbeats 4000000 in
theorem marks_wide (p : PS) (pa : Option Addr) (pn pc : Nat) (a : Int) (w : World) (ha : a ≤ (p.marks.size : Int) ∧ p.marks.size ≤ 2) (hm : allB wideM p.marks) : Calls Tryz.prog 36 [.agg #[iX p.state, uX p.utf.b0, uX p.utf.b1, uX p.utf.b2, iX p.utf.n, .string p.marks, .slice pa pn pc, .string p.text, iX p.within], iX a, iX 2, .func (.func 38) #[] #[]].toArray w fun e w' => e = .returned (.bool true) ∧ Ch (fun _ => False) w w' := by
 refine yA Tryz.func36 rfl <| ysr <| yo (yN [iX p.state, uX p.utf.b0, uX p.utf.b1, uX p.utf.b2, iX p.utf.n, .string p.marks, .slice pa pn pc, .string p.text, iX p.within] 54 fun w10 b11 hb12 hz13 hB14 hc15 => ?_)
 have hlo16 : w.heap.size ≤ b11 := by rw [hb12]; exact Ch.size (Up.refl w.heap.size w)
 have hu17 := Up.step (Up.refl w.heap.size w) hc15 iZ
 refine yp 2 [] .z <| ye <| ys <| ysr <| yp 6 [] (.l (hB14.c 5) .z) <| yw [16] (rL ((p.marks).size : Int) a) (fun hC18 => ?_) fun hC18 => ?_
 ·have hf19 := hC18
  exfalso; omega
 have hf20 := hC18
 refine yp 12 [] (.l (hB14.c 5) .z) <| ye <| yc (rL 2 ((p.marks).size : Int)) (fun hC21 => ?_) fun hC21 => ?_
 ·have hf22 := hC21
  exfalso; omega
 have hf23 := hC21
 refine yk <| ys <| ysr <| yp 2 [] (.l (hB14.c 5) .z) <| yo (e_tobytes p.marks (some 25) (by kernel_rfl) ?_)
 intro w24 b25 cap26 hb27 hz28 hr29 hc30
 have hlo31 : w.heap.size ≤ b25 := by rw [hb27]; exact Ch.size hu17
 have hu32 := Up.step hu17 hc30 iZ
 refine yp 5 [] .z <| ye <| x_block <| ykeep [3, 25, 26, 27] (f' := [(3, .func (.func 38) #[] #[]), (25, .slice (some ⟨b25, 0, none⟩) (p.marks).size cap26), (26, iX (((p.marks).size : Nat) : Int)), (27, iX 0)]) <| x_loop (σ := Nat) (fun k => [(3, .func (.func 38) #[] #[]), (25, .slice (some ⟨b25, 0, none⟩) (p.marks).size cap26), (26, iX (((p.marks).size : Nat) : Int)), (27, iX ((k : Nat) : Int))]) (fun k u => k ≤ (p.marks).size ∧ Rd u (some ⟨b25, 0, none⟩) (bytV p.marks) ∧ Ch (fun _ => False) w24 u) (fun k => (p.marks).size - k) 0 rfl ?_ ?_
 ·exact ⟨Nat.zero_le _, hr29, Ch.refl _ _⟩
 intro k w34 hI35 K36 hL37
 obtain ⟨hk, hrb, hc38⟩ := hI35
 have hu39 := Up.step hu32 hc38 iZ
 refine ysr <| yp 1 [] .z <| ye <| ys <| yc (rL ((k : Nat) : Int) (((p.marks).size : Nat) : Int)) (fun hC41 => ?_) fun hC41 => ?_
 ·have hbt := bt_range p.marks ((k : Nat) : Int)
  have hf42 := hC41
  refine yk <| ys <| x_block <| ysr <| yp 3 [] (.i ((k : Nat) : Int) ((p.marks).size) (.l (v := uX (bt p.marks ((k : Nat) : Int))) (byt_cell hrb (i := k) (by omega)) .z)) <| ye <| ysr <| yp 2 [] .z <| yo (yQT (wide_any ((bt p.marks ((k : Nat) : Int))) _) fun w44 hc43 => ?_)
  have hL46 := Ch.trans hc38 hc43 eZ
  have hr48 := Ch.rd hc43 hrb id
  refine yp 4 [] .z <| ye <| yc (rN (rY (wideMB ((bt p.marks ((k : Nat) : Int)))))) (fun hC49 => ?_) fun hC49 => ?_
  ·exact absurd hC49 (by rw [wideMB_of (hm k (by omega))]; decide)
  refine x_skip (nB (nS ?_))
  refine x_region <| yp 2 [] (.q6 (((k : Nat) : Int) + 1) .z) <| yE (fun a ha => hL37 (k + 1) _ ⟨by omega, hr48, hL46⟩ (by show (p.marks).size - (k + 1) < (p.marks).size - k; omega) a (ha.kp [3, 25, 26, 27]))
 have hbt := bt_range p.marks ((k : Nat) : Int)
 have hf50 := hC41
 refine x_exit (eS (then_exit (block_exit (nS ?_))))
 refine ysr <| yp 1 [] .z <| ye <| x_ret (yR1 (.bool true) ?_)
 exact ⟨rfl, Up.ch hu39⟩
set_option maxHeartbeats 4000000 in
theorem ptext_any (p : PS) (pa : Option Addr) (pn pc : Nat) (w : World) (hz : p.text.size ≤ 40) (hm : allB (fun c => 32 ≤ c) p.text) : Calls Tryz.prog 40 [.agg #[iX p.state, uX p.utf.b0, uX p.utf.b1, uX p.utf.b2, iX p.utf.n, .string p.marks, .slice pa pn pc, .string p.text, iX p.within]].toArray w fun e w' => e = .returned (.bool true) ∧ Ch (fun _ => False) w w' := by
 refine yA Tryz.func40 rfl <| ysr <| yo (yN [iX p.state, uX p.utf.b0, uX p.utf.b1, uX p.utf.b2, iX p.utf.n, .string p.marks, .slice pa pn pc, .string p.text, iX p.within] 54 fun w10 b11 hb12 hz13 hB14 hc15 => ?_)
 have hlo16 : w.heap.size ≤ b11 := by rw [hb12]; exact Ch.size (Up.refl w.heap.size w)
 have hu17 := Up.step (Up.refl w.heap.size w) hc15 iZ
 refine yp 2 [] .z <| ye <| ys <| ysr <| yp 2 [] (.l (hB14.c 7) .z) <| yo (e_tobytes p.text (some 7) (by kernel_rfl) ?_)
 intro w18 b19 cap20 hb21 hz22 hr23 hc24
 have hlo25 : w.heap.size ≤ b19 := by rw [hb21]; exact Ch.size hu17
 have hu26 := Up.step hu17 hc24 iZ
 have hB27 := hB14.ch hc24 id
 refine yp 5 [] .z <| ye <| x_block <| ykeep [1, 7, 8, 9] (f' := [(1, pX b11), (7, .slice (some ⟨b19, 0, none⟩) (p.text).size cap20), (8, iX (((p.text).size : Nat) : Int)), (9, iX 0)]) <| x_loop (σ := Nat) (fun k => [(1, pX b11), (7, .slice (some ⟨b19, 0, none⟩) (p.text).size cap20), (8, iX (((p.text).size : Nat) : Int)), (9, iX ((k : Nat) : Int))]) (fun k u => k ≤ (p.text).size ∧ Rd u (some ⟨b19, 0, none⟩) (bytV p.text) ∧ Ch (fun _ => False) w18 u) (fun k => (p.text).size - k) 0 rfl ?_ ?_
 ·exact ⟨Nat.zero_le _, hr23, Ch.refl _ _⟩
 intro k w28 hI29 K30 hL31
 obtain ⟨hk, hrb, hc32⟩ := hI29
 have hu33 := Up.step hu26 hc32 iZ
 have hB34 := hB27.ch hc32 id
 refine ysr <| yp 1 [] .z <| ye <| ys <| yc (rL ((k : Nat) : Int) (((p.text).size : Nat) : Int)) (fun hC35 => ?_) fun hC35 => ?_
 ·have hbt := bt_range p.text ((k : Nat) : Int)
  have hf36 := hC35
  refine yk <| ys <| x_block <| ysr <| yp 3 [] (.i ((k : Nat) : Int) ((p.text).size) (.l (v := uX (bt p.text ((k : Nat) : Int))) (byt_cell hrb (i := k) (by omega)) .z)) <| ye <| ysr <| yp 2 [] .z <| ye <| yc (rL (bt p.text ((k : Nat) : Int)) 32) (fun hC37 => ?_) fun hC37 => ?_
  ·exact absurd (hm k (by omega)) (by omega)
  have hf38 := hC37
  refine x_skip (nB (nS ?_))
  refine x_region <| yp 2 [] (.q6 (((k : Nat) : Int) + 1) .z) <| yE (fun a ha => hL31 (k + 1) _ ⟨by omega, hrb, hc32⟩ (by show (p.text).size - (k + 1) < (p.text).size - k; omega) a (ha.kp [1, 7, 8, 9]))
 have hbt := bt_range p.text ((k : Nat) : Int)
 have hf39 := hC35
 refine x_exit (eS (then_exit (block_exit (nS ?_))))
 refine ysr <| yp 5 [] (.l (hB34.c 7) .z) <| ye <| x_ret (yR1 (.bool (decide (((p.text).size : Int) ≤ 40))) ?_)
 refine ⟨congrArg Ending.returned (congrArg Value.bool ?_), Up.ch hu33⟩
 simp only [decide_eq_true_eq]
 omega
theorem ints_cell64 {w : World} {b o : Nat} {l : List Int} (h : Rd w (some ⟨b, o, none⟩) (l.map (Value.int .i64))) {k : Nat} (hk : k < l.length) : w.cell? ⟨b, o + ((k : Nat) : Int).toNat * 1, none⟩ = some (iX (l.getD k 0)) := by
 rw [Int.toNat_natCast, Nat.mul_one]
 refine rd_at h k _ ?_
 rw [List.getElem?_map, List.getElem?_eq_getElem hk]
 simp [List.getD, List.getElem?_eq_getElem hk]
set_option maxHeartbeats 4000000 in
theorem numbers_any (p : PS) (pa : Option Addr) (pn pc : Nat) (w : World) (hr : Rd w pa (p.params.map (Value.int .i64))) (hl : p.params.length = pn) (hz : pn = 0 ∨ ∃ b o, pa = some ⟨b, o, none⟩) (hn : pn ≤ 8) (hb : ∀ x ∈ p.params, 0 ≤ x ∧ x ≤ 9999) : Calls Tryz.prog 39 [.agg #[iX p.state, uX p.utf.b0, uX p.utf.b1, uX p.utf.b2, iX p.utf.n, .string p.marks, .slice pa pn pc, .string p.text, iX p.within]].toArray w fun e w' => e = .returned (.bool true) ∧ Ch (fun _ => False) w w' := by
 refine yA Tryz.func39 rfl <| ysr <| yo (yN [iX p.state, uX p.utf.b0, uX p.utf.b1, uX p.utf.b2, iX p.utf.n, .string p.marks, .slice pa pn pc, .string p.text, iX p.within] 54 fun w10 b11 hb12 hz13 hB14 hc15 => ?_)
 have hlo16 : w.heap.size ≤ b11 := by rw [hb12]; exact Ch.size (Up.refl w.heap.size w)
 have hu17 := Up.step (Up.refl w.heap.size w) hc15 iZ
 have hr18 := Rd.ch hr hc15 iZ
 refine yp 2 [] .z <| ye <| ys <| ysr <| yp 4 [] (.l (hB14.c 6) .z) <| ye <| x_block <| ykeep [1, 6, 7, 8] (f' := [(1, pX b11), (6, .slice pa pn pc), (7, iX ((pn : Nat) : Int)), (8, iX 0)]) <| x_loop (σ := Nat) (fun k => [(1, pX b11), (6, .slice pa pn pc), (7, iX ((pn : Nat) : Int)), (8, iX ((k : Nat) : Int))]) (fun k u => k ≤ pn ∧ Ch (fun _ => False) w10 u) (fun k => pn - k) 0 rfl ?_ ?_
 ·exact ⟨Nat.zero_le _, Ch.refl _ _⟩
 intro k w19 hI20 K21 hL22
 obtain ⟨hk, hc23⟩ := hI20
 have hu24 := Up.step hu17 hc23 iZ
 have hr25 := Rd.ch hr18 hc23 iZ
 have hB26 := hB14.ch hc23 id
 refine ysr <| yp 1 [] .z <| ye <| ys <| yc (rL ((k : Nat) : Int) ((pn : Nat) : Int)) (fun hC27 => ?_) fun hC27 => ?_
 ·obtain ⟨pb, po, rfl⟩ := hz.resolve_left (by omega)
  have hgb := getD_bd hb (by decide) k
  have hf28 := hC27
  refine yk <| ys <| x_block <| ysr <| yp 3 [] (.i ((k : Nat) : Int) (pn) (.l (o := (po + (((k : Nat) : Int)).toNat * 1)) (ints_cell64 hr25 (by omega)) .z)) <| ye <| ysr <| yp 3 [] .z <| yw [14] (rL (p.params.getD k 0) 0) (fun hC29 => ?_) fun hC29 => ?_
  ·exfalso; omega
  have hf30 := hC29
  refine yp 6 [] .z <| ye <| yc (rL 9999 (p.params.getD k 0)) (fun hC31 => ?_) fun hC31 => ?_
  ·exfalso; omega
  have hf32 := hC31
  refine x_skip (nB (nS ?_))
  refine x_region <| yp 2 [] (.q6 (((k : Nat) : Int) + 1) .z) <| yE (fun a ha => hL22 (k + 1) _ ⟨by omega, hc23⟩ (by show pn - (k + 1) < pn - k; omega) a (ha.kp [1, 6, 7, 8]))
 have hf33 := hC27
 refine x_exit (eS (then_exit (block_exit (nS ?_))))
 refine ysr <| yp 5 [] (.l (hB26.c 6) .z) <| ye <| x_ret (yR1 (.bool (decide (((pn : Nat) : Int) ≤ 8))) ?_)
 refine ⟨congrArg Ending.returned (congrArg Value.bool ?_), Up.ch hu24⟩
 simp only [decide_eq_true_eq]
 omega
set_option maxHeartbeats 4000000 in
theorem uright_0 (w : World) (hU : UTabs w) : Calls Tryz.prog 35 [.agg #[uX 0, uX 0, uX 0, iX 0]].toArray w fun e w' => e = .returned (.bool true) ∧ Ch (fun _ => False) w w' := by
 refine yA Tryz.func35 rfl <| ysr <| yo (yN [uX 0, uX 0, uX 0, iX 0] 51 fun w10 b11 hb12 hz13 hB14 hc15 => ?_)
 have hlo16 : w.heap.size ≤ b11 := by rw [hb12]; exact Ch.size (Up.refl w.heap.size w)
 have hu17 := Up.step (Up.refl w.heap.size w) hc15 iZ
 refine yp 2 [] .z <| ye <| ys <| ysr <| yp 8 [] (.l (hB14.c 3) (.l (hB14.c 3) .z)) <| ye <| ycf <| yk <| ys <| ysr <| yp 6 [3] (.l (hB14.c 3) (.j 0 (3) (.p (q := 0 < 3) (by omega) .z))) <| ye <| x_block <| yU 4 (yU1 ?_)
 refine ysr <| yp 1 [] .z <| ye <| ys <| yct <| yk <| ys <| x_block <| ysr <| yp 3 [] (.i 0 (3) (.l (hB14.c 0) .z)) <| ye <| ysr <| yp 2 [] .z <| ye <| ycf <| x_skip (nB (nS ?_))
 refine x_region <| yp 2 [] (.q6 1 .z) <| yE (nU (yU1 ?_))
 refine ysr <| yp 1 [] .z <| ye <| ys <| yct <| yk <| ys <| x_block <| ysr <| yp 3 [] (.i 1 (3) (.l (hB14.c 1) .z)) <| ye <| ysr <| yp 2 [] .z <| ye <| ycf <| x_skip (nB (nS ?_))
 refine x_region <| yp 2 [] (.q6 2 .z) <| yE (nU (yU1 ?_))
 refine ysr <| yp 1 [] .z <| ye <| ys <| yct <| yk <| ys <| x_block <| ysr <| yp 3 [] (.i 2 (3) (.l (hB14.c 2) .z)) <| ye <| ysr <| yp 2 [] .z <| ye <| ycf <| x_skip (nB (nS ?_))
 refine x_region <| yp 2 [] (.q6 3 .z) <| yE (nU (yU1 ?_))
 refine ysr <| yp 1 [] .z <| ye <| ys <| ycf <| x_exit (eS (then_exit (block_exit (nS ?_))))
 refine ysr <| yp 12 [] (.l (hB14.c 3) .z) <| ye <| x_ret (yR1 (.bool true) ?_)
 refine ⟨congrArg Ending.returned (congrArg Value.bool ?_), Up.ch hu17⟩
 rfl
set_option maxHeartbeats 4000000 in
theorem uright_1 (x0 : Int) (w : World) (hU : UTabs w) (hB : ∀ x ∈ ([x0] : List Int), 0 ≤ x ∧ x ≤ 255) (hf : fullB [x0] = false) : Calls Tryz.prog 35 [.agg #[uX x0, uX 0, uX 0, iX 1]].toArray w fun e w' => e = .returned (.bool true) ∧ Ch (fun _ => False) w w' := by
 refine yA Tryz.func35 rfl <| ysr <| yo (yN [uX x0, uX 0, uX 0, iX 1] 51 fun w10 b11 hb12 hz13 hB14 hc15 => ?_)
 have hlo16 : w.heap.size ≤ b11 := by rw [hb12]; exact Ch.size (Up.refl w.heap.size w)
 have hu17 := Up.step (Up.refl w.heap.size w) hc15 iZ
 have hU18 := utabs_ch hc15 hU id id
 refine yp 2 [] .z <| ye <| ys <| ysr <| yp 8 [] (.l (hB14.c 3) (.l (hB14.c 3) .z)) <| ye <| ycf <| yk <| ys <| ysr <| yp 6 [3] (.l (hB14.c 3) (.j 1 (3) (.p (q := 1 < 3) (by omega) .z))) <| ye <| x_block <| yU 3 (yU1 ?_)
 refine ysr <| yp 1 [] .z <| ye <| ys <| yct <| yk <| ys <| x_block <| ysr <| yp 3 [] (.i 0 (2) (.l (hB14.c 1) .z)) <| ye <| ysr <| yp 2 [] .z <| ye <| ycf <| x_skip (nB (nS ?_))
 refine x_region <| yp 2 [] (.q6 1 .z) <| yE (nU (yU1 ?_))
 refine ysr <| yp 1 [] .z <| ye <| ys <| yct <| yk <| ys <| x_block <| ysr <| yp 3 [] (.i 1 (2) (.l (hB14.c 2) .z)) <| ye <| ysr <| yp 2 [] .z <| ye <| ycf <| x_skip (nB (nS ?_))
 refine x_region <| yp 2 [] (.q6 2 .z) <| yE (nU (yU1 ?_))
 refine ysr <| yp 1 [] .z <| ye <| ys <| ycf <| x_exit (eS (then_exit (block_exit (nS ?_))))
 refine ysr <| yp 8 [] (.l (hB14.c 3) (.l (hB14.c 3) (.j 1 (3) .z))) <| yo (yQ (fullrune_any b11 0 3 [x0] hU18 (Rd.pre (ys := [x0].map (Value.int .u8)) (r := [uX 0, uX 0, iX 1]) hB14) hB14.lt hB (of_ble rfl)) fun w20 hc19 => ?_)
 have hu21 := Up.step hu17 hc19 iZ
 refine yp 12 [] .z <| ye <| x_ret (yR1 (.bool (!(fullB [x0]))) ?_)
 refine ⟨congrArg Ending.returned (congrArg Value.bool ?_), Up.ch hu21⟩
 rw [hf]; rfl
set_option maxHeartbeats 4000000 in
theorem uright_2 (x0 : Int) (x1 : Int) (w : World) (hU : UTabs w) (hB : ∀ x ∈ ([x0, x1] : List Int), 0 ≤ x ∧ x ≤ 255) (hf : fullB [x0, x1] = false) : Calls Tryz.prog 35 [.agg #[uX x0, uX x1, uX 0, iX 2]].toArray w fun e w' => e = .returned (.bool true) ∧ Ch (fun _ => False) w w' := by
 refine yA Tryz.func35 rfl <| ysr <| yo (yN [uX x0, uX x1, uX 0, iX 2] 51 fun w10 b11 hb12 hz13 hB14 hc15 => ?_)
 have hlo16 : w.heap.size ≤ b11 := by rw [hb12]; exact Ch.size (Up.refl w.heap.size w)
 have hu17 := Up.step (Up.refl w.heap.size w) hc15 iZ
 have hU18 := utabs_ch hc15 hU id id
 refine yp 2 [] .z <| ye <| ys <| ysr <| yp 8 [] (.l (hB14.c 3) (.l (hB14.c 3) .z)) <| ye <| ycf <| yk <| ys <| ysr <| yp 6 [3] (.l (hB14.c 3) (.j 2 (3) (.p (q := 2 < 3) (by omega) .z))) <| ye <| x_block <| yU 2 (yU1 ?_)
 refine ysr <| yp 1 [] .z <| ye <| ys <| yct <| yk <| ys <| x_block <| ysr <| yp 3 [] (.i 0 (1) (.l (hB14.c 2) .z)) <| ye <| ysr <| yp 2 [] .z <| ye <| ycf <| x_skip (nB (nS ?_))
 refine x_region <| yp 2 [] (.q6 1 .z) <| yE (nU (yU1 ?_))
 refine ysr <| yp 1 [] .z <| ye <| ys <| ycf <| x_exit (eS (then_exit (block_exit (nS ?_))))
 refine ysr <| yp 8 [] (.l (hB14.c 3) (.l (hB14.c 3) (.j 2 (3) .z))) <| yo (yQ (fullrune_any b11 0 3 [x0, x1] hU18 (Rd.pre (ys := [x0, x1].map (Value.int .u8)) (r := [uX 0, iX 2]) hB14) hB14.lt hB (of_ble rfl)) fun w20 hc19 => ?_)
 have hu21 := Up.step hu17 hc19 iZ
 refine yp 12 [] .z <| ye <| x_ret (yR1 (.bool (!(fullB [x0, x1]))) ?_)
 refine ⟨congrArg Ending.returned (congrArg Value.bool ?_), Up.ch hu21⟩
 rw [hf]; rfl
set_option maxHeartbeats 4000000 in
theorem uright_3 (x0 : Int) (x1 : Int) (x2 : Int) (w : World) (hU : UTabs w) (hB : ∀ x ∈ ([x0, x1, x2] : List Int), 0 ≤ x ∧ x ≤ 255) (hf : fullB [x0, x1, x2] = false) : Calls Tryz.prog 35 [.agg #[uX x0, uX x1, uX x2, iX 3]].toArray w fun e w' => e = .returned (.bool true) ∧ Ch (fun _ => False) w w' := by
 refine yA Tryz.func35 rfl <| ysr <| yo (yN [uX x0, uX x1, uX x2, iX 3] 51 fun w10 b11 hb12 hz13 hB14 hc15 => ?_)
 have hlo16 : w.heap.size ≤ b11 := by rw [hb12]; exact Ch.size (Up.refl w.heap.size w)
 have hu17 := Up.step (Up.refl w.heap.size w) hc15 iZ
 have hU18 := utabs_ch hc15 hU id id
 refine yp 2 [] .z <| ye <| ys <| ysr <| yp 8 [] (.l (hB14.c 3) (.l (hB14.c 3) .z)) <| ye <| ycf <| yk <| ys <| ysr <| yp 6 [] (.l (hB14.c 3) (.j 3 (3) .z)) <| ye <| x_block <| yU 1 (yU1 ?_)
 refine ysr <| yp 1 [] .z <| ye <| ys <| ycf <| x_exit (eS (then_exit (block_exit (nS ?_))))
 refine ysr <| yp 8 [] (.l (hB14.c 3) (.l (hB14.c 3) (.j 3 (3) .z))) <| yo (yQ (fullrune_any b11 0 3 [x0, x1, x2] hU18 (Rd.pre (ys := [x0, x1, x2].map (Value.int .u8)) (r := [iX 3]) hB14) hB14.lt hB (of_ble rfl)) fun w20 hc19 => ?_)
 have hu21 := Up.step hu17 hc19 iZ
 refine yp 12 [] .z <| ye <| x_ret (yR1 (.bool (!(fullB [x0, x1, x2]))) ?_)
 refine ⟨congrArg Ending.returned (congrArg Value.bool ?_), Up.ch hu21⟩
 rw [hf]; rfl
theorem uright_any (u : US) (w : World) (hU : UTabs w) (h : uR u) (ho : u.ok) : Calls Tryz.prog 35 [.agg #[uX u.b0, uX u.b1, uX u.b2, iX u.n]].toArray w fun e w' => e = .returned (.bool true) ∧ Ch (fun _ => False) w w' := by
 obtain ⟨a, b, c, n⟩ := u
 obtain ⟨⟨h1, h2⟩, h3, h4, h5, h6⟩ := h
 obtain ⟨_, o1, o2, o3⟩ := ho
 dsimp only at *
 have hn : n = 0 ∨ n = 1 ∨ n = 2 ∨ n = 3 := by omega
 rcases hn with rfl | rfl | rfl | rfl
 ·obtain rfl := h3 (by decide)
  obtain rfl := h4 (by decide)
  obtain rfl := h5 (by decide)
  exact uright_0 w hU
 ·obtain rfl := h4 (by decide)
  obtain rfl := h5 (by decide)
  exact uright_1 a w hU (fun x hx => by rw [List.mem_singleton.1 hx]; exact o1) (h6.resolve_left (by decide))
 ·obtain rfl := h5 (by decide)
  exact uright_2 a b w hU (fun x hx => by simp only [List.mem_cons, List.not_mem_nil, or_false] at hx; rcases hx with rfl | rfl <;> assumption) (h6.resolve_left (by decide))
 exact uright_3 a b c w hU (fun x hx => by simp only [List.mem_cons, List.not_mem_nil, or_false] at hx; rcases hx with rfl | rfl | rfl <;> assumption) (h6.resolve_left (by decide))
set_option maxHeartbeats 4000000 in
theorem right_0 (x0 x1 x2 n : Int) (pa : Option Addr) (pc : Nat) (w : World) (hU : UTabs w) (hu : uR (US.mk x0 x1 x2 n)) (ho : (US.mk x0 x1 x2 n).ok) : Calls Tryz.prog 18 [.agg #[iX 0, uX x0, uX x1, uX x2, iX n, .string ByteArray.empty, .slice pa 0 pc, .string ByteArray.empty, iX 0]].toArray w fun e w' => e = .returned (.bool true) ∧ Ch (fun _ => False) w w' := by
 refine yA Tryz.func18 rfl <| ysr <| yo (yN [iX 0, uX x0, uX x1, uX x2, iX n, .string ByteArray.empty, .slice pa 0 pc, .string ByteArray.empty, iX 0] 54 fun w10 b11 hb12 hz13 hB14 hc15 => ?_)
 have hlo16 : w.heap.size ≤ b11 := by rw [hb12]; exact Ch.size (Up.refl w.heap.size w)
 have hu17 := Up.step (Up.refl w.heap.size w) hc15 iZ
 have hU18 := utabs_ch hc15 hU id id
 refine yp 2 [] .z <| ye <| ysr <| yp 5 [] (.a (hB14.cs 1 4) .z) <| ye <| ysr <| yp 4 [] (.l (hB14.c 5) .z) <| yw [12] (rY ((ByteArray.empty).toList == (ByteArray.empty).toList)) (fun hC19 => ?_) fun hC19 => ?_
 ·have hf20 := hC19
  refine yp 10 [] (.l (hB14.c 6) .z) <| ye <| ys <| ysr <| yp 17 [] (.l (hB14.c 0) (.l (hB14.c 8) (.l (hB14.c 0) .z))) <| ye <| ycf <| yk <| ys <| ysr <| yp 2 [] (.l (hB14.c 0) .z) <| ye <| x_block <| ys <| x_block <| ys <| x_block <| ys <| x_block <| ys <| x_block <| ys <| x_block <| ys <| x_block <| ys <| ys <| ysr <| yp 2 [] .z <| ye <| yct <| x_exit (eS (eS (block_exit (nS ?_))))
  refine ys <| ysr <| yp 2 [] (.a (hB14.cs 1 4) .z) <| yo (yQ (uright_any (US.mk (x0) (x1) (x2) (n)) _ hU18 hu ho) fun w22 hc21 => ?_)
  have hu23 := Up.step hu17 hc21 iZ
  have hB25 := hB14.ch hc21 id
  refine yp 12 [] (.l (hB25.c 7) .z) <| ye <| x_ret (rS (rB (rS (rB (rS (rB (rS (rB (rS (rB (rS (rB (rS (yR1 (.bool ((ByteArray.empty).toList == (ByteArray.empty).toList)) ?_))))))))))))))
  refine ⟨congrArg Ending.returned (congrArg Value.bool ?_), Up.ch hu23⟩
  first | rfl | simp
 exact absurd hC19 (by simp)
set_option maxHeartbeats 4000000 in
theorem right_1  (pa : Option Addr) (pc : Nat) (w : World)  : Calls Tryz.prog 18 [.agg #[iX 1, uX 0, uX 0, uX 0, iX 0, .string ByteArray.empty, .slice pa 0 pc, .string ByteArray.empty, iX 0]].toArray w fun e w' => e = .returned (.bool true) ∧ Ch (fun _ => False) w w' := by
 refine yA Tryz.func18 rfl <| ysr <| yo (yN [iX 1, uX 0, uX 0, uX 0, iX 0, .string ByteArray.empty, .slice pa 0 pc, .string ByteArray.empty, iX 0] 54 fun w10 b11 hb12 hz13 hB14 hc15 => ?_)
 have hlo16 : w.heap.size ≤ b11 := by rw [hb12]; exact Ch.size (Up.refl w.heap.size w)
 have hu17 := Up.step (Up.refl w.heap.size w) hc15 iZ
 refine yp 2 [] .z <| ye <| ysr <| yp 5 [] (.a (hB14.cs 1 4) .z) <| ye <| ysr <| yp 4 [] (.l (hB14.c 5) .z) <| yw [12] (rY ((ByteArray.empty).toList == (ByteArray.empty).toList)) (fun hC18 => ?_) fun hC18 => ?_
 ·have hf19 := hC18
  refine yp 10 [] (.l (hB14.c 6) .z) <| ye <| ys <| ysr <| yp 17 [] (.l (hB14.c 0) (.l (hB14.c 8) (.l (hB14.c 0) .z))) <| ye <| yc (rN (rY ((((0 : Int) == 0) && (((0 : Int) == 0) && (((0 : Int) == 0) && true))) && (((0 : Int) == 0) && true)))) (fun hC20 => ?_) fun hC20 => ?_
  ·exact absurd hC20 (by decide)
  have hf21 := hC20
  refine yk <| ys <| ysr <| yp 2 [] (.l (hB14.c 0) .z) <| ye <| x_block <| ys <| x_block <| ys <| x_block <| ys <| x_block <| ys <| x_block <| ys <| x_block <| ys <| x_block <| ys <| ys <| ysr <| yp 2 [] .z <| ye <| ycf <| yk <| ys <| ysr <| yp 2 [] .z <| ye <| yct <| x_exit (eS (eS (eB (eS (block_exit (nS ?_))))))
  refine ys <| ysr <| yp 7 [] (.l (hB14.c 7) .z) <| ye <| x_ret (rS (rB (rS (rB (rS (rB (rS (rB (rS (rB (rS (yR1 (.bool ((ByteArray.empty).toList == (ByteArray.empty).toList)) ?_))))))))))))
  refine ⟨congrArg Ending.returned (congrArg Value.bool ?_), Up.ch hu17⟩
  first | rfl | simp
 exact absurd hC18 (by simp)
set_option maxHeartbeats 4000000 in
theorem right_2 (m : ByteArray) (pa : Option Addr) (pc : Nat) (w : World) (hma : (1 : Int) ≤ (m.size : Int) ∧ m.size ≤ 2) (hmm : allB lowM m) : Calls Tryz.prog 18 [.agg #[iX 2, uX 0, uX 0, uX 0, iX 0, .string m, .slice pa 0 pc, .string ByteArray.empty, iX 0]].toArray w fun e w' => e = .returned (.bool true) ∧ Ch (fun _ => False) w w' := by
 refine yA Tryz.func18 rfl <| ysr <| yo (yN [iX 2, uX 0, uX 0, uX 0, iX 0, .string m, .slice pa 0 pc, .string ByteArray.empty, iX 0] 54 fun w10 b11 hb12 hz13 hB14 hc15 => ?_)
 have hlo16 : w.heap.size ≤ b11 := by rw [hb12]; exact Ch.size (Up.refl w.heap.size w)
 have hu17 := Up.step (Up.refl w.heap.size w) hc15 iZ
 refine yp 2 [] .z <| ye <| ysr <| yp 5 [] (.a (hB14.cs 1 4) .z) <| ye <| ysr <| yp 4 [] (.l (hB14.c 5) .z) <| yw [12] (rY ((m).toList == (ByteArray.empty).toList)) (fun hC18 => ?_) fun hC18 => ?_
 ·have hf19 := hC18
  refine yp 10 [] (.l (hB14.c 6) .z) <| ye <| ys <| ysr <| yp 17 [] (.l (hB14.c 0) (.l (hB14.c 8) (.l (hB14.c 0) .z))) <| ye <| yc (rN (rY ((((0 : Int) == 0) && (((0 : Int) == 0) && (((0 : Int) == 0) && true))) && (((0 : Int) == 0) && true)))) (fun hC20 => ?_) fun hC20 => ?_
  ·exact absurd hC20 (by decide)
  have hf21 := hC20
  refine yk <| ys <| ysr <| yp 2 [] (.l (hB14.c 0) .z) <| ye <| x_block <| ys <| x_block <| ys <| x_block <| ys <| x_block <| ys <| x_block <| ys <| x_block <| ys <| x_block <| ys <| ys <| ysr <| yp 2 [] .z <| ye <| ycf <| yk <| ys <| ysr <| yp 2 [] .z <| ye <| ycf <| yk <| ys <| ysr <| yp 2 [] .z <| ye <| yct <| x_exit (eS (eS (eB (eS (eB (eS (block_exit (nS ?_))))))))
  refine ys <| ysr <| yp 1 [] (.a (hB14.cs 0 9) .z) <| yo (yQ (marks_low (PS.mk (2) ⟨0, 0, 0, 0⟩ m [] ByteArray.empty (0)) pa (0) (pc) (1) _ hma hmm) fun w23 hc22 => ?_)
  have hu24 := Up.step hu17 hc22 iZ
  have hB25 := hB14.ch hc22 id
  refine yp 14 [] (.l (hB25.c 6) (.l (hB25.c 7) .z)) <| ye <| x_ret (rS (rB (rS (rB (rS (rB (rS (rB (rS (yR1 (.bool ((ByteArray.empty).toList == (ByteArray.empty).toList)) ?_))))))))))
  refine ⟨congrArg Ending.returned (congrArg Value.bool ?_), Up.ch hu24⟩
  first | rfl | simp
 have hf26 := hC18
 refine yp 10 [] .z <| ye <| ys <| ysr <| yp 17 [] (.l (hB14.c 0) (.l (hB14.c 8) (.l (hB14.c 0) .z))) <| ye <| yc (rN (rY ((((0 : Int) == 0) && (((0 : Int) == 0) && (((0 : Int) == 0) && true))) && (((0 : Int) == 0) && true)))) (fun hC27 => ?_) fun hC27 => ?_
 ·exact absurd hC27 (by decide)
 have hf28 := hC27
 refine yk <| ys <| ysr <| yp 2 [] (.l (hB14.c 0) .z) <| ye <| x_block <| ys <| x_block <| ys <| x_block <| ys <| x_block <| ys <| x_block <| ys <| x_block <| ys <| x_block <| ys <| ys <| ysr <| yp 2 [] .z <| ye <| ycf <| yk <| ys <| ysr <| yp 2 [] .z <| ye <| ycf <| yk <| ys <| ysr <| yp 2 [] .z <| ye <| yct <| x_exit (eS (eS (eB (eS (eB (eS (block_exit (nS ?_))))))))
 refine ys <| ysr <| yp 1 [] (.a (hB14.cs 0 9) .z) <| yo (yQ (marks_low (PS.mk (2) ⟨0, 0, 0, 0⟩ m [] ByteArray.empty (0)) pa (0) (pc) (1) _ hma hmm) fun w30 hc29 => ?_)
 have hu31 := Up.step hu17 hc29 iZ
 have hB32 := hB14.ch hc29 id
 refine yp 14 [] (.l (hB32.c 6) (.l (hB32.c 7) .z)) <| ye <| x_ret (rS (rB (rS (rB (rS (rB (rS (rB (rS (yR1 (.bool ((ByteArray.empty).toList == (ByteArray.empty).toList)) ?_))))))))))
 refine ⟨congrArg Ending.returned (congrArg Value.bool ?_), Up.ch hu31⟩
 first | rfl | simp
set_option maxHeartbeats 4000000 in
theorem right_3 (m : ByteArray) (l : List Int) (pn : Nat) (pa : Option Addr) (pc : Nat) (w : World) (hma : (0 : Int) ≤ (m.size : Int) ∧ m.size ≤ 2) (hmm : allB wideM m) (hr : Rd w pa (l.map (Value.int .i64))) (hl : l.length = pn) (hz : pn = 0 ∨ ∃ b o, pa = some ⟨b, o, none⟩) (hn : pn ≤ 8) (hb : ∀ x ∈ l, 0 ≤ x ∧ x ≤ 9999) : Calls Tryz.prog 18 [.agg #[iX 3, uX 0, uX 0, uX 0, iX 0, .string m, .slice pa pn pc, .string ByteArray.empty, iX 0]].toArray w fun e w' => e = .returned (.bool true) ∧ Ch (fun _ => False) w w' := by
 refine yA Tryz.func18 rfl <| ysr <| yo (yN [iX 3, uX 0, uX 0, uX 0, iX 0, .string m, .slice pa pn pc, .string ByteArray.empty, iX 0] 54 fun w10 b11 hb12 hz13 hB14 hc15 => ?_)
 have hlo16 : w.heap.size ≤ b11 := by rw [hb12]; exact Ch.size (Up.refl w.heap.size w)
 have hu17 := Up.step (Up.refl w.heap.size w) hc15 iZ
 have hr18 := Rd.ch hr hc15 iZ
 refine yp 2 [] .z <| ye <| ysr <| yp 5 [] (.a (hB14.cs 1 4) .z) <| ye <| ysr <| yp 4 [] (.l (hB14.c 5) .z) <| yw [12] (rY ((m).toList == (ByteArray.empty).toList)) (fun hC19 => ?_) fun hC19 => ?_
 ·have hf20 := hC19
  refine yp 10 [] (.l (hB14.c 6) .z) <| ye <| ys <| ysr <| yp 17 [] (.l (hB14.c 0) (.l (hB14.c 8) (.l (hB14.c 0) .z))) <| ye <| yc (rN (rY ((((0 : Int) == 0) && (((0 : Int) == 0) && (((0 : Int) == 0) && true))) && (((0 : Int) == 0) && true)))) (fun hC21 => ?_) fun hC21 => ?_
  ·exact absurd hC21 (by decide)
  have hf22 := hC21
  refine yk <| ys <| ysr <| yp 2 [] (.l (hB14.c 0) .z) <| ye <| x_block <| ys <| x_block <| ys <| x_block <| ys <| x_block <| ys <| x_block <| ys <| x_block <| ys <| x_block <| ys <| ys <| ysr <| yp 2 [] .z <| ye <| ycf <| yk <| ys <| ysr <| yp 2 [] .z <| ye <| ycf <| yk <| ys <| ysr <| yp 2 [] .z <| ye <| ycf <| yk <| ys <| ys <| ysr <| yp 2 [] .z <| ye <| yct <| yk <| yct <| x_exit (eS (eS (eB (eS (eB (eS (eB (eS (block_exit (nS ?_))))))))))
  refine ys <| ysr <| yp 1 [] (.a (hB14.cs 0 9) .z) <| yo (yQ (marks_wide (PS.mk (3) ⟨0, 0, 0, 0⟩ m l ByteArray.empty (0)) pa (pn) (pc) (0) _ hma hmm) fun w24 hc23 => ?_)
  have hu25 := Up.step hu17 hc23 iZ
  have hr26 := Rd.ch hr18 hc23 iZ
  have hB27 := hB14.ch hc23 id
  refine yp 4 [] (.a (hB27.cs 0 9) .z) <| yo (yQ (numbers_any (PS.mk (3) ⟨0, 0, 0, 0⟩ m l ByteArray.empty (0)) pa (pn) (pc) _ hr26 hl hz hn hb) fun w29 hc28 => ?_)
  have hu30 := Up.step hu25 hc28 iZ
  have hB32 := hB27.ch hc28 id
  refine yp 12 [] (.l (hB32.c 7) .z) <| ye <| x_ret (rS (rB (rS (rB (rS (rB (rS (yR1 (.bool ((ByteArray.empty).toList == (ByteArray.empty).toList)) ?_))))))))
  refine ⟨congrArg Ending.returned (congrArg Value.bool ?_), Up.ch hu30⟩
  first | rfl | simp
 have hf33 := hC19
 refine yp 10 [] .z <| ye <| ys <| ysr <| yp 17 [] (.l (hB14.c 0) (.l (hB14.c 8) (.l (hB14.c 0) .z))) <| ye <| yc (rN (rY ((((0 : Int) == 0) && (((0 : Int) == 0) && (((0 : Int) == 0) && true))) && (((0 : Int) == 0) && true)))) (fun hC34 => ?_) fun hC34 => ?_
 ·exact absurd hC34 (by decide)
 have hf35 := hC34
 refine yk <| ys <| ysr <| yp 2 [] (.l (hB14.c 0) .z) <| ye <| x_block <| ys <| x_block <| ys <| x_block <| ys <| x_block <| ys <| x_block <| ys <| x_block <| ys <| x_block <| ys <| ys <| ysr <| yp 2 [] .z <| ye <| ycf <| yk <| ys <| ysr <| yp 2 [] .z <| ye <| ycf <| yk <| ys <| ysr <| yp 2 [] .z <| ye <| ycf <| yk <| ys <| ys <| ysr <| yp 2 [] .z <| ye <| yct <| yk <| yct <| x_exit (eS (eS (eB (eS (eB (eS (eB (eS (block_exit (nS ?_))))))))))
 refine ys <| ysr <| yp 1 [] (.a (hB14.cs 0 9) .z) <| yo (yQ (marks_wide (PS.mk (3) ⟨0, 0, 0, 0⟩ m l ByteArray.empty (0)) pa (pn) (pc) (0) _ hma hmm) fun w37 hc36 => ?_)
 have hu38 := Up.step hu17 hc36 iZ
 have hr39 := Rd.ch hr18 hc36 iZ
 have hB40 := hB14.ch hc36 id
 refine yp 4 [] (.a (hB40.cs 0 9) .z) <| yo (yQ (numbers_any (PS.mk (3) ⟨0, 0, 0, 0⟩ m l ByteArray.empty (0)) pa (pn) (pc) _ hr39 hl hz hn hb) fun w42 hc41 => ?_)
 have hu43 := Up.step hu38 hc41 iZ
 have hB45 := hB40.ch hc41 id
 refine yp 12 [] (.l (hB45.c 7) .z) <| ye <| x_ret (rS (rB (rS (rB (rS (rB (rS (yR1 (.bool ((ByteArray.empty).toList == (ByteArray.empty).toList)) ?_))))))))
 refine ⟨congrArg Ending.returned (congrArg Value.bool ?_), Up.ch hu43⟩
 first | rfl | simp
set_option maxHeartbeats 4000000 in
theorem right_4 (m : ByteArray) (l : List Int) (pn : Nat) (pa : Option Addr) (pc : Nat) (w : World) (hma : (0 : Int) ≤ (m.size : Int) ∧ m.size ≤ 2) (hmm : allB wideM m) (hr : Rd w pa (l.map (Value.int .i64))) (hl : l.length = pn) (hz : pn = 0 ∨ ∃ b o, pa = some ⟨b, o, none⟩) (hn : pn ≤ 8) (hb : ∀ x ∈ l, 0 ≤ x ∧ x ≤ 9999) : Calls Tryz.prog 18 [.agg #[iX 4, uX 0, uX 0, uX 0, iX 0, .string m, .slice pa pn pc, .string ByteArray.empty, iX 0]].toArray w fun e w' => e = .returned (.bool true) ∧ Ch (fun _ => False) w w' := by
 refine yA Tryz.func18 rfl <| ysr <| yo (yN [iX 4, uX 0, uX 0, uX 0, iX 0, .string m, .slice pa pn pc, .string ByteArray.empty, iX 0] 54 fun w10 b11 hb12 hz13 hB14 hc15 => ?_)
 have hlo16 : w.heap.size ≤ b11 := by rw [hb12]; exact Ch.size (Up.refl w.heap.size w)
 have hu17 := Up.step (Up.refl w.heap.size w) hc15 iZ
 have hr18 := Rd.ch hr hc15 iZ
 refine yp 2 [] .z <| ye <| ysr <| yp 5 [] (.a (hB14.cs 1 4) .z) <| ye <| ysr <| yp 4 [] (.l (hB14.c 5) .z) <| yw [12] (rY ((m).toList == (ByteArray.empty).toList)) (fun hC19 => ?_) fun hC19 => ?_
 ·have hf20 := hC19
  refine yp 10 [] (.l (hB14.c 6) .z) <| ye <| ys <| ysr <| yp 17 [] (.l (hB14.c 0) (.l (hB14.c 8) (.l (hB14.c 0) .z))) <| ye <| yc (rN (rY ((((0 : Int) == 0) && (((0 : Int) == 0) && (((0 : Int) == 0) && true))) && (((0 : Int) == 0) && true)))) (fun hC21 => ?_) fun hC21 => ?_
  ·exact absurd hC21 (by decide)
  have hf22 := hC21
  refine yk <| ys <| ysr <| yp 2 [] (.l (hB14.c 0) .z) <| ye <| x_block <| ys <| x_block <| ys <| x_block <| ys <| x_block <| ys <| x_block <| ys <| x_block <| ys <| x_block <| ys <| ys <| ysr <| yp 2 [] .z <| ye <| ycf <| yk <| ys <| ysr <| yp 2 [] .z <| ye <| ycf <| yk <| ys <| ysr <| yp 2 [] .z <| ye <| ycf <| yk <| ys <| ys <| ysr <| yp 2 [] .z <| ye <| ycf <| x_region <| yp 2 [] .z <| ye <| yct <| x_exit (eS (eS (eB (eS (eB (eS (eB (eS (block_exit (nS ?_))))))))))
  refine ys <| ysr <| yp 1 [] (.a (hB14.cs 0 9) .z) <| yo (yQ (marks_wide (PS.mk (4) ⟨0, 0, 0, 0⟩ m l ByteArray.empty (0)) pa (pn) (pc) (0) _ hma hmm) fun w24 hc23 => ?_)
  have hu25 := Up.step hu17 hc23 iZ
  have hr26 := Rd.ch hr18 hc23 iZ
  have hB27 := hB14.ch hc23 id
  refine yp 4 [] (.a (hB27.cs 0 9) .z) <| yo (yQ (numbers_any (PS.mk (4) ⟨0, 0, 0, 0⟩ m l ByteArray.empty (0)) pa (pn) (pc) _ hr26 hl hz hn hb) fun w29 hc28 => ?_)
  have hu30 := Up.step hu25 hc28 iZ
  have hB32 := hB27.ch hc28 id
  refine yp 12 [] (.l (hB32.c 7) .z) <| ye <| x_ret (rS (rB (rS (rB (rS (rB (rS (yR1 (.bool ((ByteArray.empty).toList == (ByteArray.empty).toList)) ?_))))))))
  refine ⟨congrArg Ending.returned (congrArg Value.bool ?_), Up.ch hu30⟩
  first | rfl | simp
 have hf33 := hC19
 refine yp 10 [] .z <| ye <| ys <| ysr <| yp 17 [] (.l (hB14.c 0) (.l (hB14.c 8) (.l (hB14.c 0) .z))) <| ye <| yc (rN (rY ((((0 : Int) == 0) && (((0 : Int) == 0) && (((0 : Int) == 0) && true))) && (((0 : Int) == 0) && true)))) (fun hC34 => ?_) fun hC34 => ?_
 ·exact absurd hC34 (by decide)
 have hf35 := hC34
 refine yk <| ys <| ysr <| yp 2 [] (.l (hB14.c 0) .z) <| ye <| x_block <| ys <| x_block <| ys <| x_block <| ys <| x_block <| ys <| x_block <| ys <| x_block <| ys <| x_block <| ys <| ys <| ysr <| yp 2 [] .z <| ye <| ycf <| yk <| ys <| ysr <| yp 2 [] .z <| ye <| ycf <| yk <| ys <| ysr <| yp 2 [] .z <| ye <| ycf <| yk <| ys <| ys <| ysr <| yp 2 [] .z <| ye <| ycf <| x_region <| yp 2 [] .z <| ye <| yct <| x_exit (eS (eS (eB (eS (eB (eS (eB (eS (block_exit (nS ?_))))))))))
 refine ys <| ysr <| yp 1 [] (.a (hB14.cs 0 9) .z) <| yo (yQ (marks_wide (PS.mk (4) ⟨0, 0, 0, 0⟩ m l ByteArray.empty (0)) pa (pn) (pc) (0) _ hma hmm) fun w37 hc36 => ?_)
 have hu38 := Up.step hu17 hc36 iZ
 have hr39 := Rd.ch hr18 hc36 iZ
 have hB40 := hB14.ch hc36 id
 refine yp 4 [] (.a (hB40.cs 0 9) .z) <| yo (yQ (numbers_any (PS.mk (4) ⟨0, 0, 0, 0⟩ m l ByteArray.empty (0)) pa (pn) (pc) _ hr39 hl hz hn hb) fun w42 hc41 => ?_)
 have hu43 := Up.step hu38 hc41 iZ
 have hB45 := hB40.ch hc41 id
 refine yp 12 [] (.l (hB45.c 7) .z) <| ye <| x_ret (rS (rB (rS (rB (rS (rB (rS (yR1 (.bool ((ByteArray.empty).toList == (ByteArray.empty).toList)) ?_))))))))
 refine ⟨congrArg Ending.returned (congrArg Value.bool ?_), Up.ch hu43⟩
 first | rfl | simp
set_option maxHeartbeats 4000000 in
theorem right_50 (x : ByteArray) (pa : Option Addr) (pc : Nat) (w : World) (htz : x.size ≤ 40) (htm : allB (fun c => 32 ≤ c) x) : Calls Tryz.prog 18 [.agg #[iX 5, uX 0, uX 0, uX 0, iX 0, .string ByteArray.empty, .slice pa 0 pc, .string x, iX 0]].toArray w fun e w' => e = .returned (.bool true) ∧ Ch (fun _ => False) w w' := by
 refine yA Tryz.func18 rfl <| ysr <| yo (yN [iX 5, uX 0, uX 0, uX 0, iX 0, .string ByteArray.empty, .slice pa 0 pc, .string x, iX 0] 54 fun w10 b11 hb12 hz13 hB14 hc15 => ?_)
 have hlo16 : w.heap.size ≤ b11 := by rw [hb12]; exact Ch.size (Up.refl w.heap.size w)
 have hu17 := Up.step (Up.refl w.heap.size w) hc15 iZ
 refine yp 2 [] .z <| ye <| ysr <| yp 5 [] (.a (hB14.cs 1 4) .z) <| ye <| ysr <| yp 4 [] (.l (hB14.c 5) .z) <| yw [12] (rY ((ByteArray.empty).toList == (ByteArray.empty).toList)) (fun hC18 => ?_) fun hC18 => ?_
 ·have hf19 := hC18
  refine yp 10 [] (.l (hB14.c 6) .z) <| ye <| ys <| ysr <| yp 17 [] (.l (hB14.c 0) (.l (hB14.c 8) (.l (hB14.c 0) .z))) <| ye <| yc (rN (rY ((((0 : Int) == 0) && (((0 : Int) == 0) && (((0 : Int) == 0) && true))) && (((0 : Int) == 0) && true)))) (fun hC20 => ?_) fun hC20 => ?_
  ·exact absurd hC20 (by decide)
  have hf21 := hC20
  refine yk <| ys <| ysr <| yp 2 [] (.l (hB14.c 0) .z) <| ye <| x_block <| ys <| x_block <| ys <| x_block <| ys <| x_block <| ys <| x_block <| ys <| x_block <| ys <| x_block <| ys <| ys <| ysr <| yp 2 [] .z <| ye <| ycf <| yk <| ys <| ysr <| yp 2 [] .z <| ye <| ycf <| yk <| ys <| ysr <| yp 2 [] .z <| ye <| ycf <| yk <| ys <| ys <| ysr <| yp 2 [] .z <| ye <| ycf <| x_region <| yp 2 [] .z <| ye <| ycf <| yk <| ys <| ysr <| yp 2 [] .z <| ye <| ycf <| yk <| ys <| ysr <| yp 2 [] .z <| ye <| yct <| yk <| yct <| x_exit (eS (eB (eS (eB (eS (eB (eS (eB (eS (eB (eS (block_exit (nS ?_)))))))))))))
  refine ys <| ysr <| yp 3 [] (.a (hB14.cs 0 9) .z) <| yo (yQ (ptext_any (PS.mk (5) ⟨0, 0, 0, 0⟩ ByteArray.empty [] x (0)) pa (0) (pc) _ htz htm) fun w23 hc22 => ?_)
  have hu24 := Up.step hu17 hc22 iZ
  refine yp 6 [] .z <| ye <| x_ret (rS (rB (rS (yR1 (.bool true) ?_))))
  refine ⟨congrArg Ending.returned (congrArg Value.bool ?_), Up.ch hu24⟩
  first | rfl | simp
 exact absurd hC18 (by simp)
set_option maxHeartbeats 4000000 in
theorem right_60 (x : ByteArray) (pa : Option Addr) (pc : Nat) (w : World) (htz : x.size ≤ 40) (htm : allB (fun c => 32 ≤ c) x) : Calls Tryz.prog 18 [.agg #[iX 6, uX 0, uX 0, uX 0, iX 0, .string ByteArray.empty, .slice pa 0 pc, .string x, iX 0]].toArray w fun e w' => e = .returned (.bool true) ∧ Ch (fun _ => False) w w' := by
 refine yA Tryz.func18 rfl <| ysr <| yo (yN [iX 6, uX 0, uX 0, uX 0, iX 0, .string ByteArray.empty, .slice pa 0 pc, .string x, iX 0] 54 fun w10 b11 hb12 hz13 hB14 hc15 => ?_)
 have hlo16 : w.heap.size ≤ b11 := by rw [hb12]; exact Ch.size (Up.refl w.heap.size w)
 have hu17 := Up.step (Up.refl w.heap.size w) hc15 iZ
 refine yp 2 [] .z <| ye <| ysr <| yp 5 [] (.a (hB14.cs 1 4) .z) <| ye <| ysr <| yp 4 [] (.l (hB14.c 5) .z) <| yw [12] (rY ((ByteArray.empty).toList == (ByteArray.empty).toList)) (fun hC18 => ?_) fun hC18 => ?_
 ·have hf19 := hC18
  refine yp 10 [] (.l (hB14.c 6) .z) <| ye <| ys <| ysr <| yp 17 [] (.l (hB14.c 0) (.l (hB14.c 8) (.l (hB14.c 0) .z))) <| ye <| yc (rN (rY ((((0 : Int) == 0) && (((0 : Int) == 0) && (((0 : Int) == 0) && true))) && (((0 : Int) == 0) && true)))) (fun hC20 => ?_) fun hC20 => ?_
  ·exact absurd hC20 (by decide)
  have hf21 := hC20
  refine yk <| ys <| ysr <| yp 2 [] (.l (hB14.c 0) .z) <| ye <| x_block <| ys <| x_block <| ys <| x_block <| ys <| x_block <| ys <| x_block <| ys <| x_block <| ys <| x_block <| ys <| ys <| ysr <| yp 2 [] .z <| ye <| ycf <| yk <| ys <| ysr <| yp 2 [] .z <| ye <| ycf <| yk <| ys <| ysr <| yp 2 [] .z <| ye <| ycf <| yk <| ys <| ys <| ysr <| yp 2 [] .z <| ye <| ycf <| x_region <| yp 2 [] .z <| ye <| ycf <| yk <| ys <| ysr <| yp 2 [] .z <| ye <| ycf <| yk <| ys <| ysr <| yp 2 [] .z <| ye <| ycf <| x_region <| yp 2 [] .z <| ye <| yct <| x_exit (eS (eB (eS (eB (eS (eB (eS (eB (eS (eB (eS (block_exit (nS ?_)))))))))))))
  refine ys <| ysr <| yp 3 [] (.a (hB14.cs 0 9) .z) <| yo (yQ (ptext_any (PS.mk (6) ⟨0, 0, 0, 0⟩ ByteArray.empty [] x (0)) pa (0) (pc) _ htz htm) fun w23 hc22 => ?_)
  have hu24 := Up.step hu17 hc22 iZ
  refine yp 6 [] .z <| ye <| x_ret (rS (rB (rS (yR1 (.bool true) ?_))))
  refine ⟨congrArg Ending.returned (congrArg Value.bool ?_), Up.ch hu24⟩
  first | rfl | simp
 exact absurd hC18 (by simp)
set_option maxHeartbeats 4000000 in
theorem right_75 (x : ByteArray) (pa : Option Addr) (pc : Nat) (w : World) (htz : x.size ≤ 40) (htm : allB (fun c => 32 ≤ c) x) : Calls Tryz.prog 18 [.agg #[iX 7, uX 0, uX 0, uX 0, iX 0, .string ByteArray.empty, .slice pa 0 pc, .string x, iX 5]].toArray w fun e w' => e = .returned (.bool true) ∧ Ch (fun _ => False) w w' := by
 refine yA Tryz.func18 rfl <| ysr <| yo (yN [iX 7, uX 0, uX 0, uX 0, iX 0, .string ByteArray.empty, .slice pa 0 pc, .string x, iX 5] 54 fun w10 b11 hb12 hz13 hB14 hc15 => ?_)
 have hlo16 : w.heap.size ≤ b11 := by rw [hb12]; exact Ch.size (Up.refl w.heap.size w)
 have hu17 := Up.step (Up.refl w.heap.size w) hc15 iZ
 refine yp 2 [] .z <| ye <| ysr <| yp 5 [] (.a (hB14.cs 1 4) .z) <| ye <| ysr <| yp 4 [] (.l (hB14.c 5) .z) <| yw [12] (rY ((ByteArray.empty).toList == (ByteArray.empty).toList)) (fun hC18 => ?_) fun hC18 => ?_
 ·have hf19 := hC18
  refine yp 10 [] (.l (hB14.c 6) .z) <| ye <| ys <| ysr <| yp 17 [] (.l (hB14.c 0) (.l (hB14.c 0) .z)) <| ye <| yc (rN (rY ((((0 : Int) == 0) && (((0 : Int) == 0) && (((0 : Int) == 0) && true))) && (((0 : Int) == 0) && true)))) (fun hC20 => ?_) fun hC20 => ?_
  ·exact absurd hC20 (by decide)
  have hf21 := hC20
  refine yk <| ys <| ysr <| yp 2 [] (.l (hB14.c 0) .z) <| ye <| x_block <| ys <| x_block <| ys <| x_block <| ys <| x_block <| ys <| x_block <| ys <| x_block <| ys <| x_block <| ys <| ys <| ysr <| yp 2 [] .z <| ye <| ycf <| yk <| ys <| ysr <| yp 2 [] .z <| ye <| ycf <| yk <| ys <| ysr <| yp 2 [] .z <| ye <| ycf <| yk <| ys <| ys <| ysr <| yp 2 [] .z <| ye <| ycf <| x_region <| yp 2 [] .z <| ye <| ycf <| yk <| ys <| ysr <| yp 2 [] .z <| ye <| yct <| x_exit (eS (eS (eB (eS (eB (eS (eB (eS (eB (eS (block_exit (nS ?_))))))))))))
  refine ysr <| yp 8 [] (.l (hB14.c 8) .z) <| ye <| ycf <| x_skip (nB (nS ?_))
  refine ys <| ysr <| yp 3 [] (.a (hB14.cs 0 9) .z) <| yo (yQ (ptext_any (PS.mk (7) ⟨0, 0, 0, 0⟩ ByteArray.empty [] x (5)) pa (0) (pc) _ htz htm) fun w23 hc22 => ?_)
  have hu24 := Up.step hu17 hc22 iZ
  refine yp 6 [] .z <| ye <| x_ret (rS (rB (rS (yR1 (.bool true) ?_))))
  refine ⟨congrArg Ending.returned (congrArg Value.bool ?_), Up.ch hu24⟩
  first | rfl | simp
 exact absurd hC18 (by simp)
set_option maxHeartbeats 4000000 in
theorem right_76 (x : ByteArray) (pa : Option Addr) (pc : Nat) (w : World) (htz : x.size ≤ 40) (htm : allB (fun c => 32 ≤ c) x) : Calls Tryz.prog 18 [.agg #[iX 7, uX 0, uX 0, uX 0, iX 0, .string ByteArray.empty, .slice pa 0 pc, .string x, iX 6]].toArray w fun e w' => e = .returned (.bool true) ∧ Ch (fun _ => False) w w' := by
 refine yA Tryz.func18 rfl <| ysr <| yo (yN [iX 7, uX 0, uX 0, uX 0, iX 0, .string ByteArray.empty, .slice pa 0 pc, .string x, iX 6] 54 fun w10 b11 hb12 hz13 hB14 hc15 => ?_)
 have hlo16 : w.heap.size ≤ b11 := by rw [hb12]; exact Ch.size (Up.refl w.heap.size w)
 have hu17 := Up.step (Up.refl w.heap.size w) hc15 iZ
 refine yp 2 [] .z <| ye <| ysr <| yp 5 [] (.a (hB14.cs 1 4) .z) <| ye <| ysr <| yp 4 [] (.l (hB14.c 5) .z) <| yw [12] (rY ((ByteArray.empty).toList == (ByteArray.empty).toList)) (fun hC18 => ?_) fun hC18 => ?_
 ·have hf19 := hC18
  refine yp 10 [] (.l (hB14.c 6) .z) <| ye <| ys <| ysr <| yp 17 [] (.l (hB14.c 0) (.l (hB14.c 0) .z)) <| ye <| yc (rN (rY ((((0 : Int) == 0) && (((0 : Int) == 0) && (((0 : Int) == 0) && true))) && (((0 : Int) == 0) && true)))) (fun hC20 => ?_) fun hC20 => ?_
  ·exact absurd hC20 (by decide)
  have hf21 := hC20
  refine yk <| ys <| ysr <| yp 2 [] (.l (hB14.c 0) .z) <| ye <| x_block <| ys <| x_block <| ys <| x_block <| ys <| x_block <| ys <| x_block <| ys <| x_block <| ys <| x_block <| ys <| ys <| ysr <| yp 2 [] .z <| ye <| ycf <| yk <| ys <| ysr <| yp 2 [] .z <| ye <| ycf <| yk <| ys <| ysr <| yp 2 [] .z <| ye <| ycf <| yk <| ys <| ys <| ysr <| yp 2 [] .z <| ye <| ycf <| x_region <| yp 2 [] .z <| ye <| ycf <| yk <| ys <| ysr <| yp 2 [] .z <| ye <| yct <| x_exit (eS (eS (eB (eS (eB (eS (eB (eS (eB (eS (block_exit (nS ?_))))))))))))
  refine ysr <| yp 8 [] (.l (hB14.c 8) (.l (hB14.c 8) .z)) <| ye <| ycf <| x_skip (nB (nS ?_))
  refine ys <| ysr <| yp 3 [] (.a (hB14.cs 0 9) .z) <| yo (yQ (ptext_any (PS.mk (7) ⟨0, 0, 0, 0⟩ ByteArray.empty [] x (6)) pa (0) (pc) _ htz htm) fun w23 hc22 => ?_)
  have hu24 := Up.step hu17 hc22 iZ
  refine yp 6 [] .z <| ye <| x_ret (rS (rB (rS (yR1 (.bool true) ?_))))
  refine ⟨congrArg Ending.returned (congrArg Value.bool ?_), Up.ch hu24⟩
  first | rfl | simp
 exact absurd hC18 (by simp)
theorem right_any (p : PS) (pa : Option Addr) (pn pc : Nat) (w : World) (hU : UTabs w) (h : PRight p) (hl : p.lim) (hr : Rd w pa (p.params.map (Value.int .i64))) (hn : p.params.length = pn) (hz : pn = 0 ∨ ∃ b o, pa = some ⟨b, o, none⟩) :
    Calls Tryz.prog 18 [.agg (p.vals (.slice pa pn pc)).toArray].toArray w fun e w' => e = .returned (.bool true) ∧ Ch (fun _ => False) w w' := by
  obtain ⟨s, u, m, l, x, wi⟩ := p
  have hs : s = 0 ∨ s = 1 ∨ s = 2 ∨ s = 3 ∨ s = 4 ∨ s = 5 ∨ s = 6 ∨ s = 7 := by have := h.st; dsimp only at this; omega
  rcases hs with rfl | rfl | rfl | rfl | rfl | rfl | rfl | rfl
  · obtain rfl : m = ByteArray.empty := h.m (by dsimp only; decide) (by dsimp only; decide) (by dsimp only; decide)
    obtain rfl : l = [] := h.n (by dsimp only; decide) (by dsimp only; decide)
    obtain rfl : x = ByteArray.empty := h.t (by dsimp only; decide)
    obtain rfl : wi = 0 := h.wi (by dsimp only; decide)
    obtain rfl : 0 = pn := hn
    exact right_0 u.b0 u.b1 u.b2 u.n pa pc w hU h.u' hl.u
  · obtain rfl : u = u0 := h.u (by dsimp only; decide)
    obtain rfl : m = ByteArray.empty := h.m (by dsimp only; decide) (by dsimp only; decide) (by dsimp only; decide)
    obtain rfl : l = [] := h.n (by dsimp only; decide) (by dsimp only; decide)
    obtain rfl : x = ByteArray.empty := h.t (by dsimp only; decide)
    obtain rfl : wi = 0 := h.wi (by dsimp only; decide)
    obtain rfl : 0 = pn := hn
    exact right_1 pa pc w
  · obtain rfl : u = u0 := h.u (by dsimp only; decide)
    obtain rfl : l = [] := h.n (by dsimp only; decide) (by dsimp only; decide)
    obtain rfl : x = ByteArray.empty := h.t (by dsimp only; decide)
    obtain rfl : wi = 0 := h.wi (by dsimp only; decide)
    obtain rfl : 0 = pn := hn
    exact right_2 m pa pc w ⟨by have := (h.m2 rfl).1; dsimp only at this; omega, hl.m⟩ (h.m2 rfl).2
  · obtain rfl : u = u0 := h.u (by dsimp only; decide)
    obtain rfl : x = ByteArray.empty := h.t (by dsimp only; decide)
    obtain rfl : wi = 0 := h.wi (by dsimp only; decide)
    exact right_3 m l pn pa pc w ⟨by omega, hl.m⟩ (h.m3 (.inl rfl)) hr hn hz (by rw [← hn]; exact hl.n) hl.b
  · obtain rfl : u = u0 := h.u (by dsimp only; decide)
    obtain rfl : x = ByteArray.empty := h.t (by dsimp only; decide)
    obtain rfl : wi = 0 := h.wi (by dsimp only; decide)
    exact right_4 m l pn pa pc w ⟨by omega, hl.m⟩ (h.m3 (.inr rfl)) hr hn hz (by rw [← hn]; exact hl.n) hl.b
  · obtain rfl : u = u0 := h.u (by dsimp only; decide)
    obtain rfl : m = ByteArray.empty := h.m (by dsimp only; decide) (by dsimp only; decide) (by dsimp only; decide)
    obtain rfl : l = [] := h.n (by dsimp only; decide) (by dsimp only; decide)
    obtain rfl : wi = 0 := h.wi (by dsimp only; decide)
    obtain rfl : 0 = pn := hn
    exact right_50 x pa pc w hl.t h.t5
  · obtain rfl : u = u0 := h.u (by dsimp only; decide)
    obtain rfl : m = ByteArray.empty := h.m (by dsimp only; decide) (by dsimp only; decide) (by dsimp only; decide)
    obtain rfl : l = [] := h.n (by dsimp only; decide) (by dsimp only; decide)
    obtain rfl : wi = 0 := h.wi (by dsimp only; decide)
    obtain rfl : 0 = pn := hn
    exact right_60 x pa pc w hl.t h.t5
  · obtain rfl : u = u0 := h.u (by dsimp only; decide)
    obtain rfl : m = ByteArray.empty := h.m (by dsimp only; decide) (by dsimp only; decide) (by dsimp only; decide)
    obtain rfl : l = [] := h.n (by dsimp only; decide) (by dsimp only; decide)
    obtain rfl : 0 = pn := hn
    have hw : wi = 5 ∨ wi = 6 := h.wc rfl
    rcases hw with rfl | rfl
    · exact right_75 x pa pc w hl.t h.t5
    · exact right_76 x pa pc w hl.t h.t5
end Go.Proofs.YteoejhjfbfacdaaGreatDoor.X
namespace Go.Proofs.YteoejhjfbfacdaaGreatDoor.X
open Go Go.RowKit Go.Proofs.YteoejhjfbfacdaaGreatDoor
abbrev tStr : TypeId := 9
def oB (o : Option Nat) (vs : List Value) : List (Nat × List Value × TypeId) := match o with
 | none => []
 | some b => [(b, vs, tStr)]
structure OwS (o : Option Nat) (n oc : Nat) (xs rest : List Value) : Prop where
 len : xs.length = n
 le : n ≤ oc
 mx : oc ≤ maxLen
 no : o = none → n = 0 ∧ oc = 0
 rest : rest.length = oc - n
section
variable {w0 w w' : World} {bs os : List (Nat × List Value × TypeId)} {ts : List (Nat × TS)}
theorem Sys.pick (h : Sys w0 w bs ts) {cs : List (Nat × List Value × TypeId)} (f : Nat → Nat) (hf : ∀ (i : Nat) x, cs[i]? = some x → bs[f i]? = some x) (hi : ∀ i j, i < cs.length → j < cs.length → i ≠ j → f i ≠ f j) : Sys w0 w cs ts := by
 obtain ⟨F, h1, h2, h3, h4⟩ := h.tm
 have lt : ∀ (i : Nat) x, cs[i]? = some x → i < cs.length := fun i x e => (List.getElem?_eq_some_iff.1 e).1
 exact ⟨h.ch, h.lt, h.top, fun i x e => h.blk _ x (hf i x e), fun i x e => h.lo _ x (hf i x e), fun i j x y e e' hne => h.df _ _ x y (hf i x e) (hf j y e') (hi i j (lt i x e) (lt j y e') hne), F, h1, h2, h3, fun i j x e => h4 _ j x (hf i x e)⟩
theorem Sys.boxO (h : Sys w0 w (bs ++ os) ts) (hc : Ch (fun _ => False) w w') {b : Nat} {vs : List Value} {ty : TypeId} (hb : Blk w' b vs ty) (hz : w.heap.size ≤ b) : Sys w0 w' ((bs ++ [(b, vs, ty)]) ++ os) ts := by
 refine (h.box hc hb hz).pick (fun i => if i < bs.length then i else if i = bs.length then bs.length + os.length else i - 1) (fun i x e => ?_) (fun i j hi hj hne => ?_)
 ·have hl := (List.getElem?_eq_some_iff.1 e).1
  simp only [List.length_append, List.length_cons, List.length_nil] at hl
  split
  ·rename_i h1
   rw [List.append_assoc, List.getElem?_append_left h1] at e ⊢
   exact e
  ·rename_i h1
   split
   ·rename_i h2
    subst h2
    rw [List.getElem?_append_left (by simp), List.getElem?_append_right (Nat.le_refl _), Nat.sub_self] at e
    rw [List.getElem?_append_right (by simp)]
    simpa using e
   ·rename_i h2
    rw [List.getElem?_append_right (by simp; omega)] at e
    rw [List.getElem?_append_left (by simp; omega), List.getElem?_append_right (by omega)]
    simp only [List.length_append, List.length_cons, List.length_nil] at e
    rw [show i - 1 - bs.length = i - (bs.length + (0 + 1)) by omega]
    exact e
 ·simp only [List.length_append, List.length_cons, List.length_nil] at hi hj
  split <;> split <;> (try split) <;> (try split) <;> omega
theorem Sys.own {o : Option Nat} {n oc : Nat} {xs rest : List Value} (h : Sys w0 w (bs ++ oB o (xs ++ rest)) ts) (ho : OwS o n oc xs rest) : Own w tStr 1 o n oc xs :=
 ⟨by rw [ho.len, Nat.mul_one], ho.le, ho.mx, ho.no, fun g e => ⟨rest, by rw [ho.rest, Nat.mul_one], by subst e; exact h.blk bs.length (g, xs ++ rest, tStr) (by simp [oB])⟩⟩
theorem OwS.nil : OwS none 0 0 [] [] := ⟨rfl, Nat.le_refl _, Nat.zero_le _, fun _ => ⟨rfl, rfl⟩, rfl⟩
end
theorem OwS.some {o : Option Nat} {n oc : Nat} {xs rest : List Value} (h : OwS o n oc xs rest) (hn : 0 < n) : ∃ b, o = some b := by
 cases o with
 | none => have := (h.no rfl).1; omega
 | some b => exact ⟨b, rfl⟩
end Go.Proofs.YteoejhjfbfacdaaGreatDoor.X
